import Derived.Test.YtcokhbglfaakjaaGreatDoorQ18
set_option linter.all false
set_option maxHeartbeats 0
namespace Go.Sx
open Go Go.Proofs Tryz
set_option maxRecDepth 100000
section
variable {α:Type}{b:α}{c:Cfg}{ca cb:List CuS}{f i:Nat}{s:MS}
structure RX where
 pa:PrA
 all:Bool
 co:SV
 dv:SV
 de:SV
 lv:SV
 cu:SV
 ls:List SV
 l:List (Int×SV)
 D:List Bool
 lvs:List SV
abbrev mR (x:RX) (pl:Int) (e:Bool) (st vi:Nat):List Value:= [x.pa.av.val,x.pa.cu.val,x.pa.ne.val,.bool x.all,x.pa.dr.val,x.pa.co.val,x.co.val,x.dv.val,x.de.val,x.lv.val,x.cu.val,.int .i64 pl,.bool e,.int .i64 ((st:Nat):Int),.int .i64 ((vi:Nat):Int)]
class nK (H:dD) (x:RX) (p:outParam PrG) (q:outParam PtD) (ins:outParam (List Ins)):Prop where
 pr:il H x.pa p
 co:Sl H x.co l7 ins
 dv:Sl H x.dv eD x.l
 docs:gK H x.l q.ds
 de:Sl H x.de eBo x.D
 dead:x.D.length=q.ds.length∧∀i,i<q.ds.length→x.D[i]? =some (l8 q.dw i)
 lv:Sl H x.lv eSV x.lvs
 lens:x.lvs.length=q.fs.length∧∀i s,x.lvs[i]? =some s→Sl H s eI (dT (eL q.fs q.ds i))
 po:x.ls.length=p.curs.length∧∀k s,x.ls[k]? =some s→gV H s ((fa p q).getD k [])
 all:x.all=p.all
section
variable {H:dD}{x:RX}{p:PrG}{q:PtD}{ins:List Ins}
theorem nK.less {H':dD}(hs:dH H' H) (h:nK H x p q ins):nK H' x p q ins:=⟨h.pr.less hs,ee hs h.co,ee hs h.dv,h.docs.less hs,ee hs h.de,h.dead,ee hs h.lv,⟨h.lens.1,λi s hi=>ee hs (h.lens.2 i s hi)⟩,⟨h.po.1,λk s hk=>(h.po.2 k s hk).less hs⟩,h.all⟩
instance nK.tail {A:Hp} [h:nK H x p q ins]:nK (A::H) x p q ins:=h.less (dH.drop dH.refl)
instance [h:nK H x p q ins]:il H x.pa p:=h.pr
instance [h:nK H x p q ins]:Sl H x.co l7 ins:=h.co
instance [h:nK H x p q ins]:Sl H x.dv eD x.l:=h.dv
instance [h:nK H x p q ins]:Sl H x.de eBo x.D:=h.de
instance [h:nK H x p q ins]:Sl H x.lv eSV x.lvs:=h.lv
end
theorem wK {bs:List α}{cs:List CuS}{c:CuS}(h1:bs[i]? =some b) (h2:cs[i]? =some c):(bs.zip cs)[i]? =some (b,c):=by rw[List.getElem?_zip_eq_some];exact⟨h1,h2⟩
theorem BF {bs:List α}{cs:List CuS}{c:CuS}(h1:bs[i]? =some b):(bs.zip cs).set i (b,c)=bs.zip (cs.set i c):=by
 apply Vz;intro j;rw[Vf]
 by_cases hij:i=j
 ·subst hij;rw[if_pos rfl]
  by_cases hl:i<cs.length
  ·rw[if_pos (by rw[S4];have:=(Yk.1 h1).1;omega),wK h1 (Ue hl)]
  ·rw[if_neg dx,Xz (by rw[S4,Ub];omega)]
 ·rw[if_neg hij];simp only[List.zip,List.getElem?_zipWith,Vf,if_neg hij]
theorem tg {H:dD}{x:RX}{p:PrG}{q:PtD}{ins:List Ins}{cs:List CuS}{k:Nat}(h:nK H x p q ins) (hc:iq (fa p q) cs) (hk:k<p.curs.length):∃s c,x.ls[k]? =some s∧cs[k]? =some c∧(x.ls.zip cs)[k]? =some (s,c)∧k<(x.ls.zip cs).length∧cs.getD k fo=c∧cs.set k c=cs∧jU c∧gV H s c.ps:=by
 have hl:=hc.len;have hpl:(fa p q).length=p.curs.length:=Yh ..;obtain⟨s,b⟩:∃s,x.ls[k]? =some s:=⟨_,Yi (by rw[h.po.1];exact hk)⟩;obtain⟨c,a⟩:=gE cs k;have f:cs.getD k fo=c:=by rw[Xj,a];all_goals rfl
 have e:=wK b a;have d:(fa p q).getD k []=c.ps:=by rw[←hc.same,Xj,Xd,a];all_goals rfl
 exact⟨s,c,b,a,e,(Yk.1 e).1,f,by rw[←f];exact xg cs k,hc.get a,by rw[←d];exact h.po.2 k s b⟩
section
variable {G:dJ}{H R1 R2:dD}{m k d:Nat}{x:RX}{p:PrG}{q:PtD}{ins:List Ins}{cs:List CuS}{pl:Int}{e:Bool}{st vi:Nat}
theorem SI {t:Int} [h1:Rem H Vr m (mR x pl e st vi) R1] [h2:mh R1 x.cu eRc (x.ls.zip cs) R2] [hf:nK R2 x p q ins] (g:iq (fa p q) cs) (hk:k<p.curs.length):
 SC G prog 103 [pA m,iN k,.int .i64 t] H (λv l=>v=.tuple #[]∧l=Vr m (mR x pl e st vi)::Row x.cu eRc (x.ls.zip (cs.set k (if gz (cs.getD k fo).ps (cs.getD k fo).u<t then jK (cs.getD k fo) t else cs.getD k fo)))::R2):=by
 obtain⟨s,c,j,hc,h,hzl,f,d,b,hpo⟩:=tg hf g hk;have hcn:=b.small.1;rw[f];refine SC.less (dH.rem h1 (gi h2 dH.refl).keep) ?_;refine sWk func103 ?_;refine ws_ (wr_ (e_ mv (e_ nck (e_ fla (e_ ldv (e_ mv (e_ ixa (e_ (gr (hy:=h)) ?_))))))));refine d1_ rfl (Cy (gV.less hsb hpo) b.at_ bO) (gW (λh1=>?_) (λh1=>?_))
 ·rw[if_pos h1];refine wD [15] (λk H=>(k=3→dQ H m (mR x pl e st vi))∧(k=8→dQ H m (mR x pl e st vi))∧(k=10→Sl H x.cu eRc (x.ls.zip cs))∧(k=11→Sl H x.cu eRc (x.ls.zip cs))∧(k=13→gV H s c.ps)∧(k=14→Sl H x.cu eRc (x.ls.zip cs))) (aF 0 (k:=aF 1 (k:=aF 2 (k:=?_))));refine aN 3 rfl (λH hH=>ah) ?_;refine aF 4 (k:=aF 5 (k:=aF 6 (k:=aF 7 (k:=?_))));refine aN 8 rfl (λH hH=>ar) ?_;refine aF 9 (k:=?_);refine aN 10 rfl (λH hH=>aG) ?_;refine aN 11 rfl (λH hH=>by have hN:=hH.2.2.2.1 rfl;exact gr (hy:=h)) ?_;refine aF 12 (k:=?_);refine dS 13 rfl rfl aa rfl (λH hH=>v2_ (XA (by have hN:=hH.2.2.2.2.1 rfl;exact hN) b)) ?_;refine go ?_;refine kg 15 rfl aa rfl (λk hk=>⟨λhi=>aR,λhi=>aR,λhi=>aR,λhi=>aR,λhi=>aR,λhi=>aR⟩) (et (i:=k) (a:=(s,jK c t)) rfl rfl bH hzl) ?_;rintro _ _ ⟨rfl,rfl⟩;rw[BF j];refine aZ (rT (k:=?_));exact⟨_,hsb,rfl,rfl⟩
 rw[if_neg h1,d];exact gZ
theorem Gq [h1:dQ H m (mR x pl e st vi)] [hf:nK H x p q ins] (hd:d<q.ds.length):SC G prog 105 [pA m,iN d] H (λv c=>v=.bool (!l8 q.dw d)∧c=H):=by
 obtain⟨hD1,b⟩:=hf.dead;have a:=b d hd;refine sWk func105 ?_;refine ws_ (wr_ (e_ asn (on_ (qn_ (ws_ (wr_ (e_ mv (e_ mv (e_ nck (e_ fla (e_ ldv (e_ lnn (e_ ige ?_)))))))))))));refine e_ mv (ep 9 21 (k:=λh1=>eg_ mv (eg_ nck (eg_ fla (eg_ ldv (eg_ mv (eg_ ixa (eg_ (lel (hy:=a)) (eg_ mN (e_ pkf (on_ edq)))))))))) (q:=e_ asn (on_ (qn_ (wt_ (rT (k:=?_)))))));exact⟨_,hsb,by rw[Yr a8];all_goals rfl,rfl⟩
theorem qW:lj c i=if i<c.ids.length then(if c.dead i=true then lj c (i+1)else some i)else none:=by
 unfold lj
 by_cases h:i<c.ids.length
 ·rw[if_pos h,eh (l:=List.range c.ids.length) (i:=i) (x:=i) (by rw[Ur h]),List.find?_cons];all_goals (cases c.dead i <;> rfl)
 ·rw[if_neg h,Vn (by rw[List.length_range];omega)];all_goals rfl
def NxI (c:Cfg) (s:MS) (f:Nat) (pl:Int) (ca:List CuS):Prop:=
 (c.p.all=true→ca=s.cs∧lj c (s.pl+1).toNat=lj c (pl+1).toNat)∧(¬c.p.all=true→2147483647≤((f:Nat):Int)+pl∧fE c 2147483648 s.pl s.cs=fE c f pl ca)
def NxT (c:Cfg) (s:MS) (f:Nat) (d:Int) (cb:List CuS):Prop:=
 (c.p.all=true→cb=s.cs∧0≤d∧lj c (s.pl+1).toNat=lj c d.toNat)∧
 (¬c.p.all=true→1≤f∧2147483647≤((f-1:Nat):Int)+d∧(d=2147483647∨(0≤d∧d<((c.ids.length:Nat):Int)))∧∃pl,fE c 2147483648 s.pl s.cs=(if d=2147483647 then(false,pl,cb)else if kU c d=true then(true,d,cb)else fE c (f-1) d cb))
theorem Tf {pl d:Int}(h:NxI c s f pl ca) (ha:c.p.all=true) (hd:d=pl+1) (hp: -1≤pl):NxT c s f d ca:=
 ⟨λ_=>⟨(h.1 ha).1,a8,by rw[(h.1 ha).2,hd]⟩,λh9=>absurd ha h9⟩
theorem Te {pl d:Int}(h:NxI c s f pl ca) (ha:¬c.p.all=true) (hd:jJ pl c.p.drive ca 2147483647=(cb,d)) (hp: -1≤pl) (hp2:pl<2147483647) (hpd:pl<d) (hs:d=2147483647∨d<(c.ids.length:Int)):NxT c s f d cb:=by
 refine⟨λh9=>absurd h9 ha,λ_=>?_⟩;obtain⟨g1,a⟩:=h.2 ha;obtain⟨f,rfl⟩:∃g,f=g+1:=⟨f-1,a8⟩;refine⟨a8,a8,a8,pl,?_⟩;rw[a,fE,hd];all_goals rfl
theorem GB {d:Int}(h:NxT c s f d cb) (hd:(c.ids.length:Int)≤d):(eQ c s).1=false∧(eQ c s).2.cs=cb:=by
 unfold eQ
 by_cases ha:c.p.all=true
 ·obtain⟨e,g0,b⟩:=h.1 ha;rw[if_pos ha,b,qW,if_neg a8];exact⟨rfl,e.symm⟩
 ·obtain⟨_,_,g3,pl,a⟩:=h.2 ha;rw[if_neg ha,a,if_pos a8];exact⟨rfl,rfl⟩
theorem GA {a:Nat}(h:NxT c s f (a:Int) cb) (hd:a<c.ids.length) (hd2:(a:Int)<2147483647) (b:c.dead a=false):(eQ c s).1=true∧(eQ c s).2.cs=cb∧(eQ c s).2.pl=(a:Int):=by
 unfold eQ
 by_cases ha:c.p.all=true
 ·obtain⟨i,g0,g⟩:=h.1 ha;rw[if_pos ha,g,Ve,qW,if_pos hd,if_neg (by rw[b];decide)];exact⟨rfl,i.symm,rfl⟩
 ·obtain⟨_,_,g3,pl,e⟩:=h.2 ha;have d:kU c (a:Int)=true:=by
   unfold kU;rw[Ve,b,Ys a8,Ys a8];all_goals rfl
  rw[if_neg ha,e,if_neg a8,if_pos d];exact⟨rfl,rfl,rfl⟩
theorem CK {a:Nat}(h:NxT c s f (a:Int) cb) (hd:a<c.ids.length) (hd2:(a:Int)<2147483647) (b:c.dead a=true):NxI c s (f-1) (a:Int) cb:=by
 refine⟨λha=>?_,λha=>?_⟩
 ·obtain⟨e,g0,d⟩:=h.1 ha;refine⟨e,?_⟩;rw[d,Ve,qW,if_pos hd,if_pos b];exact congrArg (lj _) a8
 ·obtain⟨e,d,g3,pl,i⟩:=h.2 ha;refine⟨a8,?_⟩;have g:kU c (a:Int)=false:=by
   unfold kU;rw[Ve,b];simp
  rw[i,if_neg a8,if_neg (by rw[g];decide)]
theorem SQ {T:Nat}{x0:MX} [h1:Rem H Vr m (mR x s.pl e s.steps s.visits) R1] [h2:mh R1 x.cu eRc (x.ls.zip s.cs) R2] [hf:nK R2 x p q ins] (a1:SOk x0 p q (fa p q) T ins) (A:lT (dM p q ins) (fa p q) s) (b0:lq (dM p q ins) (fa p q).length) (hdl:p.drive.length≤1000000000) (a2:∀ps∈fa p q,∀z∈ps,z.1<q.ds.length):
 SC G prog 41 [pA m] H (λv H'=>((eQ (dM p q ins) s).1=true∧v=.int .i64 (eQ (dM p q ins) s).2.pl∧H'=Vr m (mR x (eQ (dM p q ins) s).2.pl e s.steps s.visits)::Row x.cu eRc (x.ls.zip (eQ (dM p q ins) s).2.cs)::R2)∨((eQ (dM p q ins) s).1=false∧v=.int .i64 (-1)∧∃X,H'=Vr m (mR x X e s.steps s.visits)::Row x.cu eRc (x.ls.zip (eQ (dM p q ins) s).2.cs)::R2)):=by
 have a:(dM p q ins).ids.length=q.ds.length:=by show(q.ds.map (·.1)).length=_;rw[Yh]
 have hqn:=a1.q.n;have a4:=A.lo;have a6:=A.hi;have hpl2:(fa p q).length=p.curs.length:=Yh ..;have hdl2:=hf.docs.1;have F:=hf.all;refine SC.less (dH.rem h1 (gi h2 dH.refl).keep) ?_;refine sWk func41 ?_;refine gk (k:=e8 (Int×(List CuS)×Nat) (λy=>-1≤y.1∧y.1<2147483647∧iq (fa p q) y.2.1∧NxI (dM p q ins) s y.2.2 y.1 y.2.1) (λy=>[]) [(0,_)] (λy=>[Vr m (mR x y.1 e s.steps s.visits),Row x.cu eRc (x.ls.zip y.2.1)]) R2 (λy=>(2147483647-y.1).toNat) ((s.pl,s.cs,2147483648)) (h0:=?_) (k:=?_))
 ·exact⟨a4,a6,A.cs,λ_=>⟨rfl,rfl⟩,λ_=>⟨a8,rfl⟩⟩
 rintro⟨pl,ca,f⟩ ⟨L,K,C,N⟩
 try dsimp only[Yd,Ye]at*
 obtain⟨d,S⟩:=ex (pl+1);refine wb_ (ws_ (wr_ (e_ mv (e_ nck (e_ fla (e_ ldv ?_))))));refine e_ (evq iad (congrArg (Value.int .i64) (show _=d from S.symm))) (go ?_);refine wi_ (k:=λh1=>?_) (m:=λh1=>?_)
 ·have a3:¬p.all=true:=by have h9:=h1;rw[F]at h9;simpa using h9
  refine go ?_;refine gk (k:=e8 (Nat×(List CuS)×Int) (λy=>y.1≤p.drive.length∧iq (fa p q) y.2.1∧y.2.2≤2147483647∧pl<y.2.2∧jJ pl p.drive ca 2147483647=jJ pl (p.drive.drop y.1) y.2.1 y.2.2) (λy=>[(4,.int .i64 y.2.2),(24,iN y.1)]) [(0,_),(22,_),(23,_)] (λy=>[Row x.cu eRc (x.ls.zip y.2.1)]) (Vr m (mR x pl e s.steps s.visits)::R2) (λy=>p.drive.length-y.1) ((0,ca,2147483647)) (h0:=?_) (k:=?_))
  ·exact⟨Yl _,C,T8 _,K,bC⟩
  rintro⟨i,cb,le⟩ ⟨hi,h,hle,R,n⟩
  try dsimp only[Yd,Ye]at*
  refine gW (λh2=>?_) λh2=>?_
  ·obtain⟨Y,B⟩:∃k,p.drive[i]? =some k:=⟨_,Yi aw⟩;obtain⟨kb1,kb2⟩:=b0 Y (Yj B);obtain⟨b,rfl⟩:∃b:Nat,Y=(b:Int):=⟨Y.toNat,a8⟩;rw[eh B,jJ,Ve]at n;have w:=h.set (f:=fR pl) b (λc hc=>rf hc) (λc=>oY pl c);obtain⟨s2,V,hs2,E,Z,hzl2,hgd2,hset2,r,hpo2⟩:=tg hf w (k:=b) a8;have U:fR pl (cb.getD b fo)=V:=by
    rw[Vf]at E;have a5:b<cb.length:=by rw[h.len];omega
    rw[if_pos rfl,if_pos a5]at E;exact Xk E
   have hcn2:=r.small.1;have a7:=ym (pl:=pl) (c:=cb.getD b fo) (by
    obtain⟨s3,c3,_,_,_,_,a9,_,M,_⟩:=tg hf h (k:=b) a8;rw[a9];exact M) a8
   have hdle:=PZ r.small V.u;rw[U]at a7 n;refine wk_ (qn_ (ws_ (wb_ (ws_ (wr_ (e_ ixa (e_ (lel (hy:=B)) (go ?_))))))));refine d3_ rfl (SI (t:=pl+1) (k:=b) h a8) ?_;rw[show(if gz (cb.getD b fo).ps (cb.getD b fo).u<pl+1 then jK (cb.getD b fo) (pl+1)else cb.getD b fo)=fR pl (cb.getD b fo)from by
    unfold fR
    by_cases h8:gz (cb.getD b fo).ps (cb.getD b fo).u≤pl
    ·rw[if_pos h8,if_pos a8]
    ·rw[if_neg h8,if_neg a8]]
   refine on_ (qn_ (wr_ (e_ mv (e_ mv (e_ nck (e_ fla (e_ ldv (e_ mv (e_ ixa (e_ (gr (hy:=Z)) ?_))))))))));refine d1_ rfl (Cy (gV.less hsb hpo2) r.at_ bO) ?_;refine e_ (oh rfl rfl) (go ?_);refine lN ((i+1,cb.set b (fR pl (cb.getD b fo)),min le (gz V.ps V.u))) ?_
   try dsimp only
   exact⟨a8,w,a8,a8,by rw[U];exact n⟩
  obtain rfl:i=p.drive.length:=aw;rw[Vi,jJ]at n;have g4:=zR a2 (pl:=pl) (ks:=p.drive) (le:=2147483647) C (.inl rfl);rw[n]at g4;have g:=Te (c:=dM p q ins) N a3 n L K R (by rw[a];exact g4);obtain⟨d,rfl⟩:=ex le;have J:=R;refine go ?_;refine gW (λh3=>?_) λh3=>?_
  ·have u:(q.ds.length:Int)≤d:=by have h9:=h3;omega
   have hend:=GB g (by rw[a];exact u);refine gR ?_;exact⟨Vr m (mR x pl e s.steps s.visits)::Row x.cu eRc (x.ls.zip cb)::R2,hsb,.inr ⟨hend.1,rfl,pl,by rw[hend.2]⟩⟩
  have u:d<(q.ds.length:Int):=aD;obtain⟨l,rfl⟩:∃l:Nat,d=(l:Int):=⟨d.toNat,a8⟩;refine go ?_;refine d2_ rfl (Gq (d:=l) a8) (gW (λh4=>?_) (λh4=>?_))
  ·have j:l8 q.dw l=false:=by have h9:=h4;simpa using h9
   have hend:=GA g (by rw[a];omega) a8 j;refine gR ?_;exact⟨Vr m (mR x (l:Int) e s.steps s.visits)::Row x.cu eRc (x.ls.zip cb)::R2,hsb,.inl ⟨hend.1,by rw[hend.2.2];all_goals rfl,by rw[hend.2.2,hend.2.1]⟩⟩
  have j:l8 q.dw l=true:=cZ;refine go ?_;refine lN (((l:Int),cb,f-1)) ?_
  try dsimp only
  exact⟨a8,a8,h,CK g (by rw[a];omega) a8 j⟩
 have a0:p.all=true:=by have h9:=h1;rw[F]at h9;simpa using h9
 have g:=Tf (c:=dM p q ins) N a0 S L;obtain⟨cb,rfl⟩:=ex ca;have h:=C;have J:pl<d:=a8;refine go ?_;refine wi_ (k:=λh5=>?_) (m:=λh5=>?_)
 ·have u:(q.ds.length:Int)≤d:=by have h9:=h5;omega
  have hend:=GB g (by rw[a];exact u);refine gR ?_;exact⟨Vr m (mR x pl e s.steps s.visits)::Row x.cu eRc (x.ls.zip cb)::R2,hsb,.inr ⟨hend.1,rfl,pl,by rw[hend.2]⟩⟩
 have u:d<(q.ds.length:Int):=aW;obtain⟨l,rfl⟩:∃l:Nat,d=(l:Int):=⟨d.toNat,a8⟩;refine go ?_;refine d2_ rfl (Gq (d:=l) a8) (gW (λh6=>?_) (λh6=>?_))
 ·have j:l8 q.dw l=false:=by have h9:=h6;simpa using h9
  have hend:=GA g (by rw[a];omega) a8 j;refine gR ?_;exact⟨Vr m (mR x (l:Int) e s.steps s.visits)::Row x.cu eRc (x.ls.zip cb)::R2,hsb,.inl ⟨hend.1,by rw[hend.2.2];all_goals rfl,by rw[hend.2.2,hend.2.1]⟩⟩
 have j:l8 q.dw l=true:=cY;refine go ?_;refine lN (((l:Int),cb,f-1)) ?_
 try dsimp only
 exact⟨a8,a8,h,CK g (by rw[a];omega) a8 j⟩
theorem Gl {w kf:Nat} [h1:dQ H m (mR x pl e st vi)] [hf:nK H x p q ins] (hk:kf<q.fs.length) (hk2:kf<p.avgs.length) (hd:d<q.ds.length) (ha:∀a∈p.avgs,0≤a) (hw:w<18446744073709551616):
 SC G prog 205 [pA m,iN kf,iN d,iN f,uN w] H (λv t=>v=vvV (sS (dM p q ins) d w f (kf:Int))∧t=H):=by
 obtain⟨i,g⟩:=gE p.avgs kf;have l:p.avgs.getD kf 0=i:=by rw[Xj,g];all_goals rfl
 have ha1:=ha i (Yj g);obtain⟨n,rfl⟩:∃n:Nat,i=(n:Int):=⟨i.toNat,a8⟩;have hlvl:=hf.lens.1;obtain⟨j,b⟩:∃s,x.lvs[kf]? =some s:=⟨_,Yi (by rw[hf.lens.1];exact hk)⟩;haveI hsl:=hf.lens.2 kf j b;have hll:(eL q.fs q.ds kf).length=q.ds.length:=du;have hil:=eJ (eL q.fs q.ds kf);obtain⟨r,c⟩:=ex ((eL q.fs q.ds kf).getD d 0);have h:(dT (eL q.fs q.ds kf))[d]? =some (r:Int):=by
  rw[dT,Xd,c,Xj,Yi a8];all_goals rfl
 refine sWk func205 ?_;refine gk (k:=alc (k:=λb10=>?_));refine go ?_;refine wD [23] (λk H=>(k=5→dQ H m (mR x pl e st vi))∧(k=7→Sl H x.lv eSV x.lvs)∧(k=8→Sl H x.lv eSV x.lvs)∧(k=10→Sl H j eI (dT (eL q.fs q.ds kf)))∧(k=11→Sl H j eI (dT (eL q.fs q.ds kf)))∧(k=16→dQ H m (mR x pl e st vi))∧(k=18→Sl H x.pa.av eI p.avgs)∧(k=19→Sl H x.pa.av eI p.avgs)) (aF 0 (k:=aF 1 (k:=aF 2 (k:=aF 3 (k:=aF 4 (k:=?_))))));refine aN 5 rfl (λH hH=>ah) ?_;refine aF 6 (k:=?_);refine aN 7 rfl (λH hH=>bZ) ?_;refine aN 8 rfl (λH hH=>by have hN:=hH.2.2.1 rfl;exact lel (hy:=b)) ?_;refine aF 9 (k:=?_);refine aN 10 rfl (λH hH=>bu) ?_;refine aN 11 rfl (λH hH=>by have hN:=hH.2.2.2.2.1 rfl;exact lel (hy:=h)) ?_;refine aF 12 (k:=aF 13 (k:=aF 14 (k:=aF 15 (k:=?_))));refine aN 16 rfl (λH hH=>by have hN:=hH.2.2.2.2.2.1 rfl;exact ldv) ?_;refine aF 17 (k:=?_);refine aN 18 rfl (λH hH=>by have hN:=hH.2.2.2.2.2.2.1 rfl;exact ixa) ?_;refine aN 19 rfl (λH hH=>by have hN:=hH.2.2.2.2.2.2.2 rfl;exact lel (hy:=g)) ?_;refine dS 20 rfl rfl aa rfl (λH hH=>lU (vs:= [_,_,_]) rfl ZC) ?_;refine aN 21 rfl (λH hH=>nZ 18446744073709551616 rfl rfl rfl rfl w (Co f r n) rfl rfl) ?_;refine af_ 22 (q:=ea λH hH=>bld [(0,_),(1,_)]) (k:=?_);refine aS 23 rfl (ej rfl rfl rfl) ?_;rintro _ _ ⟨rfl,rfl⟩;refine aZ (gR ?_);exact⟨_,hsb,by rw[sS,Ve];show _=vvV (true,w64 (w*Co f (qo ((List.range q.fs.length).map (eL q.fs q.ds)) kf d) (p.avgs.getD kf 0).toNat));rw[AU hk,l,←c];all_goals rfl,rfl⟩
end
end
section
variable {c:CuS}{l:List CuS}
theorem qY {d:Nat}:pT (d:Int) c=true↔gz c.ps c.u=(d:Int):=by unfold pT;exact decide_eq_true_iff
theorem A7 (slop:Int) (a:List (List Int)):∀(D:List Int) (as_:List Nat),kd slop a D as_≤D.length
 | [],_=>Xl _
 |b::r,as_=>by
  have h8:=A7 slop a r (gS b slop a as_).2;rw[kd,Yb]
  split <;> omega
theorem xe:∀(lists:List (List Nat)) (offs:List Int),(gX lists offs).flatten.length≤(lists.map List.length).sum
 |l::ls,o::os=>by
  have h8:=xe ls os;have h9:(sR l o).length=l.length:=by rw[sR,rA,Yh]
  rw[gX,List.flatten_cons,Ya,Xs,Vv];omega
 | [],_=>by simp[gX]
 |_::_, []=>by simp[gX]
theorem EE (lists:List (List Nat)) (offs:List Int) (slop:Int):jF lists offs slop≤(lists.map List.length).sum:=by
 unfold jF
 split
 ·omega
 ·refine Xi (A7 _ _ _ _) (Xi (um _) ?_);rw[rA];exact xe _ _
section
variable {G:dJ}{H R1 R2:dD}{m d T:Nat}{x:RX}{x0:MX}{p:PrG}{q:PtD}{ins:List Ins}{cs:List CuS}{pl:Int}{e:Bool}{st vi:Nat}
theorem SJ {A w:Nat} [h1:Rem H Vr m (mR x pl e st vi) R1] [h2:mh R1 x.cu eRc (x.ls.zip cs) R2] [hf:nK R2 x p q ins] (b:SOk x0 p q (fa p q) T ins) (l:iq (fa p q) cs) (hA:A<p.curs.length) (hd:d<q.ds.length) (L:w<18446744073709551616) (hT:T≤1000000000000):
 SC G prog 153 [pA m,iN A,iN d,uN w] H (λv M=>v=vvV (qE (dM p q ins) d A w cs).1∧M=Vr m (mR x pl e st vi)::Row x.cu eRc (x.ls.zip (qE (dM p q ins) d A w cs).2)::R2):=by
 obtain⟨⟨K,ky⟩,hfk⟩:∃z,p.curs[A]? =some z:=⟨_,Yi hA⟩;obtain⟨F,E⟩:=b.fd _ (Yj hfk);have hav:=b.av;simp only at F E;obtain⟨J,rfl⟩:∃n:Nat,K=(n:Int):=⟨K.toNat,a8⟩;have C:lX (dM p q ins) A=(J:Int):=df;have i:=l.set (f:=fJ d) A (λc hc=>qL hc) (λc=>qK _ c);obtain⟨s2,h,hs2,g,j,s,hgd2,hset2,a,hpo2⟩:=tg hf i hA;have hpl2:(fa p q).length=p.curs.length:=Yh ..;have r:fJ d (cs.getD A fo)=h:=by
  rw[Vf]at g;have y:A<cs.length:=by rw[l.len];omega
  rw[if_pos rfl,if_pos y]at g;exact Xk g
 have hcn2:=a.small.1;have hhl:(fj h).length≤1000000000000:=by
  have h8:=B4 h;have h9:=b.tot h.ps (by rw[←i.same];exact Vj (Yj g));omega
 have B:=eJ (fj h);rw[qE,r,C];refine SC.less (dH.rem h1 (gi h2 dH.refl).keep) ?_;refine sWk func153 ?_;refine gk (k:=alc (k:=λb8=>?_));refine go ?_;refine d3_ rfl (SI (t:=(d:Int)) (k:=A) l hA) ?_;rw[show(if gz (cs.getD A fo).ps (cs.getD A fo).u<(d:Int)then jK (cs.getD A fo) (d:Int)else cs.getD A fo)=h from by rw[←r];all_goals rfl];rw[r]at j s;refine on_ (qn_ (ws_ (ws_ (wr_ (e_ mv (e_ nck (e_ fla (e_ ldv (e_ mv (e_ ixa (e_ (gr (hy:=j)) ?_)))))))))));refine d1_ rfl (Cy (gV.less hsb hpo2) a.at_ bO) (gW (λh1=>?_) (λh1=>?_))
 ·rw[if_neg (by rw[qY];have h9:=h1;omega)];refine ws_ (wr_ (e_ (bld []) (gR ?_)));exact⟨_,hsb,rfl,rfl⟩
 rw[if_pos (by rw[qY];have h9:=h1;omega)];refine go ?_;refine wD [18,19,21,22] (λk H=>(k=2→dQ H m (mR x pl e st vi))∧(k=5→dQ H m (mR x pl e st vi))∧(k=7→Sl H x.pa.cu eLf p.curs)∧(k=8→Sl H x.pa.cu eLf p.curs)∧(k=9→Sl H x.pa.cu eLf p.curs)∧(k=12→dQ H m (mR x pl e st vi))∧(k=14→dQ H m (mR x pl e st vi))∧(k=16→Sl H x.cu eRc (x.ls.zip (cs.set A h)))∧(k=17→Sl H x.cu eRc (x.ls.zip (cs.set A h)))) (aF 0 (k:=aF 1 (k:=?_)));refine aN 2 rfl (λH hH=>by have hN:=hH.1 rfl;exact nck) ?_;refine aF 3 (k:=aF 4 (k:=?_));refine aN 5 rfl (λH hH=>ar) ?_;refine aF 6 (k:=?_);refine aN 7 rfl (λH hH=>aG) ?_;refine aN 8 rfl (λH hH=>by have hN:=hH.2.2.2.1 rfl;exact fle) ?_;refine aN 9 rfl (λH hH=>by have hN:=hH.2.2.2.2.1 rfl;exact lfl (hy:=hfk)) ?_;refine aF 10 (k:=aF 11 (k:=?_));refine aN 12 rfl (λH hH=>by have hN:=hH.2.2.2.2.2.1 rfl;exact nck) ?_;refine aF 13 (k:=?_);refine aN 14 rfl (λH hH=>by have hN:=hH.2.2.2.2.2.2.1 rfl;exact ldv) ?_;refine aF 15 (k:=?_);refine aN 16 rfl (λH hH=>by have hN:=hH.2.2.2.2.2.2.2.1 rfl;exact ixa) ?_;refine aN 17 rfl (λH hH=>by have hN:=hH.2.2.2.2.2.2.2.2 rfl;exact gr (hy:=j)) ?_;refine aF 20 (k:=?_);refine aS 18 rfl (lU (vs:= [_]) rfl (EB (R:=R2) hsb hpo2 a.at_ bO)) ?_;rintro _ _ ⟨⟨sh,rfl,u⟩,rfl⟩;haveI:=u;refine aS 19 rfl (Ev.st lnn) ?_;rintro _ _ ⟨rfl,rfl⟩;rw[B];refine aS 21 rfl (lU (vs:= [_,_,_,_,_]) rfl (Gl (x:=x) (p:=p) (q:=q) (ins:=ins) (w:=w) (f:=(fj h).length) (kf:=J) a8 a8 hd b.ap L)) ?_;rintro _ _ ⟨rfl,rfl⟩;refine aS 22 rfl (ej rfl rfl rfl) ?_;rintro _ _ ⟨rfl,rfl⟩;refine aZ (gR ?_);exact⟨_,hsb,rfl,rfl⟩
theorem LX (c:CuS):fj (jD c)=fj c:=by
 unfold jD
 split
 ·rfl
 ·unfold fj;rfl
theorem Pu (a:jU c) (hd:d<2147483647) (h:pT (d:Int) c=true):fj c≠ []:=by
 rw[qY]at h;cases hu:c.u with
 |zero=>rw[hu]at h;have h9:(-1:Int)=(d:Int):=h;omega
 |succ k=>
  rw[hu,gz]at h
  split at h
  ·rename_i z b;rw[r8 hu b];exact(jP a.ok b).2.1
  ·omega
theorem UL:pT (d:Int) (jD c)=pT (d:Int) c:=by unfold pT;rw[xy,XC]
theorem zF {i j:Nat}(hi:i<l.length):(l.set i c).getD j fo=if i=j then c else l.getD j fo:=by
 rw[Xj,Vf]
 by_cases h:i=j
 ·rw[if_pos h,if_pos h];subst h;rw[if_pos hi];all_goals rfl
 ·rw[if_neg h,if_neg h,←Xj]
theorem MT {i:Nat}{ks:List Int}(hi:i<l.length) (hc:pT (d:Int) c=true) (h:∀k∈ks,pT (d:Int) (l.getD k.toNat fo)=true):∀k∈ks,pT (d:Int) ((l.set i c).getD k.toNat fo)=true:=λk hk=>by
 rw[zF hi]
 split
 ·exact hc
 ·exact h k hk
theorem Kz {A w:Nat}{n:lI}{z1 z2:SV} [h1:Rem H Vr m (mR x pl e st vi) R1] [h2:mh R1 x.cu eRc (x.ls.zip cs) R2] [hf:nK R2 x p q ins] [hz1:Sl R2 z1 eI n.cs] [Z:Sl R2 z2 eI n.offs] (F:SOk x0 p q (fa p q) T ins) (d3:iq (fa p q) cs) (hn:p.nears[A]? =some n) (hd:d<q.ds.length) (hw:w<18446744073709551616):
 SC G prog 154 [pA m,.agg #[z1.val,z2.val,.int .i64 n.slop],iN d,uN w] H (λv H'=>v=vvV (jm (dM p q ins) d A w cs).1∧H'=Vr m (mR x pl e st vi)::Row x.cu eRc (x.ls.zip (jm (dM p q ins) d A w cs).2)::R2):=by
 obtain⟨a6,d5,hnl⟩:=F.near n (Yj hn);obtain⟨hn1,hno,a4,hsl2,hkb,c7⟩:=xK a6;have hqn:=F.q.n;have c8:(dM p q ins).p.nears.getD A CO=n:=by show p.nears.getD A CO=n;rw[Xj,hn];all_goals rfl
 have hpl2:(fa p q).length=p.curs.length:=Yh ..;rw[jm,c8];refine SC.less (dH.rem h1 (gi h2 dH.refl).keep) ?_;refine sWk func154 ?_;refine gk (k:=bxx (k:=λb5=>?_));refine alc (k:=λb8=>?_);refine on_ (qn_ (ws_ (ws_ (wr_ ?_))));dsimp only;refine gk (k:=e8 (Nat×(List CuS)) (λy=>y.1≤n.cs.length∧iq (fa p q) y.2∧qt (d:Int) n.cs cs=qt (d:Int) (n.cs.drop y.1) y.2∧∀k∈n.cs.take y.1,pT (d:Int) (y.2.getD k.toNat fo)=true) (λy=>[(18,iN y.1)]) [(0,_),(2,_),(3,_),(5,_),(8,_),(16,_),(17,_)] (λy=>[Row x.cu eRc (x.ls.zip y.2)]) (Vr m (mR x pl e st vi)::Vr b8 [.bool false,.int .u64 0]::Vr b5 [z1.val,z2.val,.int .i64 n.slop]::R2) (λy=>n.cs.length-y.1) ((0,cs)) (h0:=?_) (k:=?_))
 ·exact⟨Yl _,d3,bC,aq⟩
 rintro⟨i,U⟩ ⟨hi,S,g,M⟩
 try dsimp only[Yd,Ye]at*
 refine gW (λh1=>?_) λh1=>?_
 ·obtain⟨V,u⟩:∃k,n.cs[i]? =some k:=⟨_,Yi ao⟩;obtain⟨c5,c4⟩:=hkb V (Yj u);obtain⟨j,rfl⟩:∃j:Nat,V=(j:Int):=⟨V.toNat,a8⟩;have r:=S.set (f:=fJ (d:Int)) j (λc hc=>qL hc) (λc=>qK _ c);obtain⟨s2,c2,hs2,b7,Z,a3,hgd2,hset2,X,hpo2⟩:=tg hf r (k:=j) a8;have J:j<U.length:=by rw[S.len];omega
  have b0:fJ (d:Int) (U.getD j fo)=c2:=by
   rw[Vf,if_pos rfl,if_pos J]at b7;exact Xk b7
  have hcn2:=X.small.1;rw[eh u,qt,Ve,b0]at g;rw[b0]at r Z a3;refine wk_ (qn_ (ws_ (wb_ (ws_ (wr_ (e_ ixa (e_ (lel (hy:=u)) (go ?_))))))));refine d3_ rfl (SI (t:=(d:Int)) (k:=j) S a8) ?_;rw[show(if gz (U.getD j fo).ps (U.getD j fo).u<(d:Int)then jK (U.getD j fo) (d:Int)else U.getD j fo)=c2 from by rw[←b0];all_goals rfl];refine on_ (qn_ (ws_ (wr_ (e_ mv (e_ nck (e_ fla (e_ ldv (e_ mv (e_ ixa (e_ (gr (hy:=Z)) ?_))))))))));refine d1_ rfl (Cy (gV.less hsb hpo2) X.at_ bO) (gW (λh2=>?_) (λh2=>?_))
  ·rw[if_neg (by rw[qY];have h9:=h2;omega)]at g;refine ws_ (wr_ (e_ (bld []) (gR ?_)));rw[g];exact⟨_,hsb,rfl,rfl⟩
  have L:pT (d:Int) c2=true:=by rw[qY];have h9:=h2;omega
  rw[if_pos L]at g;refine go ?_;refine lN ((i+1,U.set j c2)) ?_
  try dsimp only
  exact⟨a8,r,g,λk hk=>by
   rw[dK u]at hk;rcases Xm.1 hk with hk|hk
   ·exact MT J L M k hk
   ·rw[Vb.1 hk,Ve,zF J,if_pos rfl];exact L⟩
 obtain rfl:i=n.cs.length:=ao;rw[Vi,qt]at g;rw[g];dsimp only;rw[if_neg ae];rw[Xn]at M;refine go ?_;refine s_ (fk eSV rfl) ?_;rintro _ _ ⟨c1,rfl,rfl⟩;refine gk (k:=e8 (Nat×(List CuS)×(List (SV×List Nat))×SV) (λy=>y.1≤n.cs.length∧iq (fa p q) y.2.1∧y.2.2.1.length=y.1∧((y.2.2.1.map (·.2)).map List.length).sum≤y.1*T∧jE n.cs U=(y.2.2.1.map (·.2)++(jE (n.cs.drop y.1) y.2.1).1,(jE (n.cs.drop y.1) y.2.1).2)∧(∀z∈y.2.2.1,Sl R2 z.1 eI (dT z.2)∧z.2.length≤100000000)∧∀k∈n.cs,pT (d:Int) (y.2.1.getD k.toNat fo)=true) (λy=>[(11,y.2.2.2.val),(42,iN y.1)]) [(0,_),(2,_),(3,_),(5,_),(8,_),(40,_),(41,_)] (λy=>[Row x.cu eRc (x.ls.zip y.2.1),Row y.2.2.2 eSV (y.2.2.1.map (·.1))]) (Vr m (mR x pl e st vi)::Vr b8 [.bool false,.int .u64 0]::Vr b5 [z1.val,z2.val,.int .i64 n.slop]::R2) (λy=>n.cs.length-y.1) ((0,U, [],c1)) (h0:=?_) (k:=?_))
 ·try dsimp only
  exact⟨Yl _,S,rfl,Yl _,by rw[Va];all_goals rfl,aq,M⟩
 rintro⟨i2,cb,zs,sv⟩ ⟨hi2,N,hzl,hsum,b,hzs,Y⟩
 try dsimp only[Yd,Ye]at*
 refine gW (λh3=>?_) λh3=>?_
 ·obtain⟨V,u⟩:∃k,n.cs[i2]? =some k:=⟨_,Yi aD⟩;obtain⟨c5,c4⟩:=hkb V (Yj u);have C:=Y V (Yj u);obtain⟨j,rfl⟩:∃j:Nat,V=(j:Int):=⟨V.toNat,a8⟩;rw[Ve]at C;obtain⟨s3,E,b4,d4,c6,a2,K,hset3,B,hpo3⟩:=tg hf N (k:=j) a8;rw[K]at C;have a7:=Pu B a8 C;have J:j<cb.length:=by rw[N.len];omega
  have r:=N.set (f:=jD) j (λc hc=>hc.pos) (λc=>xy c);rw[K]at r;have b2:(x.ls.zip (cb.set j (jD E)))[j]? =some (s3,jD E):=wK b4 (Ue J);have hzl4:=(Yk.1 b2).1;have hcn3:=B.small.1;have htp:=F.tot E.ps (by rw[←N.same];exact Vj (Yj d4));have hhl:=B4 E;have htl:=B.tot;have b6:=xy E;have a5:=B.pos;rw[eh u,jE,Ve,K]at b;have hzm:(zs.map (·.1)).length=i2:=cj;refine wk_ (qn_ (ws_ (wb_ (ws_ (wr_ (e_ ixa (e_ (lel (hy:=u)) (go ?_))))))));refine wD [14] (λk H=>(k=3→dQ H m (mR x pl e st vi))∧(k=8→dQ H m (mR x pl e st vi))∧(k=10→Sl H x.cu eRc (x.ls.zip cb))∧(k=11→Sl H x.cu eRc (x.ls.zip cb))∧(k=12→gV H s3 E.ps)∧(k=13→Sl H x.cu eRc (x.ls.zip cb))) (aF 0 (k:=aF 1 (k:=aF 2 (k:=?_))));refine aN 3 rfl (λH hH=>ah) ?_;refine aF 4 (k:=aF 5 (k:=aF 6 (k:=aF 7 (k:=?_))));refine aN 8 rfl (λH hH=>ar) ?_;refine aF 9 (k:=?_);refine aN 10 rfl (λH hH=>aG) ?_;refine aN 11 rfl (λH hH=>by have hN:=hH.2.2.2.1 rfl;exact gr (hy:=c6)) ?_;refine dS 12 rfl rfl aa rfl (λH hH=>lU (vs:= [_]) rfl (WQ (by have hN:=hH.2.2.2.2.1 rfl;exact hN) B a7)) ?_;refine go ?_;refine kg 14 rfl aa rfl (λk hk=>⟨λhi=>ag,λhi=>ag,λhi=>ag,λhi=>ag,λhi=>ag,λhi=>ag⟩) (et (i:=j) (a:=(s3,jD E)) rfl rfl bH a2) ?_;rintro _ _ ⟨rfl,rfl⟩;rw[BF b4];refine aZ (qn_ (wr_ (e_ mv (e_ mv (e_ nck (e_ fla (e_ ldv (e_ mv (e_ ixa (e_ (gr (hy:=b2)) ?_))))))))));refine c1_ rfl (EB (R:=R2) (c:=jD E) hsb (by rw[b6];exact hpo3) a5.at_ (by rw[b6];omega)) ?_;rintro _ _ ⟨⟨sh,rfl,b3⟩,rfl⟩;rw[LX]at b3;refine fS eSV (k:=λs69=>?_);refine app (k:=λb9=>?_);rw[show zs.map (·.1)++ [sh]=(zs++ [(sh,fj E)]).map (·.1)from by rw[Xp];all_goals rfl];refine go ?_;refine lN ((i2+1,cb.set j (jD E),zs++ [(sh,fj E)],b9)) ?_
  try dsimp only
  refine⟨a8,r,by rw[Ya,hzl];all_goals rfl,?_,?_,λz hz=>?_,MT J (by rw[UL];exact C) Y⟩
  ·rw[Xp,Xp,S3,Vy];have h8:((List.map (λz:SV×List Nat=>z.2) [(sh,fj E)]).map List.length).sum=(fj E).length:=aq;omega
  ·rw[b];simp
  ·rcases Xm.1 hz with hz|hz
   ·exact hzs z hz
   ·rw[Vb.1 hz];exact⟨b3,by show(fj E).length≤_;omega⟩
 obtain rfl:i2=n.cs.length:=aD;rw[Vi,jE]at b;simp only[Ym]at b;rw[b];dsimp only;have hs0:n.cs.length*T≤1000000000000:=d5;obtain⟨c0,b1⟩:=gE n.cs 0;have c9:n.cs.headD 0=c0:=by rw[Q3,List.head?_eq_getElem?,b1];all_goals rfl
 obtain⟨kc1,kc2⟩:=hkb c0 (Yj b1);obtain⟨cn,rfl⟩:∃cn:Nat,c0=(cn:Int):=⟨c0.toNat,a8⟩;obtain⟨⟨fd,ky⟩,hfk⟩:∃z,p.curs[cn]? =some z:=⟨_,Yi a8⟩;obtain⟨d2,d1⟩:=F.fd _ (Yj hfk);have hav:=F.av;simp only at d2 d1;obtain⟨fn,rfl⟩:∃n:Nat,fd=(n:Int):=⟨fd.toNat,a8⟩;have d0:lX (dM p q ins) cn=(fn:Int):=by rw[lX];show(match p.curs[cn]? with|some x=>x.1|none=>0)=_;rw[hfk]
 rw[c9,Ve,d0];have a1:(zs.map (·.1)).length=n.cs.length:=cj;have a0:(zs.map (·.2)).length=n.cs.length:=cj;obtain⟨fr,a9⟩:=ex (jF (zs.map (·.2)) n.offs n.slop);rw[←a9];refine go ?_;refine d3_ rfl ((Cw (ss:=zs.map (·.1)) (lists:=zs.map (·.2)) (by rw[a1,a0]) (λi s l g1 g2=>Lo g1 g2 λz hz=>ee hsb (hzs z hz).1) a8 a8 a8 c7 a4 a8 a8 (λl hl=>by obtain⟨z,hz,rfl⟩:=Xt.1 hl;exact(hzs z hz).2)).mono (K':=λv H'=>v=iN fr∧H'=_) (λv H' h=>⟨by rw[a9];exact h.1,h.2⟩)) (gW (λh4=>?_) (λh4=>?_))
 ·rw[if_pos aJ];refine ws_ (wr_ (e_ (bld []) (gR ?_)));exact⟨_,hsb,rfl,rfl⟩
 rw[if_neg aJ];have hfb:fr≤1000000000000:=by rw[a9];exact Xi (EE _ _ _) a8
 refine go ?_;refine wD [16,17] (λk H=>(k=2→dQ H m (mR x pl e st vi))∧(k=5→dQ H m (mR x pl e st vi))∧(k=7→dQ H b5 [z1.val,z2.val,.int .i64 n.slop])∧(k=8→Sl H z1 eI n.cs)∧(k=9→Sl H z1 eI n.cs)∧(k=10→Sl H x.pa.cu eLf p.curs)∧(k=11→Sl H x.pa.cu eLf p.curs)∧(k=12→Sl H x.pa.cu eLf p.curs)) (aF 0 (k:=aF 1 (k:=?_)));refine aN 2 rfl (λH hH=>by have hN:=hH.1 rfl;exact nck) ?_;refine aF 3 (k:=aF 4 (k:=?_));refine aN 5 rfl (λH hH=>ar) ?_;refine aF 6 (k:=?_);refine aN 7 rfl (λH hH=>aL) ?_;refine aN 8 rfl (λH hH=>by have hN:=hH.2.2.2.1 rfl;exact ixa (i:=0)) ?_;refine aN 9 rfl (λH hH=>by have hN:=hH.2.2.2.2.1 rfl;exact lel (hy:=b1)) ?_;refine aN 10 rfl (λH hH=>by have hN:=hH.2.2.2.2.2.1 rfl;exact ixa (i:=cn)) ?_;refine aN 11 rfl (λH hH=>by have hN:=hH.2.2.2.2.2.2.1 rfl;exact fle) ?_;refine aN 12 rfl (λH hH=>by have hN:=hH.2.2.2.2.2.2.2 rfl;exact lfl (hy:=hfk)) (go ?_);refine kg 16 rfl aa rfl (λk hk=>⟨λhi=>ag,λhi=>ag,λhi=>ag,λhi=>ag,λhi=>ag,λhi=>ag,λhi=>ag,λhi=>ag⟩) (lU (vs:= [_,_,_,_,_]) rfl (Gl (x:=x) (p:=p) (q:=q) (ins:=ins) (w:=w) (f:=fr) (kf:=fn) a8 a8 hd F.ap hw)) ?_;rintro _ _ ⟨rfl,rfl⟩;refine kg 17 rfl aa rfl (λk hk=>⟨λhi=>ag,λhi=>ag,λhi=>ag,λhi=>ag,λhi=>ag,λhi=>ag,λhi=>ag,λhi=>absurd hk aB⟩) (ej rfl rfl rfl) ?_;rintro _ _ ⟨rfl,rfl⟩;refine aZ (gR ?_);exact⟨_,hsb,rfl,rfl⟩
end
end
section
variable {C:Hp→dD}{c:Cfg}{l:List VV}{n:Nat}{s:SV}{v:VV}{α:Type}{xs:List α}
def uS (c:Cfg) (d op A B:Nat) (cs:List CuS):VV×Bool×List CuS:=
 match op with
 | 1=>((false,0),true,cs)
 | 2=>((true,262144),true,cs)
 | 3=>(if 0<qo c.lens A d then(true,262144)else(false,0),true,cs)
 | 4=>((qE c d A B cs).1,true,(qE c d A B cs).2)
 | 5=>((jm c d A B cs).1,true,(jm c d A B cs).2)
 |_=>((false,0),false,cs)
theorem Gs {d op A B:Nat}{cs:List CuS}(h:¬(1≤op∧op≤5)):uS c d op A B cs=((false,0),false,cs):=by
 match op,h with
 | 0,_=>rfl
 | 1,h| 2,h| 3,h| 4,h| 5,h=>exact absurd ⟨a8,a8⟩ h
 |n+6,_=>rfl
theorem KL {d op A B:Nat}{st:List VV}{cs:List CuS}(h:(uS c d op A B cs).2.1=true):op≠0∧opV c d (op,A,B) n st cs=(n,st++ [(uS c d op A B cs).1],(uS c d op A B cs).2.2):=by
 match op,h with
 | 0,h=>cases h
 | 1,_| 2,_| 3,_| 4,_| 5,_=>exact⟨a8,rfl⟩
 |n+6,h=>cases h
theorem KM {d op A B:Nat}{cs:List CuS}(h:(uS c d op A B cs).2.1=false):¬(1≤op∧op≤5)∧(uS c d op A B cs).2.2=cs:=by
 by_cases hop:1≤op∧op≤5
 ·exfalso
  match op,hop,h with
  | 1,_,h| 2,_,h| 3,_,h| 4,_,h| 5,_,h=>cases h
  |n+6,hop,_=>omega
 ·exact⟨hop,by rw[Gs hop]⟩
def og (op A:Nat) (a:VV):VV:=
 if op=11∧a.1=false then(true,0)else if op=12∧a.1=true then(true,w64 (a.2*A))else if op=13∧a.1=true then(true,w64 (A*262144))else(false,0)
theorem XK {A:Nat}(a:VV):((!a.1,0):VV)=og 11 A a:=by obtain⟨b,k⟩:=a;cases b <;> simp[og]
theorem XJ {A:Nat}(a:VV) (h:a.1=false→a.2=0):((a.1,w64 (a.2*A)):VV)=og 12 A a:=by
 obtain⟨b,k⟩:=a;cases b
 ·obtain rfl:k=0:=h rfl;simp[og,w64]
 ·simp[og]
theorem XI {A:Nat}(a:VV):((if a.1=true then(true,w64 (A*262144))else(false,0)):VV)=og 13 A a:=by obtain⟨b,k⟩:=a;cases b <;> simp[og]
theorem Gv {d op A B:Nat}{st:List VV}{cs:List CuS}(h:11≤op∧op≤13) (a:StZ st):opV c d (op,A,B) n st cs=(n,st.dropLast++ [og op A (eX st)],cs):=by
 match op,h with
 | 11,_=>show(n,st.dropLast++ [((!(eX st).1,0):VV)],cs)=_;rw[XK]
 | 12,_=>show(n,st.dropLast++ [(((eX st).1,w64 ((eX st).2*A)):VV)],cs)=_;rw[XJ _ a.top]
 | 13,_=>show(n,st.dropLast++ [((if(eX st).1=true then(true,w64 (A*262144))else(false,0)):VV)],cs)=_;rw[XI]
 |k+14,h=>omega
def jV (op:Nat) (a b:VV):VV:=
 if op=6∧a.1=true∧b.1=true then(true,w64 (a.2+b.2))else
 if op=7∧(a.1=true∨b.1=true)then(true,w64 (a.2+b.2))else
 if op=8∧(a.1=true∨b.1=true)then(true,max a.2 b.2)else
 if op=9∧a.1=true then(true,w64 (a.2+b.2))else
 if op=10∧b.1=false then a else(false,0)
theorem wU {st:List VV}{f:VV→VV→VV}(h:((f (eX st.dropLast) (eX st)).1,if(f (eX st.dropLast) (eX st)).1=true then(f (eX st.dropLast) (eX st)).2 else 0)=v):mi st f=st.dropLast.dropLast++ [v]:=by rw[←h];all_goals rfl
theorem AL {d op A B:Nat}{st:List VV}{cs:List CuS}(h:6≤op∧op≤10) (g:StZ st):opV c d (op,A,B) n st cs=(n,st.dropLast.dropLast++ [jV op (eX st.dropLast) (eX st)],cs):=by
 have e:=g.drop.top
 match op,h with
 | 6,_=>exact congrArg (λl:List VV=>(n,l,cs)) (wU (f:=λa b=>(a.1&&b.1,w64 (a.2+b.2))) (by cases ha:(eX st.dropLast).1 <;> cases hb:(eX st).1 <;> simp[jV,ha,hb]))
 | 7,_=>exact congrArg (λl:List VV=>(n,l,cs)) (wU (f:=λa b=>(a.1 ||b.1,w64 (a.2+b.2))) (by cases ha:(eX st.dropLast).1 <;> cases hb:(eX st).1 <;> simp[jV,ha,hb]))
 | 8,_=>exact congrArg (λl:List VV=>(n,l,cs)) (wU (f:=λa b=>(a.1 ||b.1,max a.2 b.2)) (by cases ha:(eX st.dropLast).1 <;> cases hb:(eX st).1 <;> simp[jV,ha,hb]))
 | 9,_=>exact congrArg (λl:List VV=>(n,l,cs)) (wU (f:=λa b=>(a.1,w64 (a.2+b.2))) (by cases ha:(eX st.dropLast).1 <;> simp[jV,ha]))
 | 10,_=>exact congrArg (λl:List VV=>(n,l,cs)) (wU (f:=λa b=>(a.1&&!b.1,a.2)) (by
  generalize eX st.dropLast=a at e⊢;generalize eX st=b;obtain⟨j,a2⟩:=a;obtain⟨i,b2⟩:=b;cases j <;> cases i <;> simp[jV];exact(e rfl).symm))
 |k+11,h=>omega
theorem PX {p:PrG}{op A B:Nat}(h:Ah p op A B n) (hno:¬(1≤op∧op≤5)):1≤n:=by
 obtain⟨a,⟨h',he⟩,hoo,hA,hB,hj⟩:=h
 match op,hno,a with
 | 0,_,_=>simp only[jw]at he;split at he;omega;cases he
 | 1,h,_| 2,h,_| 3,h,_| 4,h,_| 5,h,_=>exact absurd ⟨a8,a8⟩ h
 | 6,_,_| 7,_,_| 8,_,_| 9,_,_| 10,_,_=>simp only[jw]at he;split at he;omega;cases he
 | 11,_,_| 12,_,_| 13,_,_| 15,_,_| 16,_,_=>simp only[jw]at he;split at he;omega;cases he
 | 14,_,_=>
  simp only[jw]at he
  split at he
  ·cases he
  ·simp only[ng,Xu,Xq]at hoo;omega
 |k+17,_,h=>omega
theorem Bk {p:PrG}{op A B:Nat}(h:Ah p op A B n) (h2:6≤op∧op≤10):2≤n:=by
 obtain⟨hop,⟨h',he⟩,_⟩:=h
 match op,h2 with
 | 6,_| 7,_| 8,_| 9,_| 10,_=>simp only[jw]at he;split at he;assumption;cases he
 |k+11,h=>omega
theorem IS {p:PrG}{A B:Nat}(h:Ah p 14 A B n):A≤n∧B≤A:=by
 obtain⟨hop,⟨h',he⟩,hoo,_⟩:=h;simp only[ng,Xu,Xq]at hoo;simp only[jw]at he;split at he;cases he;exact⟨a8,a8⟩
structure VI (c:Cfg) (ins:List Ins) (pss:List (List Po)) (tb:Hs) (d st:Nat) (cs:List CuS) (stk:List VV) (pc k:Nat) (ca:List CuS) (f:Nat):Prop where
 h1:pc<ins.length
 h2:tb.getD pc none=some stk.length
 h3:stk.length≤pc
 h4:iq pss ca
 h5:ins.length≤f+pc
 h6:k≤st+pc
 h7:mF c d ins.length 0 [] cs st=mF c d f pc stk ca k
 h8:StZ stk
section
variable {p:PrG}{q:PtD}{ins:List Ins}{pss:List (List Po)}{tb:Hs}{d st pc k f op A B:Nat}{cs ca:List CuS}{stk:List VV}
theorem VI.step (h:VI (dM p q ins) ins pss tb d st cs stk pc k ca f) (y:yG p ins tb) (w:ins[pc]? =some (op,A,B)) (n:op≤16) (h0:op≠0) {m:Nat}{s:List VV}{v:List CuS}(t:opV (dM p q ins) d (op,A,B) (pc+1) stk ca=(m,s,v)):VI (dM p q ins) ins pss tb d st cs s m (k+1) v (f-1)∧pc<m:=by
 obtain⟨u,E,g3,C,g5,g6,r,z⟩:=h;have i:lD (dM p q ins) pc=(op,A,B):=by show ins.getD pc (0,0,0)=_;rw[Xj,w];all_goals rfl
 obtain⟨e,b,a⟩:=CG (c:=dM p q ins) (d:=d) (st:=stk) (cs:=ca) (y.step pc u) u E (by rw[i];exact h0);have l:=Gx (c:=dM p q ins) (d:=d) (A:=A) (B:=B) (pc:=pc+1) (st:=stk) (cs:=ca) n;have j:=EI (c:=dM p q ins) (d:=d) (x:=(op,A,B)) (pc:=pc+1) (st:=stk) C;have hzz:=XH (c:=dM p q ins) (d:=d) (pc:=pc+1) (x:=(op,A,B)) (cs:=ca) z;rw[i]at e b a;rw[t]at e b a l j hzz;obtain⟨f9,rfl⟩:∃g,f=g+1:=⟨f-1,a8⟩;rw[mF,i,if_neg h0,t]at r;dsimp only at e b a l j hzz r;exact⟨⟨b,a,a8,j,a8,a8,r,hzz⟩,e⟩
theorem VI.done (h:VI (dM p q ins) ins pss tb d st cs stk pc k ca f) (b:ins[pc]? =some (0,A,B)):mF (dM p q ins) d ins.length 0 [] cs st=(eX stk,ca,k+1):=by
 obtain⟨g1,g2,g3,g4,g5,g6,c,g8⟩:=h;have a:lD (dM p q ins) pc=(0,A,B):=by show ins.getD pc (0,0,0)=_;rw[Xj,b];all_goals rfl
 obtain⟨f9,rfl⟩:∃g,f=g+1:=⟨f-1,a8⟩;rw[c,mF,a,if_pos rfl]
end
theorem Gi {e:Enc α}{k:Nat}{M:pw}(hk:k≤xs.length) (h:Row s e xs M):Row (s.cut e.sz 0 k) e (xs.take k) M:=by
 rcases h with⟨rfl,rfl,rfl⟩|⟨b,C,E,fz,a,q2,q3,rfl,f,d,c⟩
 ·obtain rfl:k=0:=by simpa using hk
  exact .inl ⟨rfl,rfl,rfl⟩
 ·refine .inr ⟨b,C,E,fz,?_,?_,?_,rfl,?_,d,λj v hv=>c j v ?_⟩
  ·show(if s.c=0 then s.a else s.a.map (·.add (0*e.sz)))=_
   split
   ·exact a
   ·rw[a];simp[Addr.add]
  ·show k-0=(xs.take k).length;rw[Yg];omega
  ·show k-0≤s.c-0;omega
  ·show C.size=(s.c-0)*e.sz;rw[R8];exact f
  ·rw[Enc.all_take,X3]at hv
   split at hv
   ·exact hv
   ·cases hv
theorem nM.take {H:dD}{e:Enc α}(k:Nat) (h:nM H s e xs C) (hk:k≤xs.length):nM H (s.cut e.sz 0 k) e (xs.take k) C:=
 ⟨λL hL=>by
   obtain⟨L1,M,L2,c,a,b⟩:=h.foc L hL;exact⟨L1,M,L2,c,Gi hk a,b⟩⟩
theorem Iu {H:dD}{e:Enc α}(k:Nat) (h:nM H s e xs C) (hk:k≤xs.length):dH H (C (Row (s.cut e.sz 0 k) e (xs.take k))):=λL hL=>by
 obtain⟨L1,M,L2,rfl,a,b⟩:=h.foc L hL;exact⟨_, [],b _ _ (Gi hk a),aq⟩
theorem O9 {H:dD}{k:Nat} [h:Sl H s eVV l] (hk:k≤l.length):Sl H (s.cut 2 k l.length) eVV (l.drop k):=by
 have h8:=h.cut hk (Xl _);rw[Xn]at h8;exact h8
theorem Ar (h:1≤l.length):l.set (l.length-1) v=l.dropLast++ [v]:=by
 obtain⟨a,b,rfl⟩:∃a b,l=a++ [b]:=⟨l.dropLast,l.getLast (by intro e;rw[e]at h;cases h),(List.dropLast_concat_getLast _).symm⟩;rw[Ya,Ul,X7,Ux _ _ (Xl _),Ui,List.dropLast_concat];all_goals rfl
theorem Ao (h:2≤l.length):(l.set (l.length-2) v).take (l.length-1)=l.dropLast.dropLast++ [v]:=by
 rw[List.take_set,←List.dropLast_eq_take,show l.length-2=l.dropLast.length-1 from bG,Ar bG]
theorem Ap (h:2≤l.length):l[l.length-2]? =some (eX l.dropLast):=by
 rw[←As (l:=l.dropLast) bG,X1,List.dropLast_eq_take,X3,if_pos a8];congr 1
section
variable {G:dJ}{H R1 R2:dD}{m d T:Nat}{x:RX}{x0:MX}{p:PrG}{q:PtD}{ins:List Ins}{cs:List CuS}{pl:Int}{e:Bool}{st vi:Nat}
theorem OH {B:Nat}{w:VV} [hs:Sl H s eVV l] (hl:l.length≤1000000000) (c:w=if B≤qq l then(true,yK l)else(false,0)):SC G prog 107 [s.val,iN B] H (λv g=>v=vvV w∧g=H):=by
 refine sWk func107 ?_;refine gk (k:=alc (k:=λb4=>?_));refine go ?_;refine gk (k:=e8 (Nat×Nat×Nat) (λy=>y.1≤l.length∧y.2.1=qq (l.take y.1)∧y.2.2=yK (l.take y.1)∧y.2.1≤y.1) (λy=>[(5,iN y.2.1),(6,uN y.2.2),(11,iN y.1)]) [(1,_),(4,_),(9,_),(10,_)] (λy=>[]) _ (λy=>l.length-y.1) ((0,0,0)) (h0:=?_) (k:=?_))
 ·exact⟨Yl _,rfl,rfl,Xl _⟩
 rintro⟨j,n,u⟩ ⟨hj,hn,d,hnj⟩
 try dsimp only[Yd,Ye]at*
 refine gW (λh1=>?_) λh1=>?_
 ·obtain⟨v,hv⟩:∃v,l[j]? =some v:=⟨_,Yi ao⟩;have b:=zC hv;have a:=C6 hv;refine wk_ (qn_ (ws_ (wb_ (ws_ (wr_ (e_ ixa (e_ (gr (hy:=hv)) (alc (k:=λb8=>?_)))))))));refine gW (λh2=>?_) λh2=>?_
  ·have e:v.1=true:=h2;rw[if_pos e]at b a;refine ws_ (wr_ (e_ mv (e_ iad (e_ asn (on_ (qn_ (wr_ (e_ mv (e_ fla (e_ ldv ?_))))))))));refine e_ (lk 18446744073709551616 rfl rfl rfl rfl u v.2 rfl rfl) (go ?_);refine lN ((j+1,n+1,(u+v.2)%18446744073709551616)) ?_
   try dsimp only
   exact⟨a8,a8,by rw[a,←d];all_goals rfl,a8⟩
  have f:¬v.1=true:=aO;rw[if_neg f]at b a;refine go ?_;refine lN ((j+1,n,u)) ?_
  try dsimp only
  exact⟨a8,a8,by rw[a,←d],a8⟩
 obtain rfl:j=l.length:=ao;rw[Xn]at hn d;refine gW (λh3=>?_) λh3=>?_
 ·rw[if_pos aD,←d]at c;refine ws_ (wr_ (e_ mv (e_ (bld [(0,_),(1,_)]) (gR ?_))));subst c;exact⟨_,hsb,rfl,rfl⟩
 rw[if_neg aD]at c;refine wk_ (qn_ (ws_ (wr_ (e_ (bld []) (gR ?_)))));subst c;exact⟨_,hsb,rfl,rfl⟩
theorem WR {op A B:Nat}{a:VV}(hA:A<18446744073709551616):SC G prog 108 [oN op A B,vvV a] H (λv d=>v=vvV (og op A a)∧d=H):=by
 refine sWk func108 ?_;refine gk (k:=bxx (k:=λb2=>?_));refine bxx (k:=λb3=>?_);refine alc (k:=λb4=>?_);refine gk (k:=dV 4 13 (k:=λh1=>gk (k:=edq)) (q:=go ?_));refine wi_ (k:=λh2=>?_) (m:=λh2=>?_)
 ·have hv:og op A a=(true,0):=by have h9:=h2;rw[og,if_pos ⟨a8,by simpa using h9.2⟩]
  refine ws_ (wr_ (e_ (bld [(0,_),(1,_)]) (gR ?_)));rw[hv];exact⟨_,hsb,rfl,rfl⟩
 have c:og op A a=if op=12∧a.1=true then(true,w64 (a.2*A))else if op=13∧a.1=true then(true,w64 (A*262144))else(false,0):=by
  have h9:=h2;rw[og,if_neg λh8=>by rcases h9 with h9|h9 <;> simp_all <;> omega]
 refine gk (k:=dV 3 22 (k:=λh3=>gk (k:=edq)) (q:=gW (λh4=>?_) (λh4=>?_)))
 ·have hv:og op A a=(true,w64 (a.2*A)):=by have h9:=h4;rw[c,if_pos ⟨a8,h9.2⟩]
  refine ws_ (wr_ (e_ fla (e_ ldv (e_ fla (e_ ldv ?_)))));refine e_ (nZ 18446744073709551616 rfl rfl rfl rfl a.2 A rfl rfl) ?_;refine e_ (bld [(0,_),(1,_)]) (gR ?_);rw[hv];exact⟨_,hsb,rfl,rfl⟩
 have b:og op A a=if op=13∧a.1=true then(true,w64 (A*262144))else(false,0):=by
  have h9:=h4;rw[c,if_neg λh8=>by rcases h9 with h9|h9 <;> simp_all <;> omega]
 refine gk (k:=dV 3 36 (k:=λh5=>gk (k:=edq)) (q:=gW (λh6=>?_) (λh6=>?_)))
 ·have hv:og op A a=(true,w64 (A*262144)):=by have h9:=h6;rw[b,if_pos ⟨a8,h9.2⟩]
  refine ws_ (wr_ (e_ fla (e_ ldv ?_)));refine e_ (nZ 18446744073709551616 rfl rfl rfl rfl A 262144 rfl rfl) ?_;refine e_ (bld [(0,_),(1,_)]) (gR ?_);rw[hv];exact⟨_,hsb,rfl,rfl⟩
 have hv:og op A a=(false,0):=by
  have h9:=h6;rw[b,if_neg λh8=>by rcases h9 with h9|h9 <;> simp_all <;> omega]
 refine wk_ (bn_ (qn_ (ws_ (wr_ (e_ (bld []) (gR ?_))))));rw[hv];exact⟨_,hsb,rfl,rfl⟩
theorem WL {op:Nat}{a b:VV}:SC G prog 109 [iN op,vvV a,vvV b] H (λv e=>v=vvV (jV op a b)∧e=H):=by
 refine sWk func109 ?_;refine gk (k:=bxx (k:=λb4=>?_));refine bxx (k:=λb5=>?_);refine alc (k:=λb6=>?_);refine on_ (qn_ (ws_ (wr_ (e_ fla (e_ ldv (e_ fla (e_ ldv ?_)))))));refine e_ (lk 18446744073709551616 rfl rfl rfl rfl a.2 b.2 rfl rfl) ?_;refine e_ (bld [(0,_),(1,_)]) (alc (k:=λb7=>?_));refine go ?_;refine gW (λh1=>?_) λh1=>?_
 ·obtain rfl:op=6:=by have h9:=h1;omega
  refine gk (k:=dV 3 22 (k:=λh2=>gk (k:=edq)) (q:=gW (λh3=>?_) (λh3=>?_)))
  ·have hv:jV 6 a b=(true,w64 (a.2+b.2)):=by have h9:=h3;simp[jV,h9]
   refine gR ?_;rw[hv];exact⟨_,hsb,rfl,rfl⟩
  have hv:jV 6 a b=(false,0):=by rcases h3 with h9|h9 <;> simp[jV,h9]
  refine wk_ (bn_ (qn_ (ws_ (wr_ (e_ (bld []) (gR ?_))))));rw[hv];exact⟨_,hsb,rfl,rfl⟩
 refine gW (λh4=>?_) λh4=>?_
 ·obtain rfl:op=7:=by have h9:=h4;omega
  refine gk (k:=ep 3 31 (k:=λh5=>gk (k:=edq)) (q:=gW (λh6=>?_) (λh6=>?_)))
  ·have hv:jV 7 a b=(true,w64 (a.2+b.2)):=by have h9:=h6;simp[jV,h9]
   refine gR ?_;rw[hv];exact⟨_,hsb,rfl,rfl⟩
  have hv:jV 7 a b=(false,0):=by have h9:=h6;simp[jV,h9]
  refine wk_ (bn_ (qn_ (ws_ (wr_ (e_ (bld []) (gR ?_))))));rw[hv];exact⟨_,hsb,rfl,rfl⟩
 refine gW (λd=>?_) λd=>?_
 ·obtain rfl:op=8:=by have h9:=d;omega
  refine gk (k:=ep 3 40 (k:=λh8=>gk (k:=edq)) (q:=gW (λh9=>?_) (λh9=>?_)))
  ·have hv:jV 8 a b=(true,max a.2 b.2):=by have h9:=h9;simp[jV,h9]
   refine ws_ (wr_ (e_ fla (e_ ldv (e_ fla (e_ ldv ?_)))));refine e_ (evq (nw rfl rfl) (congrArg (Value.int .u64) (show _=((max a.2 b.2:Nat):Int)from a8))) ?_;refine e_ (bld [(0,_),(1,_)]) (gR ?_);rw[hv];exact⟨_,hsb,rfl,rfl⟩
  have hv:jV 8 a b=(false,0):=by have h9:=h9;simp[jV,h9]
  refine wk_ (bn_ (qn_ (ws_ (wr_ (e_ (bld []) (gR ?_))))));rw[hv];exact⟨_,hsb,rfl,rfl⟩
 refine gW (λh10=>?_) λh10=>?_
 ·obtain rfl:op=9:=by have h9:=h10;omega
  refine gW (λh11=>?_) λh11=>?_
  ·have hv:jV 9 a b=(true,w64 (a.2+b.2)):=by have h9:=h11;simp[jV,h9]
   refine gR ?_;rw[hv];exact⟨_,hsb,rfl,rfl⟩
  have hv:jV 9 a b=(false,0):=by have h9:=h11;simp[jV,h9]
  refine wk_ (bn_ (qn_ (ws_ (wr_ (e_ (bld []) (gR ?_))))));rw[hv];exact⟨_,hsb,rfl,rfl⟩
 refine gW (λh12=>?_) λh12=>?_
 ·obtain rfl:op=10:=by have h9:=h12;omega
  refine gW (λc=>?_) λc=>?_
  ·have hv:jV 10 a b=a:=by have h9:=c;simp[jV];simp_all
   refine gR ?_;rw[hv];exact⟨_,hsb,rfl,rfl⟩
  have hv:jV 10 a b=(false,0):=by have h9:=c;simp[jV];simp_all
  refine wk_ (bn_ (qn_ (ws_ (wr_ (e_ (bld []) (gR ?_))))));rw[hv];exact⟨_,hsb,rfl,rfl⟩
 have hv:jV op a b=(false,0):=by rw[jV,if_neg a8,if_neg a8,if_neg a8,if_neg a8,if_neg a8]
 refine wk_ (bn_ (qn_ (ws_ (wr_ (e_ (bld []) (gR ?_))))));rw[hv];exact⟨_,hsb,rfl,rfl⟩
theorem WO {op A B:Nat} [h1:Rem H Vr m (mR x pl e st vi) R1] [h2:mh R1 x.cu eRc (x.ls.zip cs) R2] [hf:nK R2 x p q ins] (a:SOk x0 p q (fa p q) T ins) (j:iq (fa p q) cs) (hoo:ng p (op,A,B)=true) (hA:A<18446744073709551616) (K:B<18446744073709551616) (hd:d<q.ds.length) (hT:T≤1000000000000):
 SC G prog 106 [pA m,oN op A B,iN d] H (λv L=>v=.tuple #[vvV (uS (dM p q ins) d op A B cs).1,.bool (uS (dM p q ins) d op A B cs).2.1]∧L=Vr m (mR x pl e st vi)::Row x.cu eRc (x.ls.zip (uS (dM p q ins) d op A B cs).2.2)::R2):=by
 have hav:=a.av;have hcu:=a.cu;have hpn:=a.n;have hpl2:(fa p q).length=p.curs.length:=Yh ..;refine SC.less (dH.rem h1 (gi h2 dH.refl).keep) ?_;refine sWk func106 ?_;refine gk (k:=bxx (k:=λE=>?_));refine alc (k:=λb6=>?_);refine go ?_;refine gW (λh1=>?_) λh1=>?_
 ·obtain rfl:op=1:=by have h9:=h1;omega
  refine ws_ (wr_ (e_ (bld []) (gR ?_)));exact⟨_,hsb,rfl,rfl⟩
 refine gW (λh2=>?_) λh2=>?_
 ·obtain rfl:op=2:=by have h9:=h2;omega
  refine ws_ (wr_ (e_ (bld [(0,_),(1,_)]) (gR ?_)));exact⟨_,hsb,rfl,rfl⟩
 refine gW (λh3=>?_) λh3=>?_
 ·obtain rfl:op=3:=by have h9:=h3;omega
  have l:A<q.fs.length:=bD;have hlvl:=hf.lens.1;obtain⟨r,b⟩:∃s,x.lvs[A]? =some s:=⟨_,Yi (by rw[hf.lens.1];exact l)⟩;haveI hsl:=hf.lens.2 A r b;have hil:=eJ (eL q.fs q.ds A);have hll:(eL q.fs q.ds A).length=q.ds.length:=du;obtain⟨F,f⟩:=ex ((eL q.fs q.ds A).getD d 0);have h:(dT (eL q.fs q.ds A))[d]? =some (F:Int):=by
   rw[dT,Xd,f,Xj,Yi a8];all_goals rfl
  have i:qo (dM p q ins).lens A d=F:=by rw[f];exact AU l
  refine go ?_;refine wD [] (λk H=>(k=3→dQ H m (mR x pl e st vi))∧(k=5→dQ H E [iN 3,uN A,uN B])∧(k=6→Sl H x.lv eSV x.lvs)∧(k=7→Sl H x.lv eSV x.lvs)∧(k=9→Sl H r eI (dT (eL q.fs q.ds A)))∧(k=10→Sl H r eI (dT (eL q.fs q.ds A)))) (aF 0 (k:=aF 1 (k:=aF 2 (k:=?_))));refine aN 3 rfl (λH hH=>ah) ?_;refine aF 4 (k:=?_);refine aN 5 rfl (λH hH=>ar) ?_;refine aN 6 rfl (λH hH=>aG) ?_;refine aN 7 rfl (λH hH=>by have hN:=hH.2.2.2.1 rfl;exact lel (hy:=b)) ?_;refine aF 8 (k:=?_);refine aN 9 rfl (λH hH=>by have hN:=hH.2.2.2.2.1 rfl;exact ixa) ?_;refine aN 10 rfl (λH hH=>by have hN:=hH.2.2.2.2.2 rfl;exact lel (hy:=h)) ?_;refine gk (k:=aZ (gW (λh4=>?_) (λh4=>?_)))
  ·have hv:uS (dM p q ins) d 3 A B cs=((true,262144),true,cs):=by show((if 0<qo (dM p q ins).lens A d then(true,262144)else(false,0):VV),true,cs)=_;rw[i,if_pos aJ]
   refine ws_ (wr_ (e_ (bld [(0,_),(1,_)]) (gR ?_)));rw[hv];exact⟨_,hsb,rfl,rfl⟩
  have hv:uS (dM p q ins) d 3 A B cs=((false,0),true,cs):=by show((if 0<qo (dM p q ins).lens A d then(true,262144)else(false,0):VV),true,cs)=_;rw[i,if_neg aJ]
  refine wk_ (qn_ (ws_ (wr_ (e_ (bld []) (gR ?_)))));rw[hv];exact⟨_,hsb,rfl,rfl⟩
 refine gW (λh5=>?_) λh5=>?_
 ·obtain rfl:op=4:=by have h9:=h5;omega
  have C:A<p.curs.length:=bD;refine ws_ (wr_ (e_ mv (e_ fla (e_ ldv ?_))));refine e_ (ew rfl a8) (go ?_);refine cp_ (vs:=[_,_,_,_]) rfl (SJ (x:=x) (p:=p) (q:=q) (ins:=ins) (A:=A) (w:=B) a j C hd K hT) (gR ?_);exact⟨_,hsb,rfl,rfl⟩
 refine gW (λh6=>?_) λh6=>?_
 ·obtain rfl:op=5:=by have h9:=h6;omega
  have y:A<p.nears.length:=Yt hoo;obtain⟨z,n,J,hn,u,t,g⟩:=hf.pr.nr.get y;obtain⟨z1,z2,z3⟩:=z;simp only at u t g;subst g;have hzl:=(Yk.1 J).1;refine go ?_;refine wD [13,14] (λk H=>(k=5→dQ H m (mR x pl e st vi))∧(k=7→dQ H E [iN 5,uN A,uN B])∧(k=8→Sl H x.pa.ne eNr x.pa.nz)∧(k=9→Sl H x.pa.ne eNr x.pa.nz)∧(k=12→dQ H E [iN 5,uN A,uN B])) (aF 0 (k:=aF 1 (k:=aF 2 (k:=aF 3 (k:=aF 4 (k:=?_))))));refine aN 5 rfl (λH hH=>ah) ?_;refine aF 6 (k:=?_);refine aN 7 rfl (λH hH=>ar) ?_;refine aN 8 rfl (λH hH=>aG) ?_;refine aN 9 rfl (λH hH=>by have hN:=hH.2.2.2.1 rfl;exact gr (hy:=J)) ?_;refine aF 10 (k:=aF 11 (k:=?_));refine go ?_;refine aS 13 rfl (lU (vs:= [_,_,_,_]) rfl (Kz (x:=x) (p:=p) (q:=q) (ins:=ins) (A:=A) (w:=B) (n:=n) (z1:=z1) (z2:=z2) a j hn hd K)) ?_;rintro _ _ ⟨rfl,rfl⟩;refine aS 14 rfl (ej rfl rfl rfl) ?_;rintro _ _ ⟨rfl,rfl⟩;refine gk (k:=aZ (gR ?_));exact⟨_,hsb,rfl,rfl⟩
 have hv:=Gs (c:=dM p q ins) (d:=d) (A:=A) (B:=B) (cs:=cs) (op:=op) a8;refine wk_ (bn_ (qn_ (ws_ (wr_ (e_ (bld []) (gR ?_))))));rw[hv];exact⟨_,hsb,rfl,rfl⟩
theorem OA {tb:Hs} [h1:Rem H Vr m (mR x pl e st vi) R1] [h2:mh R1 x.cu eRc (x.ls.zip cs) R2] [hf:nK R2 x p q ins] (F:SOk x0 p q (fa p q) T ins) (b:yG p ins tb) (a0:iq (fa p q) cs) (hd:d<q.ds.length) (hst:st≤1000000000000000000) (hvi:vi≤1000000000000000000) (hT:T≤1000000000000):
 SC G prog 42 [pA m,iN d] H (λv H'=>v=vvV (mF (dM p q ins) d ins.length 0 [] cs st).1∧H'=Vr m (mR x pl e (mF (dM p q ins) d ins.length 0 [] cs st).2.2 (vi+1))::Row x.cu eRc (x.ls.zip (mF (dM p q ins) d ins.length 0 [] cs st).2.1)::R2):=by
 have hil:=F.len;have Y:=b.ne;refine SC.less (dH.rem h1 (gi h2 dH.refl).keep) ?_;refine sWk func42 ?_;refine gk (k:=alc (k:=λb4=>?_));refine on_ (qn_ (ws_ (wr_ (e_ mv (e_ nck (e_ fla (e_ ldv ?_)))))));refine e_ (evq iad (congrArg (Value.int .i64) (show _=((vi+1:Nat):Int)from a8))) (go ?_);refine s_ (fk eVV rfl) ?_;rintro _ _ ⟨V,rfl,rfl⟩;refine gk (k:=e8 ((List VV)×SV×Nat×Nat×(List CuS)×Nat) (λy=>VI (dM p q ins) ins (fa p q) tb d st cs y.1 y.2.2.1 y.2.2.2.1 y.2.2.2.2.1 y.2.2.2.2.2) (λy=>[(5,y.2.1.val),(6,iN y.2.2.1)]) [(0,_),(1,_),(4,_)] (λy=>[Vr m (mR x pl e y.2.2.2.1 (vi+1)),Row x.cu eRc (x.ls.zip y.2.2.2.2.1),Row y.2.1 eVV y.1]) (Vr b4 [.bool false,.int .u64 0]::R2) (λy=>ins.length-y.2.2.1) (([],V,0,st,cs,ins.length)) (h0:=?_) (k:=?_))
 ·try dsimp only
  exact⟨Y,b.at0,Xl _,a0,a8,a8,rfl,λv hv=>by cases hv⟩
 rintro⟨stk,r,pc,E,ca,f⟩ t
 try dsimp only[Yd,Ye]at*
 have hpc:=t.h1;have hk1:=t.h6;have hsl:=t.h3;have a1:=t.h4;have hzz:=t.h8;obtain⟨z,C⟩:∃z,ins[pc]? =some z:=⟨_,Yi hpc⟩;obtain⟨op,A,B⟩:=z;have h:=G9 F b hpc C t.h2;have g:=h.opl;have hA:=h.a;have hB:=h.b;refine ws_ (wb_ (ws_ (wr_ (e_ mv (e_ nck (e_ fla (e_ ldv (e_ mv (e_ ixa (e_ (gr (hy:=C)) (alc (k:=λb7=>?_))))))))))));refine sto (k:=on_ (qn_ (ws_ (wr_ ?_))));dsimp only;refine e_ mv (e_ nck (e_ fla (e_ ldv ?_)));refine e_ (evq iad (congrArg (Value.int .i64) (show _=((E+1:Nat):Int)from a8))) (go ?_);refine d3_ rfl (WO (x:=x) (p:=p) (q:=q) (ins:=ins) (op:=op) (A:=A) (B:=B) F a1 h.oper hA hB hd hT) (gk (k:=alc (k:=λb8=>?_)));refine gW (λh1=>?_) λh1=>?_
 ·obtain⟨X,hpo⟩:=KL (n:=pc+1) (st:=stk) (by have h9:=h1;exact h9);have hs:=t.step b C g X hpo;refine gk (k:=fS eVV (k:=λs46=>?_));refine app (k:=λU=>?_);refine go ?_;have u:=hs.2;refine lN ((stk++ [(uS (dM p q ins) d op A B ca).1],U,pc+1,E+1,(uS (dM p q ins) d op A B ca).2.2,f-1)) ?_
  exact hs.1
 obtain⟨hno,N⟩:=KM bg;rw[N];have J:=PX h hno;have R:=As (l:=stk) J;refine wk_ (qn_ (ws_ (wr_ (e_ mv (e_ lnn ?_)))));refine e_ (evq isb (congrArg (Value.int .i64) (show _=((stk.length-1:Nat):Int)from a8))) (go ?_);refine gW (λh2=>?_) λh2=>?_
 ·obtain rfl:op=0:=by have h9:=h2;omega
  have Z:=t.done C;refine ws_ (wr_ (e_ mv (e_ mv (e_ ixa (e_ (gr (hy:=R)) (go ?_))))));refine gR ?_;rw[Z];exact⟨_,hsb,rfl,rfl⟩
 refine gW (λh3=>?_) λh3=>?_
 ·obtain rfl:op=15:=by have h9:=h3;omega
  have hj:=h.jmp (.inl rfl);refine ws_ (wr_ (e_ mv (e_ mv (e_ ixa (e_ fle (e_ (lfl (hy:=R)) (gW (λh4=>?_) (λh4=>?_))))))))
  ·have hpo:opV (dM p q ins) d (15,A,B) (pc+1) stk ca=(pc+A+1,stk,ca):=by
    show((if(eX stk).1=true then pc+1 else pc+1+A,stk,ca):Nat×List VV×List CuS)=_;rw[if_neg cZ,show pc+1+A=pc+A+1 from a8]
   have hs:=t.step b C g ae hpo;refine wr_ (e_ mv (e_ fla (e_ ldv ?_)));refine e_ (ew rfl a8) (go ?_);have u:=hs.2;refine lN ((stk,r,pc+A+1,E+1,ca,f-1)) ?_
   exact hs.1
  have hpo:opV (dM p q ins) d (15,A,B) (pc+1) stk ca=(pc+1,stk,ca):=by
   show((if(eX stk).1=true then pc+1 else pc+1+A,stk,ca):Nat×List VV×List CuS)=_;rw[if_pos cZ]
  have hs:=t.step b C g ae hpo;refine go ?_;have u:=hs.2;refine lN ((stk,r,pc+1,E+1,ca,f-1)) ?_
  exact hs.1
 refine gW (λh5=>?_) λh5=>?_
 ·obtain rfl:op=16:=by have h9:=h5;omega
  have hj:=h.jmp (.inr rfl);refine ws_ (wr_ (e_ mv (e_ mv (e_ ixa (e_ fle (e_ (lfl (hy:=R)) (gW (λh6=>?_) (λh6=>?_))))))))
  ·have hpo:opV (dM p q ins) d (16,A,B) (pc+1) stk ca=(pc+A+1,stk,ca):=by
    show((if(eX stk).1=true then pc+1+A else pc+1,stk,ca):Nat×List VV×List CuS)=_;rw[if_pos cY,show pc+1+A=pc+A+1 from a8]
   have hs:=t.step b C g ae hpo;refine wr_ (e_ mv (e_ fla (e_ ldv ?_)));refine e_ (ew rfl a8) (go ?_);have u:=hs.2;refine lN ((stk,r,pc+A+1,E+1,ca,f-1)) ?_
   exact hs.1
  have hpo:opV (dM p q ins) d (16,A,B) (pc+1) stk ca=(pc+1,stk,ca):=by
   show((if(eX stk).1=true then pc+1+A else pc+1,stk,ca):Nat×List VV×List CuS)=_;rw[if_neg cY]
  have hs:=t.step b C g ae hpo;refine go ?_;have u:=hs.2;refine lN ((stk,r,pc+1,E+1,ca,f-1)) ?_
  exact hs.1
 refine gW (λh7=>?_) λh7=>?_
 ·obtain rfl:op=14:=by have h9:=h7;omega
  obtain⟨hAl,hBA⟩:=IS h;obtain⟨L,hL⟩:=ex (stk.drop (stk.length-A));have hLl:L.length=A:=by rw[hL,Yo];omega
  obtain⟨w,hw⟩:∃w:VV,w=if B≤qq L then(true,yK L)else(false,0):=⟨_,rfl⟩;have htl:(stk.take (stk.length-A)).length≤1000000000:=az;have hpo:opV (dM p q ins) d (14,A,B) (pc+1) stk ca=(pc+1,stk.take (stk.length-A)++ [w],ca):=by
   rw[hw,hL];all_goals rfl
  have hs:=t.step b C g ae hpo;refine ws_ (wr_ (e_ mv (e_ lnn (e_ fla (e_ ldv ?_)))));refine e_ (ew rfl a8) ?_;refine e_ (evq isb (congrArg (Value.int .i64) (show _=((stk.length-A:Nat):Int)from a8))) (go ?_);refine wD [6,7] (λk H=>(k=2→Sl H r eVV stk)∧(k=4→dQ H b7 [iN 14,uN A,uN B])) (aF 0 (k:=aF 1 (k:=?_)));refine aN 2 rfl (λH hH=>by have hN:=hH.1 rfl;exact fV rfl bH (stk.length-A) stk.length ⟨_,_,rfl,rfl⟩ rfl a8 (Xl _)) ?_;refine aF 3 (k:=?_);refine aN 4 rfl (λH hH=>aM) ?_;refine aN 5 rfl (λH hH=>ew rfl a8) ?_;refine aS 6 rfl (lU (vs:= [_,_]) rfl (OH (s:=r.cut 2 (stk.length-A) stk.length) (l:=L) (B:=B) (w:=w) (hs:=by rw[hL];exact O9 a8) a8 hw)) ?_;rintro _ _ ⟨rfl,rfl⟩;refine aS 7 rfl (ej rfl rfl rfl) ?_;rintro _ _ ⟨rfl,rfl⟩;refine aZ (go ?_);refine wD [4,5] (λk H=>(k=2→Sl H r eVV stk)∧(k=3→dQ H b8 [.bool w.1,uN w.2])) (aF 0 (k:=aF 1 (k:=?_)));refine aN 2 rfl (λH hH=>by have hN:=hH.1 rfl;exact fV rfl bH 0 (stk.length-A) rfl ⟨_,_,rfl,a8⟩ a8 a8) (go ?_);refine aS 4 rfl (fK eVV rfl rfl) ?_;rintro _ _ ⟨s122,rfl,rfl⟩;refine aS 5 rfl (gf (hf:=nM.take (s:=r) (e:=eVV) (xs:=stk) (stk.length-A) inferInstance a8) rfl rfl rfl rfl (by simp only[Yb,Yc];omega) (by simp only[Yb,Yc];omega)) ?_;rintro _ _ ⟨M,rfl,rfl⟩;refine gk (k:=aZ (go ?_));have u:=hs.2;refine lN ((stk.take (stk.length-A)++ [w],M,pc+1,E+1,ca,f-1)) ?_
  exact hs.1
 refine iu Bool (λy=>(y=true→11≤op∧op≤13)∧(y=false→¬(11≤op∧op≤13))) (λy=>[(124,.bool y)]) [124,125,126,127] ?_ ?_
 ·refine gW (λh8=>?_) λh8=>?_
  ·try have j:=S h8
   try have hpo:opV (dM p q ins) d (op,A,B) (pc+1) stk ca=(pc+1,stk.set (stk.length-1) (og op A (eX stk)),ca):=by rw[Gv j hzz,Ar J]
   try have hs:=t.step b C g a8 hpo
   refine gk (k:=jnE (decide (((op:Nat):Int)=11)) (q:=?_));exact⟨λh8=>by have:=Yt h8;omega,λh8=>by have:=h8;simp_all⟩
  try have j:=K (by have h9:=h8;simpa using h9)
  try have h2l:=Bk h a8
  try have hg2:=Ap h2l
  try have hpo:opV (dM p q ins) d (op,A,B) (pc+1) stk ca=(pc+1,(stk.set (stk.length-2) (jV op (eX stk.dropLast) (eX stk))).take (stk.length-1),ca):=dA
  try have hs:=t.step b C g a8 hpo
  refine gW (λh9=>?_) λh9=>?_
  ·refine gk (k:=jnE (decide (((op:Nat):Int)=12)) (q:=?_));exact⟨λh8=>by have:=Yt h8;omega,λh8=>by have:=h9;simp_all⟩
  try have j:=K (by have h9:=h9;simpa using h9)
  try have h2l:=Bk h a8
  try have hg2:=Ap h2l
  try have hpo:opV (dM p q ins) d (op,A,B) (pc+1) stk ca=(pc+1,(stk.set (stk.length-2) (jV op (eX stk.dropLast) (eX stk))).take (stk.length-1),ca):=dA
  try have hs:=t.step b C g a8 hpo
  refine gk (k:=jnE (decide (((op:Nat):Int)=13)) (q:=?_));exact⟨λh8=>by have:=Yt h8;omega,λh8=>by have:=of_decide_eq_false h8;omega⟩
 rintro c ⟨S,K⟩
 try dsimp only[Yd,Ye]at*
 refine wi_ (k:=λh10=>?_) (m:=λh10=>?_)
 ·try have j:=S h10
  try have hpo:opV (dM p q ins) d (op,A,B) (pc+1) stk ca=(pc+1,stk.set (stk.length-1) (og op A (eX stk)),ca):=by rw[Gv j hzz,Ar J]
  try have hs:=t.step b C g a8 hpo
  refine wD [7,9] (λk H=>(k=2→dQ H b7 [iN op,uN A,uN B])∧(k=5→Sl H r eVV stk)∧(k=6→Sl H r eVV stk)∧(k=8→Sl H r eVV stk)) (aF 0 (k:=aF 1 (k:=?_)));refine aN 2 rfl (λH hH=>aX) ?_;refine aF 3 (k:=aF 4 (k:=?_));refine aN 5 rfl (λH hH=>bZ) ?_;refine aN 6 rfl (λH hH=>by have hN:=hH.2.2.1 rfl;exact gr (hy:=R)) ?_;refine aS 7 rfl (v2_ (WR hA)) ?_;rintro _ _ ⟨rfl,rfl⟩;refine go ?_;refine aS 9 rfl (et (i:=stk.length-1) (a:=og op A (eX stk)) rfl rfl bH a8) ?_;rintro _ _ ⟨rfl,rfl⟩;refine aZ (go ?_);have u:=hs.2;refine lN ((stk.set (stk.length-1) (og op A (eX stk)),r,pc+1,E+1,ca,f-1)) ?_
  exact hs.1
 try have j:=K ck
 try have h2l:=Bk h a8
 try have hg2:=Ap h2l
 try have hpo:opV (dM p q ins) d (op,A,B) (pc+1) stk ca=(pc+1,(stk.set (stk.length-2) (jV op (eX stk.dropLast) (eX stk))).take (stk.length-1),ca):=dA
 try have hs:=t.step b C g a8 hpo
 refine go ?_;refine wD [14,16] (λk H=>(k=4→dQ H b7 [iN op,uN A,uN B])∧(k=8→Sl H r eVV stk)∧(k=9→Sl H r eVV stk)∧(k=12→Sl H r eVV stk)∧(k=13→Sl H r eVV stk)∧(k=15→Sl H r eVV stk)) (aF 0 (k:=aF 1 (k:=aF 2 (k:=aF 3 (k:=?_)))));refine aN 4 rfl (λH hH=>ah) ?_;refine aF 5 (k:=aF 6 (k:=aF 7 (k:=?_)));refine aN 8 rfl (λH hH=>by have hN:=hH.2.1 rfl;exact ixa (i:=stk.length-2) (hj:=by omega)) ?_;refine aN 9 rfl (λH hH=>by have hN:=hH.2.2.1 rfl;exact gr (hy:=hg2)) ?_;refine aF 10 (k:=aF 11 (k:=?_));refine aN 12 rfl (λH hH=>bu) ?_;refine aN 13 rfl (λH hH=>by have hN:=hH.2.2.2.2.1 rfl;exact gr (hy:=R)) ?_;refine aS 14 rfl (v3_ WL) ?_;rintro _ _ ⟨rfl,rfl⟩;refine aN 15 rfl (λH hH=>by have hN:=hH.2.2.2.2.2 rfl;exact ixa (i:=stk.length-2) (hj:=by omega)) ?_;refine aS 16 rfl (et (i:=stk.length-2) (a:=jV op (eX stk.dropLast) (eX stk)) rfl rfl bH a8) ?_;rintro _ _ ⟨rfl,rfl⟩;refine aZ (qn_ (wr_ (e_ mv (e_ mv ?_))));refine e_ (fV rfl bH 0 (stk.length-1) rfl ⟨_,_,rfl,rfl⟩ a8 (by rw[Ub];omega)) ?_;refine eu (Iu (s:=r) (e:=eVV) (stk.length-1) inferInstance (by rw[Ub];omega)) ?_
 try dsimp only
 refine go ?_;have u:=hs.2;refine lN (((stk.set (stk.length-2) (jV op (eX stk.dropLast) (eX stk))).take (stk.length-1),r.cut 2 0 (stk.length-1),pc+1,E+1,ca,f-1)) ?_
 exact hs.1
end
end
section
variable {G:dJ}{H R1 R2:dD}{m T:Nat}{x:RX}{x0:MX}{p:PrG}{q:PtD}{ins:List Ins}{tb:Hs}{cs:List CuS}{pl:Int}{e:Bool}{st vi:Nat}
theorem OE [h1:dQ H m (mR x pl e st vi)] [h2:Sl H x.cu eRc (x.ls.zip cs)] [hf:nK H x p q ins] (a:iq (fa p q) cs) (hcn:p.curs.length≤100000000):SC G prog 21 [pA m] H (λv g=>v=iN ((cs.map (·.mv)).sum)∧g=H):=by
 have hcl:=a.len;have hpl2:(fa p q).length=p.curs.length:=Yh ..;have hpo:=hf.po.1;have hzl:(x.ls.zip cs).length=cs.length:=dx;refine sWk func21 ?_;refine go ?_;refine gk (k:=e8 (Nat×Nat) (λy=>y.1≤cs.length∧y.2=((cs.take y.1).map (·.mv)).sum∧y.2≤y.1*100100001) (λy=>[(3,iN y.2),(11,iN y.1)]) [(9,_),(10,_)] (λy=>[]) _ (λy=>cs.length-y.1) ((0,0)) (h0:=?_) (k:=?_))
 ·exact⟨Yl _,rfl,Xl _⟩
 rintro⟨i,w⟩ ⟨hi,b,hwb⟩
 try dsimp only[Yd,Ye]at*
 refine gW (λh1=>?_) λh1=>?_
 ·obtain⟨s,c,hs,hc,f,hzlt,hgd,hset,d,hpoc⟩:=tg hf a (k:=i) ao;have hmv:=d.mvle;refine wk_ (qn_ (ws_ (wb_ (ws_ (wr_ (e_ ixa (e_ (gr (hy:=f)) (alc (k:=λb5=>?_)))))))));refine sto (k:=on_ (qn_ (wr_ ?_)));dsimp only;refine go ?_;refine lN ((i+1,w+c.mv)) ?_
  try dsimp only
  exact⟨a8,by rw[dK hc,Xp,S3,←b];simp,bt⟩
 obtain rfl:i=cs.length:=ao;rw[Xn]at b;refine gR ?_;rw[←b];exact⟨_,hsb,rfl,rfl⟩
def RSt (c:Cfg) (s:MS) (pl:Int) (e:Bool):Prop:=(e=false∧pl=s.pl)∨(e=true∧eQ c s=(false,s))
theorem SP {s:MS} [h1:Rem H Vr m (mR x pl e s.steps s.visits) R1] [h2:mh R1 x.cu eRc (x.ls.zip s.cs) R2] [hf:nK R2 x p q ins] (hro:tl x0 p q (fa p q) T ins tb) (hms:lT (dM p q ins) (fa p q) s) (hst:RSt (dM p q ins) s pl e) (hpd:∀ps∈fa p q,∀z∈ps,z.1<q.ds.length) (hT:T≤1000000000000):
 SC G prog 16 [pA m] H (λv H'=>((∃h:Hit,(fh (dM p q ins) s).1=some h∧v=.tuple #[.agg #[.int .i64 h.1,uN h.2],.bool true])∨((fh (dM p q ins) s).1=none∧v=.tuple #[.agg #[.int .i64 0,.int .u64 0],.bool false]))∧∃(pl':Int) (e':Bool),RSt (dM p q ins) (fh (dM p q ins) s).2 pl' e'∧H'=Vr m (mR x pl' e' (fh (dM p q ins) s).2.steps (fh (dM p q ins) s).2.visits)::Row x.cu eRc (x.ls.zip (fh (dM p q ins) s).2.cs)::R2):=by
 have hids:=hro.ids
 have hqn:=hro.so.q.n
 have hdl2:=hf.docs.1
 refine SC.less (dH.rem h1 (gi h2 dH.refl).keep) ?_
 refine sWk func16 ?_
 refine gk (k:=alc (k:=λb2=>?_))
 refine gk (k:=e8 (MS×Bool×Int×Nat) (λy=>RSt (dM p q ins) y.1 y.2.2.1 y.2.1∧1≤y.2.2.2∧lT (dM p q ins) (fa p q) y.1∧(y.2.1=false→(q.ds.length:Int)≤((y.2.2.2:Nat):Int)+y.1.pl∧fh (dM p q ins) s=qZ (dM p q ins) y.2.2.2 y.1)∧(y.2.1=true→fh (dM p q ins) s=(none,y.1))) (λy=>[]) [(0,_),(2,_)] (λy=>[Vr m (mR x y.2.2.1 y.2.1 y.1.steps y.1.visits),Row x.cu eRc (x.ls.zip y.1.cs)]) (Vr b2 [.int .i64 0,.int .u64 0]::R2) (λy=>y.2.2.2) ((s,e,pl,q.ds.length+1)) (h0:=?_) (k:=?_))
 ·try dsimp only
  have hlo:=hms.lo
  refine⟨hst,a8,hms,λ_=>⟨a8,by rw[fh,hids]⟩,λhe=>?_⟩
  rcases hst with⟨h8,_⟩|⟨_,h8⟩
  ·rw[h8]at he;cases he
  ·exact EL h8
 rintro⟨sa,e1,pl1,n⟩ ⟨hrs,hn1,hsa,hnf,hnt⟩
 try dsimp only[Yd,Ye]at*
 refine gW (λh1=>?_) (λh1=>?_)
 ·obtain rfl:e1=false:=by have h9:=h1;simpa using h9
  obtain⟨hn2,hnx⟩:=hnf rfl
  obtain rfl:pl1=sa.pl:=by
   rcases hrs with⟨_,h8⟩|⟨h8,_⟩
   ·exact h8
   ·cases h8
  obtain⟨n,rfl⟩:∃g,n=g+1:=⟨n-1,a8⟩
  rw[qZ]at hnx
  obtain⟨hsB,hse,hve,_,hal⟩:=qV hro.dr hro.few hsa
  refine go ?_
  refine c1_ rfl (SQ hro.so hsa hro.dr hro.drl hpd) (k:=?_)
  rintro _ _ (⟨hy,rfl,rfl⟩|⟨hy,rfl,pl2,rfl⟩)
  ·rw[if_neg (by rw[hy];decide)]at hnx
   obtain⟨hgt,hal2⟩:=hal hy
   obtain⟨hp1,hp2⟩:=yC hal2
   obtain⟨hsc,_,hgt2,_⟩:=wT hro.dr hro.few hsa hy
   rw[hids]at hp2
   rw[←hse,←hve]
   obtain⟨sb,hsBe⟩:=ex ((eQ (dM p q ins) sa).2)
   rw[←hsBe]at hnx hsB hgt hp1 hp2 hsc hgt2
   rw[←hsBe]
   obtain⟨d,hd⟩:∃d:Nat,sb.pl=(d:Int):=⟨sb.pl.toNat,a8⟩
   rw[hd]
   have hdl:d<q.ds.length:=a8
   obtain⟨dd,sv,vs,hli,hds,hsv⟩:=hf.docs.get (i:=d) (a8)
   have hid:(dM p q ins).ids.getD sb.pl.toNat 0=dd:=by rw[hd,Ve];show(q.ds.map (·.1)).getD d 0=dd;rw[Xj,Xd,hds];all_goals rfl
   obtain⟨vm,hvm⟩:=ex (jh (dM p q ins) sb)
   have hvp:vm.2.pl=(d:Int):=by rw[hvm];exact hd
   have hvv:jh (dM p q ins) sb=((mF (dM p q ins) d ins.length 0 [] sb.cs sb.steps).1,⟨(mF (dM p q ins) d ins.length 0 [] sb.cs sb.steps).2.1,sb.pl,(mF (dM p q ins) d ins.length 0 [] sb.cs sb.steps).2.2,sb.visits+1⟩):=by rw[jh,hd,Ve];all_goals rfl
   rw[←hvm]at hnx hsc hgt2 hvv
   obtain⟨g1,g2⟩:=tT hro hsB
   refine gW (λh2=>?_) (λh2=>?_)
   ·exact absurd h2 (a8)
   refine go ?_
   refine d2_ rfl ((OA (d:=d) hro.so hro.gp hsB.cs hdl (a8) (a8) hT).mono (K':=λv H'=>v=vvV vm.1∧H'=Vr m (mR x vm.2.pl false vm.2.steps vm.2.visits)::Row x.cu eRc (x.ls.zip vm.2.cs)::_) (λv H' h=>⟨by rw[hvv];exact h.1,by rw[h.2,hvv,hd]⟩)) (k:=alc (k:=λb5=>?_))
   refine gW (λh3=>?_) (λh3=>?_)
   ·have hhit:vm.1.1=true:=h3
    rw[if_pos hhit]at hnx
    rw[hnx]
    refine go ?_
    refine wD [11] (λk H=>(k=3→dQ H m (mR x vm.2.pl false vm.2.steps vm.2.visits))∧(k=5→Sl H x.dv eD x.l)∧(k=6→Sl H x.dv eD x.l)∧(k=7→Sl H x.dv eD x.l)∧(k=9→dQ H b5 [.bool vm.1.1,uN vm.1.2])) (aF 0 (k:=aF 1 (k:=aF 2 (k:=?_))))
    refine aN 3 rfl (λH hH=>ah) (?_)
    refine aF 4 (k:=?_)
    refine aN 5 rfl (λH hH=>bZ) (?_)
    refine aN 6 rfl (λH hH=>by have hN:=hH.2.2.1 rfl;exact fle) (?_)
    refine aN 7 rfl (λH hH=>by have hN:=hH.2.2.2.1 rfl;exact lfl (hy:=hli)) (?_)
    refine aF 8 (k:=?_)
    refine aN 9 rfl (λH hH=>by have hN:=hH.2.2.2.2 rfl;exact ldv) (?_)
    refine af_ 10 (q:=ea λH hH=>bld [(0,_),(1,_)]) (k:=?_)
    refine aS 11 rfl (ej rfl rfl rfl) ?_
    rintro _ _ ⟨rfl,rfl⟩
    refine gk (k:=aZ (gR ?_))
    exact⟨Vr m (mR x vm.2.pl false vm.2.steps vm.2.visits)::Row x.cu eRc (x.ls.zip vm.2.cs)::R2,hsb,.inl ⟨((dM p q ins).ids.getD sb.pl.toNat 0,vm.1.2),rfl,by rw[hid];all_goals rfl⟩,vm.2.pl,false,.inl ⟨rfl,rfl⟩,rfl⟩
   have hhit:¬vm.1.1=true:=da
   rw[if_neg hhit]at hnx
   refine go ?_
   refine ln_ ((vm.2,false,vm.2.pl,n)) (k:=?_)
   try dsimp only
   exact⟨.inl ⟨rfl,rfl⟩,a8,hsc,λ_=>⟨a8,hnx⟩,λh8=>(by cases h8)⟩
  rw[if_pos hy]at hnx
  have hstop:=Il hro.dr hsa hy
  rw[←hse,←hve]
  refine gW (λh4=>?_) (λh4=>?_)
  ·refine ws_ (wr_ (e_ mv (k:=e_ nck (k:=e_ fla (k:=sto (k:=on_ (qn_ (we_ (qe_ (bm_ (k:=le_ (bh_ (qn_ (?_))))))))))))))
   refine ws_ (wr_ (e_ (bld []) (k:=sto (k:=e_ asn (k:=on_ (qn_ (wt_ (rT (k:=?_)))))))))
   rw[hnx];exact⟨Vr m (mR x pl2 true (eQ (dM p q ins) sa).2.steps (eQ (dM p q ins) sa).2.visits)::Row x.cu eRc (x.ls.zip (eQ (dM p q ins) sa).2.cs)::R2,hsb,.inr ⟨rfl,rfl⟩,pl2,true,.inr ⟨rfl,hstop⟩,rfl⟩
  exact absurd h4 (ae)
 obtain rfl:e1=true:=bg
 have hfin:=hnt rfl
 refine we_ (qe_ (le_ (bh_ (qn_ (ws_ (wr_ (e_ (bld []) (k:=sto (k:=e_ asn (k:=on_ (qn_ (wt_ (rT (k:=?_))))))))))))))
 rw[hfin];exact⟨Vr m (mR x pl1 true sa.steps sa.visits)::Row x.cu eRc (x.ls.zip sa.cs)::R2,hsb,.inr ⟨rfl,rfl⟩,pl1,true,hrs,rfl⟩
end
end Go.Sx
