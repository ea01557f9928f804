import Derived.Test.YtcokhbglfaakjaaGreatDoorQ22
import Derived.Test.YtcokhbglfaakjaaGreatDoorQ19
import Derived.Test.YtcokhbglfaakjaaGreatDoorQ23
import Derived.Test.YtcokhbglfaakjaaGreatDoorQ20
set_option linter.all false
set_option maxHeartbeats 0
namespace Go.Sx
open Go Go.Proofs Tryz
set_option maxRecDepth 100000
section
variable {p:PrG}{q:PtD}
set_option synthInstance.maxHeartbeats 400000
set_option synthInstance.maxSize 4000
theorem WI {H R:dD}{zs:List RG}(hr:nR H (Cl rgH zs) R):∀z∈zs,gV H z.e.s (z.e.l.map pgP):=λz a=>by
 obtain⟨i,hi⟩:=Vo a;exact⟨_,WG hr hi,WH hr hi⟩
theorem Hz {a:List SV}{cs:List CuS}{s:SV}{c:CuS}{i:Nat}(hc:cs[i]? =some c) (hl:a.length=i):a.zip (cs.take i)++ [(s,c)]=(a++ [s]).zip (cs.take (i+1)):=by
 have:=(Yk.1 hc).1;rw[dK hc,List.zip_append az];all_goals rfl
theorem ON {i b:Nat}{a:ByteArray}(h:p.curs[i]? =some (((b:Nat):Int),a)):(fa p q)[i]? =some (nC q.fs q.ds b a):=by
 rw[fa,Xd,h];all_goals rfl
instance {a b:SV}:gP ePa (.agg [a.val,b.val,.slice none 0 0].toArray) (a,b,SV.nil):=⟨rfl⟩
instance {s:SV}{ps:List Po}:gP eRc (.agg (rcV s ⟨ps,0,0,false⟩).toArray) (s,⟨ps,0,0,false⟩):=⟨rfl⟩
theorem WS {G:dJ}{H HB:dD}{a:PrA}{T:Nat}{fv dv de:SV}{l:List (Int×SV)}{D:List Bool}(hB:dH H HB) (a7:il HB a p) (a2:pk HB a p) (b0:Sl HB fv eF q.fs) (b1:Sl HB dv eD l) (M:Sl HB de eBo D) (K:gK HB l q.ds) (hD:D.length=q.ds.length∧∀i,i<q.ds.length→D[i]? =some (l8 q.dw i)) (hk:sj p q T):SC G prog 13 [.agg (prV a p.all).toArray,.agg #[fv.val,dv.val,de.val]] H (λv H'=>
 (∃e:Nat,kP p q=.error e∧(e=20∨e=9)∧v=.tuple #[.pointer none,.int .i64 (xJ e)]∧H'=H)∨
 (∃(ins:List Ins) (m:Nat) (x:RX) (F:dD),kP p q=.ok ins∧nK (eU F::HB) x p q ins∧v=.tuple #[pA m,.int .i64 0]∧H'=Vr m (mR x (-1) false 0 0)::Row x.cu eRc (x.ls.zip (cu0 p q))::eU F::H)):=by
 haveI hp:=a7.less hB;haveI hpc:pk H a p:=⟨ee hB a2.co⟩;haveI hf:=ee hB b0;haveI hd:=ee hB b1;haveI hde:=ee hB M;have a4:=K.less hB;have Y:=hk.sm;have hcn:=hk.cn;have a6:=hk.seg.size;have hfew:=hk.seg.few;have hll:=a4.1;have X:∀d∈q.ds,d.2.length≤64∧∀v∈d.2,v.2.size≤4096:=λd hd=>by
  obtain⟨g1,g2⟩:=np (hk.seg.vals d hd);exact⟨g1,λv hv=>(g2 v hv).1⟩
 have Z:q.fs.length≤16:=(jx hk.seg.chk).1.2;refine sWk func13 ?_;refine gk (k:=bxx (k:=λb2=>?_));refine bxx (k:=λb3=>?_);refine go ?_;refine c1_ rfl (KC (a:=a) (p:=p) Y) ?_;rintro _ _ ⟨(⟨hno,rfl⟩|⟨tb,n8,m8,V,rfl⟩),rfl⟩
 ·have hN:kP p q=.error 20:=by rw[kP,hno]
  refine gk (k:=alc (k:=λb6=>?_));refine gk (k:=ift (k:=go ?_));refine gR ?_;exact⟨_,hsb,.inl ⟨20,hN,.inl rfl,rfl,rfl⟩⟩
 obtain⟨J,a9⟩:=vz V;have g:=a9.dec;refine gk (k:=alc (k:=λb6=>?_));refine gk (k:=fM (k:=go ?_));refine gW (λh1=>?_) λh1=>?_
 ·have hN:kP p q=.error 9:=by rw[kP,V];simp only;rw[if_neg ao]
  refine gR ?_;exact⟨_,hsb,.inl ⟨9,hN,.inr rfl,rfl,rfl⟩⟩
 have hN:kP p q=.ok J:=by rw[kP,V,g];simp only;rw[if_pos ao]
 obtain⟨t1,t2,t3,t4,t5⟩:=rz a9.tab;have hfa:q.fs.length=p.avgs.length:=ao;refine wk_ (qn_ (ws_ (wr_ (e_ lds (e_ fla (e_ ldv (e_ fla (e_ ldv (e_ (bld [(0,_),(2,_),(3,_),(6,_)]) (bxx (k:=λh=>?_)))))))))));refine go ?_;refine c1_ rfl (zi (xs:=p.code) Y.k Y.cb) ?_;rintro _ _ (⟨d0,rfl,rfl⟩|⟨r,b,d1,rfl,rfl⟩)
 ·rw[lu,d0]at g;cases g
 obtain rfl:b=J:=by rw[lu,d1]at g;exact Xk g
 refine e_ mv (e_ exr (e_ exr (e_ nck (e_ fla (sto (k:=on_ (qn_ (ws_ (wr_ (e_ fla (e_ lds (e_ fla (e_ ldv ?_)))))))))))));refine e_ (bld [(0,_),(1,_)]) (fS ePa (k:=λb7=>?_));refine c1_ rfl (SB (fv:=fv) (dv:=dv) (fs:=q.fs) (l:=l) (ds:=q.ds) (a4.less hsb) Z a8 (λd hd=>⟨by have:=(X d hd).1;omega,λv hv=>by have:=(X d hd).2 v hv;omega⟩) a6) ?_;rintro _ _ ⟨w,zs,out,rfl,B,c1,N,rfl⟩;have hol:=B.length_eq;have hs4:=pF q.fs q.ds 0;have hs42:q.fs.length*dsz q.ds≤16*30000000:=Uv Z a6;have b8:=(Cp N).1;rw[Yh]at b8;refine e_ asn (on_ (qn_ (ws_ (ws_ (wr_ ?_)))));refine eu (dH.nilRow (e:=eRc) dH.refl) ?_;refine gk (k:=e8 (Nat×SV×(List SV)) (λy=>y.1≤p.curs.length∧y.2.2.length=y.1∧∀k s,y.2.2[k]? =some s→gV (Row w eRw (zs.map rwV)::Cl rgH zs::HB) s ((fa p q).getD k [])) (λy=>[(58,iN y.1)]) [(3,_),(8,_),(9,_),(56,_),(57,_)] (λy=>[Vr h (mR ⟨a,p.all,r,dv,de,SV.nil,y.2.1,y.2.2,l,D, []⟩ (-1) false 0 0),Row y.2.1 eRc (y.2.2.zip ((cu0 p q).take y.1))]) _ (λy=>p.curs.length-y.1) ((0,SV.nil, [])) (h0:=?_) (k:=?_))
 ·try dsimp only
  exact⟨Yl _,rfl,λk s h8=>by simp at h8⟩
 rintro⟨i,u,t⟩ ⟨hi,E,hpo⟩
 try dsimp only[Yd,Ye]at*
 refine gW (λh2=>?_) λh2=>?_
 ·obtain⟨⟨b4,ky⟩,hfk⟩:∃z,p.curs[i]? =some z:=⟨_,Yi aw⟩;obtain⟨c9,c8,c7⟩:=t3 _ (Yj hfk);simp only at c9 c8 c7;obtain⟨fd,rfl⟩:∃n:Nat,b4=(n:Int):=⟨b4.toNat,a8⟩;have d2:=Hi (q:=q) hfk;have c2:=ON (q:=q) hfk;have hbl:(t.zip ((cu0 p q).take i)).length≤100000000:=dx;refine wk_ (qn_ (ws_ (wb_ (ws_ (wr_ (e_ ixa (e_ (gr (hy:=hfk)) (alc (k:=λd4=>?_)))))))));refine go ?_;refine wD [7,8,9,10,13] (λk H=>(k=4→dQ H h (mR ⟨a,p.all,r,dv,de,SV.nil,u,t,l,D, []⟩ (-1) false 0 0))∧(k=6→dQ H d4 [iN fd,.string ky])) (aF 0 (k:=aF 1 (k:=aF 2 (k:=aF 3 (k:=?_)))));refine aN 4 rfl (λH hH=>ah) ?_;refine aF 5 (k:=?_);refine go ?_;refine aS 7 rfl (lU (vs:= [_,_]) rfl (Ia (R:=Row w eRw (zs.map rwV)::Cl rgH zs::HB) (fs:=q.fs) (ds:=q.ds) (dH.trans (H':=Row w eRw (zs.map rwV)::Cl rgH zs::H) hsb (dH.keep (dH.keep hB))) inferInstance (WI inferInstance) Z a8 B c1 N a8)) ?_;rintro _ _ ⟨⟨U,rfl,a1⟩,rfl⟩;refine aS 8 rfl (v1_ (SO (s:=U) (ps:=nC q.fs q.ds fd ky))) ?_;rintro _ _ ⟨rfl,rfl⟩;refine aS 9 rfl (fK eRc rfl rfl) ?_;rintro _ _ ⟨s71,rfl,rfl⟩;refine aS 10 rfl (gf rfl rfl rfl rfl ab ab) ?_;rintro _ _ ⟨b5,rfl,rfl⟩;refine go ?_;refine aS 13 rfl (ej rfl rfl rfl) ?_;rintro _ _ ⟨rfl,rfl⟩;refine aZ (bn_ (qn_ (wr_ ?_)));rw[Hz d2 E];refine go ?_;refine lN ((i+1,b5,t++ [U])) ?_
  try dsimp only
  exact⟨a8,by rw[Ya,E];all_goals rfl,λk s h8=>by
   rcases Us k t.length with h7|h7
   ·rw[Yv h7]at h8;exact hpo k s h8
   ·rw[Yu h7]at h8;have h6:k=i:=by have h5:=(Yk.1 h8).1;simp at h5;omega
    subst h6;rw[E,Ui]at h8;obtain rfl:U=s:=Xk h8;rw[Xj,c2];exact a1⟩
 obtain rfl:i=p.curs.length:=aw;have ht:(cu0 p q).take p.curs.length=cu0 p q:=Xr (by rw[cu0,fa,Yh,Yh];exact Xl _);refine we_ (qe_ (le_ (bh_ (qn_ (ws_ (ws_ (wr_ ?_)))))));refine eu (dH.nilRow (e:=eSV) (ga (f:=lnH) dH.refl)) ?_;refine gk (k:=e8 (Nat×SV×(List (SV×List Nat))) (λy=>y.1≤q.fs.length∧y.2.2.map (·.2)=(List.range y.1).map (eL q.fs q.ds)) (λy=>[(80,iN y.1)]) [(3,_),(8,_),(79,_)] (λy=>[Vr h (mR ⟨a,p.all,r,dv,de,y.2.1,u,t,l,D,y.2.2.map (·.1)⟩ (-1) false 0 0),Row y.2.1 eSV (y.2.2.map (·.1)),Cl lnH y.2.2]) _ (λy=>q.fs.length-y.1) ((0,SV.nil, [])) (h0:=?_) (k:=?_))
 ·exact⟨Yl _,rfl⟩
 rintro⟨i2,C,c⟩ ⟨hi2,hzz⟩
 try dsimp only[Yd,Ye]at*
 refine gW (λh3=>?_) λh3=>?_
 ·obtain⟨L,hL⟩:=ex (eL q.fs q.ds i2);have hLl:L.length=q.ds.length:=by rw[hL,eL,Yh]
  have hzzl:(c.map (·.1)).length=i2:=by have h8:=congrArg List.length hzz;simpa using h8
  refine go ?_;refine s_ (fk eI rfl) ?_;rintro _ _ ⟨S,rfl,rfl⟩;refine e_ asn (on_ (qn_ (ws_ (ws_ (wr_ ?_)))));rw[show Row S eI ([]:List Int)=Row S eI (dT (L.take 0))from rfl];refine gk (k:=e8 (Nat×SV) (λy=>y.1≤l.length) (λy=>[(13,y.2.val),(87,iN y.1)]) [(3,_),(8,_),(12,_),(79,_),(80,_),(85,_),(86,_)] (λy=>[Row y.2 eI (dT (L.take y.1))]) _ (λy=>l.length-y.1) ((0,S)) (h0:=?_) (k:=?_))
  ·exact Yl _
  rintro⟨j,sv⟩ hj
  try dsimp only[Yd,Ye]at*
  refine gW (λh4=>?_) λh4=>?_
  ·obtain⟨d9,s9d,vs,c3,a3,hsvd⟩:=a4.get (i:=j) aJ;obtain⟨c0,a5⟩:=X _ (Yj a3);have b9:=rP (Yj a3);simp only at c0 a5 b9;have d3:L[j]? =some (eZ q.fs i2 vs).length:=by rw[hL,eL,Xd,a3];all_goals rfl
   have hLt:(dT (L.take j)).length=j:=by rw[eJ,Yg];omega
   refine wk_ (qn_ (ws_ (wb_ (ws_ (wr_ (e_ ixa (e_ (gr (hy:=c3)) (alc (k:=λb15=>?_)))))))));refine go ?_;refine c3_ rfl (KB a8 a8 a8 (λv hv=>by have:=a5 v hv;omega) a8) ?_;rintro _ _ ⟨s97,rfl,rfl⟩;refine gk (k:=fS eI (k:=λs99=>?_));refine app (k:=λa0=>?_);rw[show dT (L.take j)++ [(((eZ q.fs i2 vs).length:Nat):Int)]=dT (L.take (j+1))from by rw[dK d3];simp[dT]];refine go ?_;refine lN ((j+1,a0)) ?_
   try dsimp only
   omega
  obtain rfl:j=l.length:=aJ;rw[show L.take l.length=L from Xr a8];refine gk (k:=fS eSV (k:=λs108=>?_));refine app (k:=λA=>?_);refine e_ nck (e_ fla (sto (k:=on_ (bn_ (qn_ (wr_ ?_))))));refine eu (dH.trans (H':=Row sv eI (dT L)::Cl lnH c::Row A eSV ((c++ [(sv,L)]).map (·.1))::Vr h (mR ⟨a,p.all,r,dv,de,A,u,t,l,D,(c++ [(sv,L)]).map (·.1)⟩ (-1) false 0 0)::Row u eRc (t.zip ((cu0 p q).take p.curs.length))::Row w eRw (zs.map rwV)::Cl rgH zs::Row b7 ePa [(fv,dv,SV.nil)]::Row r l7 b::Vr b6 [.int .i64 n8,.int .i64 m8]::Vr b3 [fv.val,dv.val,de.val]::Vr b2 (prV a p.all)::H) (by rw[Xp];exact hsb) (AS (sv,L))) ?_;refine go ?_;refine lN ((i2+1,A,c++ [(sv,L)])) ?_
  try dsimp only
  exact⟨a8,by rw[Xp,hzz,X9,Xp,hL];all_goals rfl⟩
 obtain rfl:i2=q.fs.length:=aD;refine gR ?_;obtain⟨c5,c4⟩:=GJ (zs:=c) (H:= [Row w eRw (zs.map rwV),Cl rgH zs,Row r l7 b,Row C eSV (c.map (·.1)),Cl lnH c]) inferInstance hzz;refine⟨Vr h (mR ⟨a,p.all,r,dv,de,C,u,t,l,D,c.map (·.1)⟩ (-1) false 0 0)::Row u eRc (t.zip (cu0 p q))::eU [Row w eRw (zs.map rwV),Cl rgH zs,Row r l7 b,Row C eSV (c.map (·.1)),Cl lnH c]::H,?_,.inr ⟨b,h,⟨a,p.all,r,dv,de,C,u,t,l,D,c.map (·.1)⟩, [Row w eRw (zs.map rwV),Cl rgH zs,Row r l7 b,Row C eSV (c.map (·.1)),Cl lnH c],hN,?_,rfl,rfl⟩⟩
 ·exact dH.trans (H':=Vr h (mR ⟨a,p.all,r,dv,de,C,u,t,l,D,c.map (·.1)⟩ (-1) false 0 0)::Row u eRc (t.zip (cu0 p q))::Row w eRw (zs.map rwV)::Cl rgH zs::Row r l7 b::Row C eSV (c.map (·.1))::Cl lnH c::H) (by rw[ht];exact hsb) (dH.keep (dH.keep (dH.star (F:= [Row w eRw (zs.map rwV),Cl rgH zs,Row r l7 b,Row C eSV (c.map (·.1)),Cl lnH c]) dH.refl)))
 ·haveI:=a7;haveI:=b0;haveI:=b1;haveI:=M;exact⟨inferInstance,inferInstance,inferInstance,K.less (dH.drop dH.refl),inferInstance,hD,inferInstance,⟨c5,λi s hi=>ee n4 (c4 i s hi)⟩,⟨E,λk s c6=>(hpo k s c6).less (dH.unstar.trans (show dH (Row w eRw (zs.map rwV)::Cl rgH zs::Row r l7 b::Row C eSV (c.map (·.1))::Cl lnH c::HB) (Row w eRw (zs.map rwV)::Cl rgH zs::HB)from hsb))⟩,rfl⟩
end
theorem MW {l:List Po}{d p:Nat}:∀z∈fI l d p,z.1=d∨∃y∈l,y.1=z.1:=λz hz=>by
 unfold fI at hz
 split at hz
 ·split at hz
  ·rcases Xm.1 hz with hz|hz
   ·exact .inr ⟨z,(List.dropLast_sublist l).subset hz,rfl⟩
   ·rw[Vb.1 hz];exact .inl rfl
  ·rcases Xm.1 hz with hz|hz
   ·exact .inr ⟨z,hz,rfl⟩
   ·rw[Vb.1 hz];exact .inl rfl
 ·rw[Vb.1 hz];exact .inl rfl
theorem zH:∀(ts:List (Nat×Nat)) (l:List Po),∀z∈ts.foldl (λl t=>fI l t.1 t.2) l,(∃y∈l,y.1=z.1)∨∃t∈ts,t.1=z.1
 | [],l,z,hz=>.inl ⟨z,hz,rfl⟩
 |t::ts,l,z,hz=>by
  rcases zH ts _ z hz with⟨y,hy,e⟩|⟨u,b,e⟩
  ·rcases MW y hy with h8|⟨w,a,h8⟩
   ·exact .inr ⟨t,Yz,by rw[←e,h8]⟩
   ·exact .inl ⟨w,a,by rw[h8,e]⟩
  ·exact .inr ⟨u,Xa _ b,e⟩
theorem SU {p:PrG}{q:PtD}:∀b∈fa p q,∀z∈b,z.1<q.ds.length:=λb a z g=>by
 obtain⟨c,_,rfl⟩:=Xt.1 a;rcases zH _ _ z g with⟨y,hy,_⟩|⟨t,i,e⟩
 ·cases hy
 ·obtain⟨u,h,rfl⟩:=Xt.1 i;obtain⟨f,j,d,u2,_,hj,_,rfl⟩:=xu (List.mem_filter.1 h).1;rw[←e];exact(Yk.1 hj).1
theorem sj.small {p:PrG}{q:PtD}{T:Nat}(h:sj p q T):∃T,sj p q T∧T≤100000000:=by
 refine⟨min T 100000000,⟨h.sm,h.seg,h.pt,λb a=>?_,λn hn=>⟨?_,(h.near n hn).2⟩,h.cn,h.os⟩,a8⟩
 ·have h1:=h.tot b a;have h2:=(CB h.seg b a).2.2;omega
 ·exact Xi (V7 _ (Nat.min_le_left _ _)) (h.near n hn).1
theorem vy {n:Nat}{dead:List Int}{ws:List Nat}{D:List Bool}(h:yu n dead ws) (h1:D.length=n) (h2:∀j,j<n→D[j]? =some (decide (((j:Nat):Int)∈dead))):D.length=n∧∀i,i<n→D[i]? =some (l8 ws i):=⟨h1,λi hi=>by rw[h2 i hi,h.2.2.2 i hi]⟩
def UG (G:dJ):Option Nat→Value
 |none=>.nilIface
 |some e=>G.err e
def Ld:Option Nat→Int
 |none=>0
 |some e=>xJ e
def YC (o:Option Nat):Prop:=o=none∨o=some 9∨o=some 20∨o=some 21
theorem AQ {G:dJ}{H:dD} [hg:Glb G H] [Ja G] {o:Option Nat}(h:YC o):SC G prog 10 [UG G o] H (λv a=>v=.int .i64 (Ld o)∧a=H):=by
 rcases h with rfl|rfl|rfl|rfl
 ·exact Tg
 ·haveI:kx 9:=⟨ae⟩;exact EK 9
 ·haveI:kx 20:=⟨ae⟩;exact EK 20
 ·haveI:kx 21:=⟨ae⟩;exact EK 21
theorem Pe {p:PrG}{q:PtD}{e:Nat}(h:kP p q=.error e):e=20∨e=9:=by
 unfold kP at h
 split at h
 ·exact .inl (Except.error.inj h).symm
 ·split at h
  ·split at h
   ·exact .inl (Except.error.inj h).symm
   ·cases h
  ·exact .inr (Except.error.inj h).symm
section
variable {G:dJ}{H:dD}{a:PrA}{p:PrG}{q:PtD}{T:Nat}{fu:Int}
end
section
variable {HB:dD}{pt:PtA}
abbrev ptrL (M:List Nat):Value:=.pointer (M.head?.map λm=>⟨m,0,none⟩)
def newO (p:PrG) (q:PtD):Option Nat:=match kP p q with
 | .error e=>some e
 | .ok _=>none
theorem newO_few {p:PrG}{q:PtD}:YC (newO p q):=by
 unfold newO;cases h:kP p q with
 |error e=>rcases Pe h with rfl|rfl;exact .inr (.inr (.inl rfl));exact .inr (.inl rfl)
 |ok ins=>exact .inl rfl
structure nZ9 where
 m:Nat
 x:MX
 F:dD
 ins:List Ins
 tb:Hs
structure rZ9 where
 m:Nat
 x:RX
 F:dD
def nzH (p:PrG) (q:PtD) (z:nZ9):dD:= [Ma z.m (z.x,mn (fa p q)),eU z.F]
def rzH (p:PrG) (q:PtD) (z:rZ9):dD:= [Vr z.m (mR z.x (-1) false 0 0),Row z.x.cu eRc (z.x.ls.zip (cu0 p q)),eU z.F]
def NzOk (p:PrG) (q:PtD) (T:Nat) (pt:PtA) (l:List nZ9):Prop:=(∃e,kP p q=.error e∧l= [])∨∃z,kP p q=.ok z.ins∧l= [z]∧tl z.x p q (fa p q) T z.ins z.tb∧lT (dM p q z.ins) (fa p q) (mn (fa p q))∧qz z.F z.x p z.ins∧z.x.pt=pt
def RzOk (HB:dD) (p:PrG) (q:PtD) (l:List rZ9):Prop:=(∃e,kP p q=.error e∧l= [])∨∃z ins,kP p q=.ok ins∧l= [z]∧nK (eU z.F::HB) z.x p q ins
section
variable {G:dJ}{H:dD}{a:PrA}{p:PrG}{q:PtD}{T:Nat}
theorem tNewU [hg:Glb G H] [hia:Isa H] [hp:il H a p] [hpc:pk H a p] [hpt:eN H pt q] (hk:sj p q T):SC G prog 12 [.agg (prV a p.all).toArray,pA pt.p] H (λv H'=>∃l:List nZ9,NzOk p q T pt l∧v=.tuple #[ptrL (l.map (·.m)),UG G (newO p q)]∧H'=Cl (nzH p q) l::H):=
 SC.out ((QG (a:=a) (p:=p) (pt:=pt) (q:=q) hk).mono λv H' h=>by
  unfold newO;rcases h with⟨e,h1,_,rfl,rfl⟩|⟨ins,m,c,b,u,bs,F,h1,h2,h3,rfl,rfl⟩
  ·rw[h1];exact⟨_,ga dH.refl, [],.inl ⟨e,h1,rfl⟩,rfl,rfl⟩
  ·obtain⟨⟨tb,h4⟩,h5⟩:=QQ (x:=⟨c,p.all,b,pt,u,bs⟩) hk h1 rfl h2;rw[h1];exact⟨_,dH.trans (H':=Ma m (⟨c,p.all,b,pt,u,bs⟩,mn (fa p q))::eU F::Cl (nzH p q) []::H) (dH.keep (dH.keep (ga dH.refl))) (o4 (f:=nzH p q) (l:= []) ⟨m,⟨c,p.all,b,pt,u,bs⟩,F,ins,tb⟩), [⟨m,⟨c,p.all,b,pt,u,bs⟩,F,ins,tb⟩],.inr ⟨_,h1,rfl,h4,h5,h3,rfl⟩,rfl,rfl⟩)
theorem rNewU {fv dv de:SV}{l:List (Int×SV)}{D:List Bool}(r:dH H HB) (g:il HB a p) (b:pk HB a p) (j:Sl HB fv eF q.fs) (k:Sl HB dv eD l) (d:Sl HB de eBo D) (c:gK HB l q.ds) (n:D.length=q.ds.length∧∀i,i<q.ds.length→D[i]? =some (l8 q.dw i)) (hk:sj p q T):SC G prog 13 [.agg (prV a p.all).toArray,.agg #[fv.val,dv.val,de.val]] H (λv H'=>∃l:List rZ9,RzOk HB p q l∧v=.tuple #[ptrL (l.map (·.m)),.int .i64 (Ld (newO p q))]∧H'=Cl (rzH p q) l::H):=
 SC.out ((WS (a:=a) (p:=p) (q:=q) r g b j k d c n hk).mono λv H' h=>by
  unfold newO;rcases h with⟨e,h1,_,rfl,rfl⟩|⟨ins,m,x,F,h1,h2,rfl,rfl⟩
  ·rw[h1];exact⟨_,ga dH.refl, [],.inl ⟨e,h1,rfl⟩,rfl,rfl⟩
  ·rw[h1];exact⟨_,dH.trans (H':=Vr m (mR x (-1) false 0 0)::Row x.cu eRc (x.ls.zip (cu0 p q))::eU F::Cl (rzH p q) []::H) (dH.keep (dH.keep (dH.keep (ga dH.refl)))) (o4 (f:=rzH p q) (l:= []) ⟨m,x,F⟩), [⟨m,x,F⟩],.inr ⟨⟨m,x,F⟩,ins,h1,rfl,h2⟩,rfl,rfl⟩)
end
structure pZ9 where
 p:PrG
 T:Nat
 ins:List Ins
 tb:Hs
 m:Nat
 x:MX
 F:dD
 m2:Nat
 x2:RX
 F2:dD
 s:MS
 pl:Int
 e:Bool
def pzH (z:pZ9):dD:= [Ma z.m (z.x,z.s),eU z.F,Vr z.m2 (mR z.x2 z.pl z.e z.s.steps z.s.visits),Row z.x2.cu eRc (z.x2.ls.zip z.s.cs),eU z.F2]
structure PzOk (HB:dD) (q:PtD) (pt:PtA) (z:pZ9):Prop where
 ro:tl z.x z.p q (fa z.p q) z.T z.ins z.tb
 mf:qz z.F z.x z.p z.ins
 rf:nK (eU z.F2::HB) z.x2 z.p q z.ins
 pt:z.x.pt=pt
 ms:lT (dM z.p q z.ins) (fa z.p q) z.s
 st:RSt (dM z.p q z.ins) z.s z.pl z.e
 T:z.T≤1000000000000
 cn:z.p.curs.length≤100000000
def PzsOk (HB:dD) (q:PtD) (pt:PtA) (l:List pZ9):Prop:=l= []∨∃z,l= [z]∧PzOk HB q pt z
theorem pz_snoc (z:pZ9) {R:dD}:dH (Ma z.m (z.x,z.s)::eU z.F::Vr z.m2 (mR z.x2 z.pl z.e z.s.steps z.s.visits)::Row z.x2.cu eRc (z.x2.ls.zip z.s.cs)::eU z.F2::R) (Cl pzH [z]::R):=
 dH.trans (H':=Ma z.m (z.x,z.s)::eU z.F::Vr z.m2 (mR z.x2 z.pl z.e z.s.steps z.s.visits)::Row z.x2.cu eRc (z.x2.ls.zip z.s.cs)::eU z.F2::Cl pzH []::R) (dH.keep (dH.keep (dH.keep (dH.keep (dH.keep (ga dH.refl)))))) (o4 (f:=pzH) (l:= []) z)
theorem pz_open (z:pZ9) {R:dD}:dH (Cl pzH [z]::R) (Ma z.m (z.x,z.s)::eU z.F::Vr z.m2 (mR z.x2 z.pl z.e z.s.steps z.s.visits)::Row z.x2.cu eRc (z.x2.ls.zip z.s.cs)::eU z.F2::R):=
 (lY (f:=pzH) (l:= [z]) (i:=0) (x:=z) rfl).trans (dH.keep (dH.keep (dH.keep (dH.keep (dH.keep (dH.drop (dH.drop dH.refl)))))))
theorem pz_pair {p:PrG}{q:PtD}{T:Nat}{l:List nZ9}{b:List rZ9}(h1:NzOk p q T pt l) (h2:RzOk HB p q b) (hk:sj p q T) (hT:T≤1000000000000):∃zs:List pZ9,zs.map (·.m)=l.map (·.m)∧zs.map (·.m2)=b.map (·.m)∧PzsOk HB q pt zs∧∀R,dH (Cl (rzH p q) b::Cl (nzH p q) l::R) (Cl pzH zs::R):=by
 rcases h1 with⟨e,h1,rfl⟩|⟨z,h1,rfl,h3,h4,h5,h6⟩
 ·rcases h2 with⟨h,h2,rfl⟩|⟨a,ins,h2,rfl,c⟩
  ·exact⟨[],rfl,rfl,.inl rfl,λR=>dH.drop (dH.drop (ga dH.refl))⟩
  ·rw[h1]at h2;cases h2
 ·rcases h2 with⟨h,h2,rfl⟩|⟨a,ins,h2,rfl,c⟩
  ·rw[h1]at h2;cases h2
  ·rw[h1]at h2;obtain rfl:=Except.ok.inj h2;refine⟨[⟨p,T,z.ins,z.tb,z.m,z.x,z.F,a.m,a.x,a.F,mn (fa p q), -1,false⟩],rfl,rfl,.inr ⟨_,rfl,⟨h3,h5,c,h6,h4,.inl ⟨rfl,rfl⟩,hT,hk.cn⟩⟩,λR=>?_⟩;have g:dH (Cl (rzH p q) [a]::Cl (nzH p q) [z]::R) (Vr a.m (mR a.x (-1) false 0 0)::Row a.x.cu eRc (a.x.ls.zip (cu0 p q))::eU a.F::Cl (rzH p q) []::Cl (rzH p q) []::Cl (nzH p q) [z]::R):=lY (f:=rzH p q) (l:= [a]) (i:=0) (x:=a) rfl;have d:dH (Cl (nzH p q) [z]::R) (Ma z.m (z.x,mn (fa p q))::eU z.F::Cl (nzH p q) []::Cl (nzH p q) []::R):=lY (f:=nzH p q) (l:= [z]) (i:=0) (x:=z) rfl;refine g.trans (dH.trans (dH.keep (dH.keep (dH.keep (dH.drop (dH.drop d))))) (dH.trans ?_ (pz_snoc ⟨p,T,z.ins,z.tb,z.m,z.x,z.F,a.m,a.x,a.F,mn (fa p q), -1,false⟩)));exact(show dH (Vr a.m (mR a.x (-1) false 0 0)::Row a.x.cu eRc (a.x.ls.zip (cu0 p q))::eU a.F::Ma z.m (z.x,mn (fa p q))::eU z.F::Cl (nzH p q) []::Cl (nzH p q) []::R) (Ma z.m (z.x,mn (fa p q))::eU z.F::Vr a.m (mR a.x (-1) false 0 0)::Row a.x.cu eRc (a.x.ls.zip (cu0 p q))::eU a.F::R)from hsb)
def hitB (o:Option Hit):Value:=.tuple #[.agg [.int .i64 (o.getD (0,0)).1,.int .u64 (((o.getD (0,0)).2:Nat):Int)].toArray,.bool o.isSome]
section
variable {G:dJ}{H R:dD}{m m2 T:Nat}{x:MX}{x2:RX}{s:MS}{p:PrG}{q:PtD}{ins:List Ins}{tb:Hs}{pl:Int}{e:Bool}
theorem rCounts [hr:Rem H Ma m (x,s) R] [hmf:qz R x p ins] [h1:dQ R m2 (mR x2 pl e s.steps s.visits)] [h2:Sl R x2.cu eRc (x2.ls.zip s.cs)] [hf:nK R x2 p q ins] (b:tl x p q (fa p q) T ins tb) (a:lT (dM p q ins) (fa p q) s) (c:p.curs.length≤100000000):SC G prog 14 [pA m,pA m2] H (λv d=>v=.bool true∧d=Ma m (x,s)::R):=by
 obtain⟨h6,h7⟩:=tT b a;refine SC.less (dH.rem hr dH.refl) ?_;refine sWk func14 ?_;refine go ?_;refine d1_ rfl (C3 b a) (e_ mv (e_ exr (e_ exr (e_ exr (e_ asn (e_ asn (e_ asn (on_ (qn_ (ws_ (wr_ (e_ mv (e_ mv ?_)))))))))))));refine gk (k:=dV 5 25 (k:=λh1=>gk (k:=iU (vs:=[_]) (hc:=(OE (x:=x2) (p:=p) (q:=q) (ins:=ins) a.cs c)) (k:=gk (k:=edq)))) (q:=gk (k:=dV 7 33 (k:=λh2=>gk (k:=edq)) (q:=gR ?_))));exact⟨_,hsb,by simp[jt,rF],rfl⟩
theorem tNextB [hr:Rem H Ma m (x,s) R] [hg:Glb G R] [hpt:eN R x.pt q] [hmf:qz R x p ins] (d:ph) (e:jf) (a:tl x p q (fa p q) T ins tb) (b:lT (dM p q ins) (fa p q) s):SC G prog 15 [pA m] H (λv c=>v=hitB (fh (dM p q ins) s).1∧c=Ma m (x,(fh (dM p q ins) s).2)::R):=
 (RO d e a b).mono λv c h=>⟨by rw[h.1];cases(fh (dM p q ins) s).1 <;> rfl,h.2⟩
theorem rNextB {R1 R2:dD} [h1:Rem H Vr m2 (mR x2 pl e s.steps s.visits) R1] [h2:mh R1 x2.cu eRc (x2.ls.zip s.cs) R2] [hf:nK R2 x2 p q ins] (b:tl x p q (fa p q) T ins tb) (c:lT (dM p q ins) (fa p q) s) (a:RSt (dM p q ins) s pl e) (hT:T≤1000000000000):SC G prog 16 [pA m2] H (λv d=>v=hitB (fh (dM p q ins) s).1∧∃(pl':Int) (e':Bool),RSt (dM p q ins) (fh (dM p q ins) s).2 pl' e'∧d=Vr m2 (mR x2 pl' e' (fh (dM p q ins) s).2.steps (fh (dM p q ins) s).2.visits)::Row x2.cu eRc (x2.ls.zip (fh (dM p q ins) s).2.cs)::R2):=
 (SP (x:=x2) (s:=s) b c a SU hT).mono λv d h=>⟨by rcases h.1 with⟨z,h8,h9⟩|⟨h8,h9⟩ <;> rw[h8,h9] <;> rfl,h.2⟩
end
def bkZ (y:Bool) (a b:List pZ9):List pZ9×List pZ9:=if y=true then(b,a)else(a,b)
theorem bk_sub (y:Bool) {a b:List pZ9}{R:dD}:dH (Cl pzH a::Cl pzH b::R) (Cl pzH (bkZ y a b).1::Cl pzH (bkZ y a b).2::R):=by
 cases y
 ·exact dH.refl
 ·exact(show dH (Cl pzH a::Cl pzH b::R) (Cl pzH b::Cl pzH a::R)from hsb)
theorem ptr_none {a:List pZ9}{f:pZ9→Nat}:(((a.map f).head?.map λm=>(⟨m,0,none⟩:Addr)).isNone)=a.isEmpty:=by cases a <;> rfl
theorem ptr_some {a:List pZ9}{f:pZ9→Nat}:(((a.map f).head?.map λm=>(⟨m,0,none⟩:Addr)).isSome)= !a.isEmpty:=by cases a <;> rfl
theorem ptr_same {zs:List pZ9}{M N:List Nat}(h1:zs.map (·.m)=M) (h2:zs.map (·.m2)=N):(((M.head?.map λm=>(⟨m,0,none⟩:Addr)).isSome) !=((N.head?.map λm=>(⟨m,0,none⟩:Addr)).isSome))=false:=by rw[←h1,←h2,ptr_some,ptr_some];simp
theorem bk_ok {q:PtD}{y:Bool}{d la' a c b:List pZ9}(e:y=true→d=b∧a=c) (f:y=false→d=c∧a=b) (hm:la'.map (·.m)=d.map (·.m)) (hn:la'.map (·.m2)=d.map (·.m2)) (ha:PzsOk HB q pt la') (h1:PzsOk HB q pt c) (h2:PzsOk HB q pt b):(bkZ y la' a).1.map (·.m)=c.map (·.m)∧(bkZ y la' a).1.map (·.m2)=c.map (·.m2)∧(bkZ y la' a).2.map (·.m)=b.map (·.m)∧(bkZ y la' a).2.map (·.m2)=b.map (·.m2)∧PzsOk HB q pt (bkZ y la' a).1∧PzsOk HB q pt (bkZ y la' a).2:=by
 cases y
 ·obtain⟨rfl,rfl⟩:=f rfl;exact⟨hm,hn,rfl,rfl,ha,h2⟩
 ·obtain⟨rfl,rfl⟩:=e rfl;exact⟨rfl,rfl,hm,hn,h1,ha⟩
theorem lawSteps {G:dJ}{H:dD}{fv pv sc:SV}{kp:Int}{a a2:PrA}{p p2:PrG}{scr:List Bool}{fs:List FV}{lp:List (SV×SV)}{ps:List km} [hg:Glb G H] [Ja G] [hia:Isa H] [Tab H 27 oc] [Tab H 25 mA] [hf:Sl H fv eF fs] [hd:Sl H pv eP lp] [hp:il H a p] [hpc:pk H a p] [hp2:il H a2 p2] [hpc2:pk H a2 p2] [hsc:Sl H sc eBo scr] [Spc H] (hT:kh G) (hS:ot) (b1:ph) (b5:jf) (d0:rm H lp ps) (n:Ni p fs ps) (a3:Ni p2 fs ps) (hsl:scr.length≤1000000000000):
 SC G prog 4 [.agg #[fv.val,pv.val,.int .i64 kp,a.av.val,a.cu.val,a.ne.val,.bool p.all,a.dr.val,a.co.val],.agg (prV a2 p2.all).toArray,sc.val] H (λv H'=>v=.bool true∧H'=H):=by
 refine sWk func4 ?_;refine gk (k:=bxx (k:=λb3=>?_));refine bxx (k:=λb4=>?_);refine go ?_;refine d0_ rfl (RS hT hS b1 b5) (gW (λh1=>?_) (λh1=>?_))
 ·exact absurd h1 aq
 refine go ?_;refine c1_ rfl (NX hT hS (d0.less hsb) n.pl n.sm n.fl n.fn) ?_;rintro _ _ (⟨rfl,rfl⟩|⟨d,dv,xv,pt,g,F,b0,U,S,c9,⟨⟨l,hdl,d5⟩,hxl⟩,rfl,rfl⟩)
 ·refine gk (k:=alc (k:=λb8=>?_));refine gW (λh2=>?_) λh2=>?_
  ·exact gZ
  exact absurd h2 aq
 obtain⟨T0,d4⟩:=n.pq d U g b0 S;obtain⟨T,hk,hTs⟩:=d4.small;obtain⟨T02,a0⟩:=a3.pq d U g b0 S;obtain⟨T2,hk2,hTs2⟩:=a0.small;haveI hpt':∀H9,eN (eU F::H9) pt ⟨fs,d.1,g⟩:=λH9=>c9.less n4;have Z:=n.sm d U;have a1:=hk.seg.few;have J:∀z∈d.1,z.2.length≤1000000:=λz f=>by have:=(np (hk.seg.vals z f)).1;omega
 have R:=(jx hk.seg.chk).1.2;simp only at a1 R;refine gk (k:=alc (k:=λb8=>?_));refine gW (λh3=>?_) λh3=>?_
 ·exact absurd h3 aq
 refine go ?_;refine c2_ rfl (JO (fs:=fs) (ds:=d.1) (dead:=d.2) (d5.less hsb) a8 a8 J Z.x) ?_;rintro _ _ ⟨s1,s2,s3,zs,D,hzs,d6,d7,rfl,rfl⟩;refine alc (k:=λb10=>?_);refine sto (k:=on_ (qn_ (ws_ (wr_ ?_))));obtain⟨HB,b⟩:∃HB:dD,HB=Row s1 eF fs::Row s2 eD (zs.map dgV)::Cl dgH zs::Row s3 eBo D::eU F::H:=⟨_,rfl⟩;haveI e1:il HB a p:=by rw[b];infer_instance
 haveI e0:pk HB a p:=by rw[b];infer_instance
 haveI d9:il HB a2 p2:=by rw[b];infer_instance
 haveI d8:pk HB a2 p2:=by rw[b];infer_instance
 haveI c0:Sl HB s1 eF fs:=by rw[b];infer_instance
 haveI b9:Sl HB s2 eD (zs.map dgV):=by rw[b];infer_instance
 haveI b7:Sl HB s3 eBo D:=by rw[b];infer_instance
 have b6:gK HB (zs.map dgV) d.1:=by rw[b,←hzs];exact yr (zs:=zs) inferInstance
 haveI hB9:Glb G HB:=by rw[b];infer_instance
 haveI hB10:eN HB pt ⟨fs,d.1,g⟩:=by rw[b];infer_instance
 haveI hB11:Sl HB sc eBo scr:=by rw[b];infer_instance
 have b2:=vy S d6 d7;refine go ?_;refine c2_ rfl (tNewU (a:=a) (p:=p) (pt:=pt) hk) ?_;rintro _ _ ⟨l1,d3,rfl,rfl⟩;refine go ?_;refine c2_ rfl (rNewU (HB:=HB) (a:=a) (p:=p) (q:=⟨fs,d.1,g⟩) (fv:=s1) (dv:=s2) (de:=s3) (by rw[b];exact hsb) e1 e0 c0 b9 b7 b6 b2 hk) ?_;rintro _ _ ⟨r1,c8,rfl,rfl⟩;obtain⟨X,a7,a5,c3,c6⟩:=pz_pair d3 c8 hk a8;refine go ?_;refine d1_ rfl (AQ newO_few) (gk (k:=ep 6 66 (k:=λh4=>gk (k:=eg_ (Mn rfl) (gk (k:=eg_ (Mn rfl) (eg_ (evq (vZ rfl rfl) (congrArg Value.bool (ptr_same a7 a5))) (gk (k:=edq))))))) (q:=gW (λh5=>?_) (λh5=>?_))))
 ·exact absurd h5 aq
 refine wk_ (qn_ (ws_ (wr_ ?_)));refine eu (dH.trans (H':=Cl (rzH p ⟨fs,d.1,g⟩) r1::Cl (nzH p ⟨fs,d.1,g⟩) l1::_) hsb (c6 _)) ?_;refine go ?_;refine c2_ rfl (tNewU (a:=a2) (p:=p2) (pt:=pt) hk2) ?_;rintro _ _ ⟨l2,d2,rfl,rfl⟩;refine go ?_;refine c2_ rfl (rNewU (HB:=HB) (a:=a2) (p:=p2) (q:=⟨fs,d.1,g⟩) (fv:=s1) (dv:=s2) (de:=s3) (by rw[b];exact hsb) d9 d8 c0 b9 b7 b6 b2 hk2) ?_;rintro _ _ ⟨r2,c7,rfl,rfl⟩;obtain⟨zs2,a6,a4,c2,c5⟩:=pz_pair d2 c7 hk2 a8;refine go ?_;refine d1_ rfl (AQ newO_few) (gk (k:=ep 6 89 (k:=λh6=>gk (k:=eg_ (Mn rfl) (gk (k:=eg_ (Mn rfl) (eg_ (evq (vZ rfl rfl) (congrArg Value.bool (ptr_same a6 a4))) (gk (k:=edq))))))) (q:=gW (λh7=>?_) (λh7=>?_))))
 ·exact absurd h7 aq
 refine wk_ (qn_ (ws_ (ws_ (wr_ ?_))));refine eu (dH.trans (H':=Cl (rzH p2 ⟨fs,d.1,g⟩) r2::Cl (nzH p2 ⟨fs,d.1,g⟩) l2::Cl pzH X::HB) (by rw[b];exact hsb) (c5 _)) ?_;refine gk (k:=e8 (Nat×(List pZ9)×(List pZ9)) (λy=>y.1≤scr.length∧y.2.1.map (·.m)=l1.map (·.m)∧y.2.1.map (·.m2)=r1.map (·.m)∧y.2.2.map (·.m)=l2.map (·.m)∧y.2.2.map (·.m2)=r2.map (·.m)∧PzsOk HB ⟨fs,d.1,g⟩ pt y.2.1∧PzsOk HB ⟨fs,d.1,g⟩ pt y.2.2) (λy=>[(92,iN y.1)]) [(11,_),(13,_),(15,_),(16,_),(90,_),(91,_)] (λy=>[Cl pzH y.2.1,Cl pzH y.2.2]) _ (λy=>scr.length-y.1) ((0,X,zs2)) (h0:=?_) (k:=?_))
 ·exact⟨Yl _,a7,a5,a6,a4,c3,c2⟩
 rintro⟨i,q1,q2⟩ ⟨hi,w,t,u,r,N,M⟩
 try dsimp only[Yd,Ye]at*
 refine gW (λh8=>?_) λh8=>?_
 ·obtain⟨yb,c4⟩:∃yb,scr[i]? =some yb:=⟨_,Yi (by have h9:=h8;omega)⟩;refine wk_ (qn_ (ws_ (wb_ (ws_ (wr_ (e_ ixa (e_ (lel (hy:=c4)) (e_ asn (on_ (qn_ (ws_ (wr_ ?_))))))))))));refine e_ (evq mv (congrArg ptrL w.symm)) ?_;refine e_ (evq mv (congrArg ptrL t.symm)) ?_;refine e_ asn (e_ asn (on_ (qn_ (ru ((List pZ9)×(List pZ9)) (λy=>(yb=true→y.1=q2∧y.2=q1)∧(yb=false→y.1=q1∧y.2=q2)) (λy=>[(19,ptrL (y.1.map (·.m))),(20,ptrL (y.1.map (·.m2)))]) [19,20,98,99,100] (λy=>[Cl pzH y.1,Cl pzH y.2]) HB ?_ ?_))))
  ·refine gW (λh9=>?_) λh9=>?_
   ·have B:yb=true:=h9;refine wr_ ?_;refine e_ (evq mv (congrArg ptrL u.symm)) ?_;refine e_ (evq mv (congrArg ptrL r.symm)) ?_;refine gk (k:=jnE ((q2,q1)) (q:=?_));exact⟨λ_=>⟨rfl,rfl⟩,λh8=>(by rw[B]at h8;cases h8)⟩
   have B:yb=false:=by have h9:=h9;simpa using h9
   refine gk (k:=jnE ((q1,q2)) (q:=?_));exact⟨λh8=>(by rw[B]at h8;cases h8),λ_=>⟨rfl,rfl⟩⟩
  rintro⟨la,A⟩ ⟨C,E⟩
  try dsimp only[Yd,Ye]at*
  have a9:PzsOk HB ⟨fs,d.1,g⟩ pt la:=by
   cases yb
   ·rw[(E rfl).1];exact N
   ·rw[(C rfl).1];exact M
  refine ws_ (ws_ (wr_ (e_ mv ?_)));refine e_ (evq (gu rfl) (congrArg Value.bool ptr_none)) ?_;refine e_ mv (ep 3 106 (k:=λh10=>eg_ mv (eg_ (evq (gu rfl) (congrArg Value.bool ptr_none)) (gk (k:=edq)))) (q:=gW (λh11=>?_) (λh11=>?_)))
  ·have hbk:=bk_ok C E rfl rfl a9 N M;refine we_ (qe_ (bh_ (qn_ (wr_ ?_))));refine eu (bk_sub yb) ?_;refine go ?_;refine lN ((i+1,(bkZ yb la A).1,(bkZ yb la A).2)) ?_
   exact⟨a8,hbk.1.trans w,hbk.2.1.trans t,hbk.2.2.1.trans u,hbk.2.2.2.1.trans r,hbk.2.2.2.2.1,hbk.2.2.2.2.2⟩
  obtain⟨z,d1,f⟩:∃z,la= [z]∧PzOk HB ⟨fs,d.1,g⟩ pt z:=by
   rcases a9 with h8|h8
   ·have h9:=h11;rw[h8]at h9;simp at h9
   ·exact h8
  subst d1;haveI hzmf:=f.mf;haveI hzpt:eN HB z.x.pt ⟨fs,d.1,g⟩:=by rw[f.pt];infer_instance
  haveI hrf9:nK (eU z.F2::Cl pzH A::HB) z.x2 z.p ⟨fs,d.1,g⟩ z.ins:=f.rf.less hsb;obtain⟨L,_⟩:=CN f.ro.dr f.ro.few f.ms;obtain⟨c,K⟩:=ex (fh (dM z.p ⟨fs,d.1,g⟩ z.ins) z.s);rw[←K]at L;refine wk_ (qn_ (ws_ (ws_ (wr_ ?_))));refine eu (pz_open z) ?_;refine go ?_;refine d2_ rfl (rCounts (m:=z.m) (m2:=z.m2) (x:=z.x) (x2:=z.x2) (s:=z.s) f.ro f.ms f.cn) (gW (λh12=>?_) (λh12=>?_))
  ·exact absurd h12 aq
  refine go ?_;refine d1_ rfl ((tNextB (m:=z.m) (x:=z.x) (s:=z.s) b1 b5 f.ro f.ms).mono (K':=λv H'=>v=hitB c.1∧H'=Ma z.m (z.x,c.2)::_) (λv H' h=>by rw[K];exact h)) (gk (k:=alc (k:=λe4=>?_)));refine go ?_;refine c1_ rfl ((rNextB (m2:=z.m2) (x2:=z.x2) (s:=z.s) f.ro f.ms f.st f.T).mono (K':=λv H'=>v=hitB c.1∧∃(pl':Int) (e':Bool),RSt (dM z.p ⟨fs,d.1,g⟩ z.ins) c.2 pl' e'∧H'=Vr z.m2 (mR z.x2 pl' e' c.2.steps c.2.visits)::Row z.x2.cu eRc (z.x2.ls.zip c.2.cs)::_) (λv H' h=>by rw[K];exact h)) ?_;rintro _ _ ⟨rfl,j,V,Y,rfl⟩;have hbk:=bk_ok (la':= [{z with s:=c.2,pl:=j,e:=V}]) C E rfl rfl (.inr ⟨_,rfl,⟨f.ro,f.mf,f.rf,f.pt,L,Y,f.T,f.cn⟩⟩) N M;refine gk (k:=alc (k:=λe3=>?_));refine sto (k:=e_ asn (on_ (qn_ (ws_ (wr_ ?_)))));refine eu (H':=Ma z.m (z.x,c.2)::eU z.F::Vr z.m2 (mR z.x2 j V c.2.steps c.2.visits)::Row z.x2.cu eRc (z.x2.ls.zip c.2.cs)::Vr e4 [.int .i64 (c.1.getD (0,0)).1,uN ((c.1.getD (0,0)).2)]::Vr e3 [.int .i64 (c.1.getD (0,0)).1,uN ((c.1.getD (0,0)).2)]::eU z.F2::Cl pzH A::HB) hsb ?_;refine e_ lds (e_ lds ?_);refine e_ (Fp (c.1.getD (0,0)) (c.1.getD (0,0)) rfl rfl) ?_;refine e_ mv (ep 4 128 (k:=λh13=>eg_ mv (eg_ mv (eg_ (evq (vZ rfl rfl) (congrArg Value.bool (show(c.1.isSome !=c.1.isSome)=false from aq))) (gk (k:=edq))))) (q:=gk (k:=ep 5 134 (k:=λh14=>gk (k:=iU (vs:=[_,_]) (hc:=(rCounts (m:=z.m) (m2:=z.m2) (x:=z.x) (x2:=z.x2) (s:=c.2) f.ro L f.cn)) (k:=gk (k:=edq)))) (q:=gW (λc1=>?_) (λc1=>?_)))))
  ·exact absurd c1 aq
  refine wk_ (bn_ (qn_ (wr_ ?_)));refine eu (dH.trans (H':=Ma z.m (z.x,c.2)::eU z.F::Vr z.m2 (mR z.x2 j V c.2.steps c.2.visits)::Row z.x2.cu eRc (z.x2.ls.zip c.2.cs)::eU z.F2::Cl pzH A::HB) hsb ((pz_snoc {z with s:=c.2,pl:=j,e:=V}).trans (bk_sub yb))) ?_;refine go ?_;refine lN ((i+1,(bkZ yb [{z with s:=c.2,pl:=j,e:=V}] A).1,(bkZ yb [{z with s:=c.2,pl:=j,e:=V}] A).2)) ?_
  exact⟨a8,hbk.1.trans w,hbk.2.1.trans t,hbk.2.2.1.trans u,hbk.2.2.2.1.trans r,hbk.2.2.2.2.1,hbk.2.2.2.2.2⟩
 refine gR ?_;exact⟨_,by rw[b];exact hsb,rfl,rfl⟩
end
end Go.Sx
