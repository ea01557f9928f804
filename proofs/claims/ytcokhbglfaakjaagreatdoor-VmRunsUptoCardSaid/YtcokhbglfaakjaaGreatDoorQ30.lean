import Derived.Test.YtcokhbglfaakjaaGreatDoorQ28
import Derived.Test.YtcokhbglfaakjaaGreatDoorQ29
set_option linter.all false
set_option maxHeartbeats 0
namespace Go.Sx
open Go Go.Proofs Tryz
set_option maxRecDepth 100000
section
variable {p:PrG}{q:PtD}
set_option synthInstance.maxHeartbeats 400000
set_option synthInstance.maxSize 4000
theorem WI {H R:dD}{zs:List RG}(hr:nR H (Cl rgH zs) R):∀z∈zs,gV H z.e.s (z.e.l.map pgP):=λz a=>by
 obtain⟨i,hi⟩:=Vo a;exact⟨_,WG hr hi,WH hr hi⟩
theorem Hz {a:List SV}{cs:List CuS}{s:SV}{c:CuS}{i:Nat}(hc:cs[i]? =some c) (hl:a.length=i):a.zip (cs.take i)++ [(s,c)]=(a++ [s]).zip (cs.take (i+1)):=by
 have:=(Yk.1 hc).1;rw[dK hc,List.zip_append az];all_goals rfl
theorem ON {i b:Nat}{a:ByteArray}(h:p.curs[i]? =some (((b:Nat):Int),a)):(fa p q)[i]? =some (nC q.fs q.ds b a):=by
 rw[fa,Xd,h];all_goals rfl
instance {a b:SV}:gP ePa (.agg [a.val,b.val,.slice none 0 0].toArray) (a,b,SV.nil):=⟨rfl⟩
instance {s:SV}{ps:List Po}:gP eRc (.agg (rcV s ⟨ps,0,0,false⟩).toArray) (s,⟨ps,0,0,false⟩):=⟨rfl⟩
theorem WS {G:dJ}{H w:dD}{a:PrA}{T:Nat}{fv dv de:SV}{l:List (Int×SV)}{D:List Bool}(hB:dH H w) (a9:il w a p) (a2:pk w a p) (b1:Sl w fv eF q.fs) (b4:Sl w dv eD l) (N:Sl w de eBo D) (M:gK w l q.ds) (hD:D.length=q.ds.length∧∀i,i<q.ds.length→D[i]? =some (l8 q.dw i)) (hk:sj p q T):SC G prog 13 [.agg (prV a p.all).toArray,.agg #[fv.val,dv.val,de.val]] H (λv H'=>
 (∃e:Nat,kP p q=.error e∧(e=20∨e=9)∧v=.tuple #[.pointer none,.int .i64 (xJ e)]∧H'=H)∨
 (∃(ins:List Ins) (m:Nat) (x:RX) (F:dD),kP p q=.ok ins∧nK (eU F::w) x p q ins∧v=.tuple #[pA m,.int .i64 0]∧H'=Vr m (mR x (-1) false 0 0)::Row x.cu eRc (x.ls.zip (cu0 p q))::eU F::H)):=by
 haveI hp:=a9.less hB;haveI hpc:pk H a p:=⟨ee hB a2.co⟩;haveI hf:=ee hB b1;haveI hd:=ee hB b4;haveI hde:=ee hB N;have a5:=M.less hB;have Z:=hk.sm;have hcn:=hk.cn;have a7:=hk.seg.size;have hfew:=hk.seg.few;have hll:=a5.1;have Y:∀d∈q.ds,d.2.length≤64∧∀v∈d.2,v.2.size≤4096:=λd hd=>by
  obtain⟨g1,g2⟩:=np (hk.seg.vals d hd);exact⟨g1,λv hv=>(g2 v hv).1⟩
 have a3:q.fs.length≤16:=(jx hk.seg.chk).1.2;refine sWk func13 ?_;refine gk (k:=bxx (k:=λb2=>?_));refine bxx (k:=λb3=>?_);refine go ?_;refine c1_ rfl (KC (a:=a) (p:=p) Z) ?_;rintro _ _ ⟨(⟨hno,rfl⟩|⟨tb,n8,m8,X,rfl⟩),rfl⟩
 ·have hN:kP p q=.error 20:=by rw[kP,hno]
  refine gk (k:=alc (k:=λb6=>?_));refine gk (k:=ift (k:=go ?_));refine gR ?_;exact⟨_,hsb,.inl ⟨20,hN,.inl rfl,rfl,rfl⟩⟩
 obtain⟨K,b0⟩:=vz X;have g:=b0.dec;refine gk (k:=alc (k:=λb6=>?_));refine gk (k:=fM (k:=go ?_));refine gW (λh1=>?_) λh1=>?_
 ·have hN:kP p q=.error 9:=by rw[kP,X];simp only;rw[if_neg ao]
  refine gR ?_;exact⟨_,hsb,.inl ⟨9,hN,.inr rfl,rfl,rfl⟩⟩
 have hN:kP p q=.ok K:=by rw[kP,X,g];simp only;rw[if_pos ao]
 obtain⟨t1,t2,t3,t4,t5⟩:=rz b0.tab;have hfa:q.fs.length=p.avgs.length:=ao;refine wk_ (qn_ (ws_ (wr_ (e_ lds (e_ fla (e_ ldv (e_ fla (e_ ldv (e_ (bld [(0,_),(2,_),(3,_),(6,_)]) (bxx (k:=λh=>?_)))))))))));refine go ?_;refine c1_ rfl (zi (xs:=p.code) Z.k Z.cb) ?_;rintro _ _ (⟨d1,rfl,rfl⟩|⟨r,b,d2,rfl,rfl⟩)
 ·rw[lu,d1]at g;cases g
 obtain rfl:b=K:=by rw[lu,d2]at g;exact Xk g
 refine e_ mv (e_ exr (e_ exr (e_ nck (e_ fla (sto (k:=on_ (qn_ (ws_ (wr_ (e_ fla (e_ lds (e_ fla (e_ ldv ?_)))))))))))));refine e_ (bld [(0,_),(1,_)]) (fS ePa (k:=λb8=>?_));refine c1_ rfl (SB (fv:=fv) (dv:=dv) (fs:=q.fs) (l:=l) (ds:=q.ds) (a5.less hsb) a3 a8 (λd hd=>⟨by have:=(Y d hd).1;omega,λv hv=>by have:=(Y d hd).2 v hv;omega⟩) a7) ?_;rintro _ _ ⟨A,zs,out,rfl,C,c2,S,rfl⟩;have hol:=C.length_eq;have hs4:=pF q.fs q.ds 0;have hs42:q.fs.length*dsz q.ds≤16*30000000:=Uv a3 a7;have b9:=(Cp S).1;rw[Yh]at b9;refine e_ asn (on_ (qn_ (ws_ (ws_ (wr_ ?_)))));refine eu (dH.nilRow (e:=eRc) dH.refl) ?_;refine gk (k:=e8 (Nat×SV×(List SV)) (λy=>y.1≤p.curs.length∧y.2.2.length=y.1∧∀k s,y.2.2[k]? =some s→gV (Row A eRw (zs.map rwV)::Cl rgH zs::w) s ((fa p q).getD k [])) (λy=>[(58,iN y.1)]) [(3,_),(8,_),(9,_),(56,_),(57,_)] (λy=>[Vr h (mR ⟨a,p.all,r,dv,de,SV.nil,y.2.1,y.2.2,l,D, []⟩ (-1) false 0 0),Row y.2.1 eRc (y.2.2.zip ((cu0 p q).take y.1))]) _ (λy=>p.curs.length-y.1) ((0,SV.nil, [])) (h0:=?_) (k:=?_))
 ·try dsimp only
  exact⟨Yl _,rfl,λk s h8=>by simp at h8⟩
 rintro⟨i,u,t⟩ ⟨hi,J,hpo⟩
 try dsimp only[Yd,Ye]at*
 refine gW (λh2=>?_) λh2=>?_
 ·obtain⟨⟨b5,ky⟩,hfk⟩:∃z,p.curs[i]? =some z:=⟨_,Yi aw⟩;obtain⟨d0,c9,c8⟩:=t3 _ (Yj hfk);simp only at d0 c9 c8;obtain⟨fd,rfl⟩:∃n:Nat,b5=(n:Int):=⟨b5.toNat,a8⟩;have d3:=Hi (q:=q) hfk;have c3:=ON (q:=q) hfk;have hbl:(t.zip ((cu0 p q).take i)).length≤100000000:=dx;refine wk_ (qn_ (ws_ (wb_ (ws_ (wr_ (e_ ixa (e_ (gr (hy:=hfk)) (alc (k:=λd5=>?_)))))))));refine go ?_;refine wD [7,8,9,10,13] (λk H=>(k=4→dQ H h (mR ⟨a,p.all,r,dv,de,SV.nil,u,t,l,D, []⟩ (-1) false 0 0))∧(k=6→dQ H d5 [iN fd,.string ky])) (aF 0 (k:=aF 1 (k:=aF 2 (k:=aF 3 (k:=?_)))));refine aN 4 rfl (λH hH=>ah) ?_;refine aF 5 (k:=?_);refine go ?_;refine aS 7 rfl (lU (vs:= [_,_]) rfl (Ia (R:=Row A eRw (zs.map rwV)::Cl rgH zs::w) (fs:=q.fs) (ds:=q.ds) (dH.trans (H':=Row A eRw (zs.map rwV)::Cl rgH zs::H) hsb (dH.keep (dH.keep hB))) inferInstance (WI inferInstance) a3 a8 C c2 S a8)) ?_;rintro _ _ ⟨⟨V,rfl,a1⟩,rfl⟩;refine aS 8 rfl (v1_ (SO (s:=V) (ps:=nC q.fs q.ds fd ky))) ?_;rintro _ _ ⟨rfl,rfl⟩;refine aS 9 rfl (fK eRc rfl rfl) ?_;rintro _ _ ⟨s71,rfl,rfl⟩;refine aS 10 rfl (gf rfl rfl rfl rfl ab ab) ?_;rintro _ _ ⟨b7,rfl,rfl⟩;refine go ?_;refine aS 13 rfl (ej rfl rfl rfl) ?_;rintro _ _ ⟨rfl,rfl⟩;refine aZ (bn_ (qn_ (wr_ ?_)));rw[Hz d3 J];refine go ?_;refine lN ((i+1,b7,t++ [V])) ?_
  try dsimp only
  exact⟨a8,by rw[Ya,J];all_goals rfl,λk s h8=>by
   rcases Us k t.length with h7|h7
   ·rw[Yv h7]at h8;exact hpo k s h8
   ·rw[Yu h7]at h8;have h6:k=i:=by have h5:=(Yk.1 h8).1;simp at h5;omega
    subst h6;rw[J,Ui]at h8;obtain rfl:V=s:=Xk h8;rw[Xj,c3];exact a1⟩
 obtain rfl:i=p.curs.length:=aw;have ht:(cu0 p q).take p.curs.length=cu0 p q:=Xr (by rw[cu0,fa,Yh,Yh];exact Xl _);refine we_ (qe_ (le_ (bh_ (qn_ (ws_ (ws_ (wr_ ?_)))))));refine eu (dH.nilRow (e:=eSV) (ga (f:=lnH) dH.refl)) ?_;refine gk (k:=e8 (Nat×SV×(List (SV×List Nat))) (λy=>y.1≤q.fs.length∧y.2.2.map (·.2)=(List.range y.1).map (eL q.fs q.ds)) (λy=>[(80,iN y.1)]) [(3,_),(8,_),(79,_)] (λy=>[Vr h (mR ⟨a,p.all,r,dv,de,y.2.1,u,t,l,D,y.2.2.map (·.1)⟩ (-1) false 0 0),Row y.2.1 eSV (y.2.2.map (·.1)),Cl lnH y.2.2]) _ (λy=>q.fs.length-y.1) ((0,SV.nil, [])) (h0:=?_) (k:=?_))
 ·exact⟨Yl _,rfl⟩
 rintro⟨i2,E,c⟩ ⟨hi2,hzz⟩
 try dsimp only[Yd,Ye]at*
 refine gW (λh3=>?_) λh3=>?_
 ·obtain⟨L,hL⟩:=ex (eL q.fs q.ds i2);have hLl:L.length=q.ds.length:=by rw[hL,eL,Yh]
  have hzzl:(c.map (·.1)).length=i2:=by have h8:=congrArg List.length hzz;simpa using h8
  refine go ?_;refine s_ (fk eI rfl) ?_;rintro _ _ ⟨U,rfl,rfl⟩;refine e_ asn (on_ (qn_ (ws_ (ws_ (wr_ ?_)))));rw[show Row U eI ([]:List Int)=Row U eI (dT (L.take 0))from rfl];refine gk (k:=e8 (Nat×SV) (λy=>y.1≤l.length) (λy=>[(13,y.2.val),(87,iN y.1)]) [(3,_),(8,_),(12,_),(79,_),(80,_),(85,_),(86,_)] (λy=>[Row y.2 eI (dT (L.take y.1))]) _ (λy=>l.length-y.1) ((0,U)) (h0:=?_) (k:=?_))
  ·exact Yl _
  rintro⟨j,sv⟩ hj
  try dsimp only[Yd,Ye]at*
  refine gW (λh4=>?_) λh4=>?_
  ·obtain⟨d9,s9d,vs,c4,a4,hsvd⟩:=a5.get (i:=j) aJ;obtain⟨c1,a6⟩:=Y _ (Yj a4);have c0:=rP (Yj a4);simp only at c1 a6 c0;have d4:L[j]? =some (eZ q.fs i2 vs).length:=by rw[hL,eL,Xd,a4];all_goals rfl
   have hLt:(dT (L.take j)).length=j:=by rw[eJ,Yg];omega
   refine wk_ (qn_ (ws_ (wb_ (ws_ (wr_ (e_ ixa (e_ (gr (hy:=c4)) (alc (k:=λb15=>?_)))))))));refine go ?_;refine c3_ rfl (KB a8 a8 a8 (λv hv=>by have:=a6 v hv;omega) a8) ?_;rintro _ _ ⟨s97,rfl,rfl⟩;refine gk (k:=fS eI (k:=λs99=>?_));refine app (k:=λa0=>?_);rw[show dT (L.take j)++ [(((eZ q.fs i2 vs).length:Nat):Int)]=dT (L.take (j+1))from by rw[dK d4];simp[dT]];refine go ?_;refine lN ((j+1,a0)) ?_
   try dsimp only
   omega
  obtain rfl:j=l.length:=aJ;rw[show L.take l.length=L from Xr a8];refine gk (k:=fS eSV (k:=λs108=>?_));refine app (k:=λB=>?_);refine e_ nck (e_ fla (sto (k:=on_ (bn_ (qn_ (wr_ ?_))))));refine eu (dH.trans (H':=Row sv eI (dT L)::Cl lnH c::Row B eSV ((c++ [(sv,L)]).map (·.1))::Vr h (mR ⟨a,p.all,r,dv,de,B,u,t,l,D,(c++ [(sv,L)]).map (·.1)⟩ (-1) false 0 0)::Row u eRc (t.zip ((cu0 p q).take p.curs.length))::Row A eRw (zs.map rwV)::Cl rgH zs::Row b8 ePa [(fv,dv,SV.nil)]::Row r l7 b::Vr b6 [.int .i64 n8,.int .i64 m8]::Vr b3 [fv.val,dv.val,de.val]::Vr b2 (prV a p.all)::H) (by rw[Xp];exact hsb) (AS (sv,L))) ?_;refine go ?_;refine lN ((i2+1,B,c++ [(sv,L)])) ?_
  try dsimp only
  exact⟨a8,by rw[Xp,hzz,X9,Xp,hL];all_goals rfl⟩
 obtain rfl:i2=q.fs.length:=aD;refine gR ?_;obtain⟨c6,c5⟩:=GJ (zs:=c) (H:= [Row A eRw (zs.map rwV),Cl rgH zs,Row r l7 b,Row E eSV (c.map (·.1)),Cl lnH c]) inferInstance hzz;refine⟨Vr h (mR ⟨a,p.all,r,dv,de,E,u,t,l,D,c.map (·.1)⟩ (-1) false 0 0)::Row u eRc (t.zip (cu0 p q))::eU [Row A eRw (zs.map rwV),Cl rgH zs,Row r l7 b,Row E eSV (c.map (·.1)),Cl lnH c]::H,?_,.inr ⟨b,h,⟨a,p.all,r,dv,de,E,u,t,l,D,c.map (·.1)⟩, [Row A eRw (zs.map rwV),Cl rgH zs,Row r l7 b,Row E eSV (c.map (·.1)),Cl lnH c],hN,?_,rfl,rfl⟩⟩
 ·exact dH.trans (H':=Vr h (mR ⟨a,p.all,r,dv,de,E,u,t,l,D,c.map (·.1)⟩ (-1) false 0 0)::Row u eRc (t.zip (cu0 p q))::Row A eRw (zs.map rwV)::Cl rgH zs::Row r l7 b::Row E eSV (c.map (·.1))::Cl lnH c::H) (by rw[ht];exact hsb) (dH.keep (dH.keep (dH.star (F:= [Row A eRw (zs.map rwV),Cl rgH zs,Row r l7 b,Row E eSV (c.map (·.1)),Cl lnH c]) dH.refl)))
 ·haveI:=a9;haveI:=b1;haveI:=b4;haveI:=N;exact⟨inferInstance,inferInstance,inferInstance,M.less (dH.drop dH.refl),inferInstance,hD,inferInstance,⟨c6,λi s hi=>ee n4 (c5 i s hi)⟩,⟨J,λk s c7=>(hpo k s c7).less (dH.unstar.trans (show dH (Row A eRw (zs.map rwV)::Cl rgH zs::Row r l7 b::Row E eSV (c.map (·.1))::Cl lnH c::w) (Row A eRw (zs.map rwV)::Cl rgH zs::w)from hsb))⟩,rfl⟩
end
section
variable {T:Nat}{p:PrG}{q:PtD}
theorem MW {l:List Po}{d p:Nat}:∀z∈fI l d p,z.1=d∨∃y∈l,y.1=z.1:=λz hz=>by
 unfold fI at hz
 split at hz
 ·split at hz
  ·rcases Xm.1 hz with hz|hz
   ·exact .inr ⟨z,(List.dropLast_sublist l).subset hz,rfl⟩
   ·rw[Vb.1 hz];exact .inl rfl
  ·rcases Xm.1 hz with hz|hz
   ·exact .inr ⟨z,hz,rfl⟩
   ·rw[Vb.1 hz];exact .inl rfl
 ·rw[Vb.1 hz];exact .inl rfl
theorem zH:∀(ts:List (Nat×Nat)) (l:List Po),∀z∈ts.foldl (λl t=>fI l t.1 t.2) l,(∃y∈l,y.1=z.1)∨∃t∈ts,t.1=z.1
 | [],l,z,hz=>.inl ⟨z,hz,rfl⟩
 |t::ts,l,z,hz=>by
  rcases zH ts _ z hz with⟨y,hy,e⟩|⟨u,b,e⟩
  ·rcases MW y hy with h8|⟨w,a,h8⟩
   ·exact .inr ⟨t,Yz,by rw[←e,h8]⟩
   ·exact .inl ⟨w,a,by rw[h8,e]⟩
  ·exact .inr ⟨u,Xa _ b,e⟩
theorem SU:∀b∈fa p q,∀z∈b,z.1<q.ds.length:=λb a z g=>by
 obtain⟨c,_,rfl⟩:=Xt.1 a;rcases zH _ _ z g with⟨y,hy,_⟩|⟨t,i,e⟩
 ·cases hy
 ·obtain⟨u,h,rfl⟩:=Xt.1 i;obtain⟨f,j,d,u2,_,hj,_,rfl⟩:=xu (List.mem_filter.1 h).1;rw[←e];exact(Yk.1 hj).1
theorem Wx {ins:List Ins}(hk:sj p q T) (hn:kP p q=.ok ins):∃(x0:MX) (a:Hs),tl x0 p q (fa p q) T ins a∧lT (dM p q ins) (fa p q) (mn (fa p q)):=by
 obtain⟨⟨a,h1⟩,h2⟩:=QQ (x:=⟨⟨SV.nil,SV.nil,SV.nil,SV.nil,SV.nil, []⟩,p.all,SV.nil,⟨0,0,0,0,SV.nil,SV.nil,SV.nil,SV.nil,SV.nil,SV.nil,SV.nil,0, [], []⟩,SV.nil,List.replicate p.curs.length 0⟩) hk hn rfl aq;exact⟨_,a,h1,h2⟩
theorem WN {G:dJ}{H:dD}{a:PrA}{fu:Int}{fv dv de:SV}{l:List (Int×SV)}{D:List Bool} [hp:il H a p] [hpc:pk H a p] [hf:Sl H fv eF q.fs] [hd:Sl H dv eD l] [hde:Sl H de eBo D] (Z:gK H l q.ds) (hD:D.length=q.ds.length∧∀i,i<q.ds.length→D[i]? =some (l8 q.dw i)) (hk:sj p q T) (hT:T≤1000000000000):SC G prog 8 [.agg (prV a p.all).toArray,.agg #[fv.val,dv.val,de.val],.int .i64 fu] H (λv H'=>
 (∃e:Nat,kP p q=.error e∧(e=20∨e=9)∧v=.tuple #[Oo,.int .i64 (xJ e)]∧H'=H)∨
 (∃ins:List Ins,kP p q=.ok ins∧((fu.toNat<(jg p q ins).2.steps∧v=.tuple #[Oo,.int .i64 22]∧H'=H)∨((jg p q ins).2.steps≤fu.toNat∧∃E:SV,v=.tuple #[Wy E (jg p q ins).2,.int .i64 0]∧H'=Row E ll (jg p q ins).1::H)))):=by
 have a0:=hk.cn;refine sWk func8 ?_;refine ws_ (wr_ (bxx (k:=λb3=>?_)));refine bxx (k:=λb4=>?_);refine alc (k:=λb6=>?_);refine e_ asn (on_ (qn_ (ws_ (wr_ (e_ lds (e_ lds ?_))))));refine c2_ rfl (WS (a:=a) (p:=p) (q:=q) dH.refl inferInstance inferInstance inferInstance inferInstance inferInstance (Z.less hsb) hD hk) ?_;rintro _ _ (⟨e,V,he,rfl,rfl⟩|⟨ins,m,x,F,A,hrf,rfl,rfl⟩)
 ·obtain⟨N,B⟩:∃N,xJ e=N:=⟨_,rfl⟩;have hk8:¬N=0:=by rw[←B];rcases he with rfl|rfl <;> decide
  rw[B];refine e_ mv (e_ exr (e_ exr (e_ asn (e_ asn (on_ (qn_ (ws_ (ws_ (wr_ (e_ mv (e_ ine (on_ (qn_ ?_)))))))))))));refine wi_ (k:=λh1=>?_) (m:=λh1=>?_)
  ·refine ws_ (wr_ (e_ (bld []) (e_ mv (sto (k:=e_ asn (on_ (qn_ (wt_ (qr_ (rT (k:=?_)))))))))));rw[←B];exact⟨_,hsb,.inl ⟨e,V,he,rfl,rfl⟩⟩
  exact absurd h1 a8
 obtain⟨x0,tb,c,t⟩:=Wx hk A;have U:=SU (p:=p) (q:=q);obtain⟨R0,C⟩:=ex (jg p q ins);refine e_ mv (e_ exr (e_ exr (e_ asn (e_ asn (on_ (qn_ (ws_ (ws_ (wr_ (e_ mv (e_ ine (on_ (qn_ ?_)))))))))))));refine fM (k:=wk_ (qn_ (ws_ (wr_ ?_))));refine eu (dH.nilRow (e:=ll) dH.refl) ?_;refine e_ (bld []) (alc (k:=λa2=>?_));refine sto (k:=on_ (qn_ (ws_ (wb_ (e8 (MS×Nat×(List Hit)×SV×Int×Bool) (λy=>BA (dM p q ins) y.2.1 y.1∧lT (dM p q ins) (fa p q) y.1∧R0=(y.2.2.1++(nJ (dM p q ins) y.2.1 y.1).1,(nJ (dM p q ins) y.2.1 y.1).2)∧((y.2.2.1.length:Nat):Int)≤y.1.pl+1∧RSt (dM p q ins) y.1 y.2.2.2.2.1 y.2.2.2.2.2) (λy=>[]) [(2,_),(6,_),(8,_),(10,_)] (λy=>[Vr m (mR x y.2.2.2.2.1 y.2.2.2.2.2 y.1.steps y.1.visits),Row x.cu eRc (x.ls.zip y.1.cs),Row y.2.2.2.1 ll y.2.2.1,Vr a2 [y.2.2.2.1.val,.int .i64 0,.int .i64 0,.int .i64 0]]) _ (λy=>y.2.1) ((mn (fa p q),(dM p q ins).ids.length+1, [],SV.nil, -1,false)) (h0:=?_) (k:=?_))))))
 ·try dsimp only
  exact⟨BA.start t.lo,t,C,by show(0:Int)≤ -1+1;decide,.inl ⟨rfl,rfl⟩⟩
 rintro⟨n,f,out,E,pl1,e1⟩ ⟨L,d,b,hol,R⟩
 try dsimp only[Yd,Ye]at*
 obtain⟨f9,rfl⟩:∃g,f=g+1:=⟨f-1,by have:=L.one;omega⟩;obtain⟨j,hsm⟩:=CN c.dr c.few d;have hhi:=d.hi;obtain⟨h6,h7⟩:=tT c j;refine wb_ (ws_ (wr_ (e_ mv ?_)));refine c1_ rfl (SP (s:=n) (x:=x) c d R U hT) ?_;rintro _ _ ⟨(⟨hh,h,rfl⟩|⟨h,rfl⟩),w,e2,r,rfl⟩
 ·rw[DQ h]at b;have K:=L.next c.dr c.few d h;have hpl:=(rJ c.dr c.few ((dM p q ins).ids.length+1) n d).2.2.2 (by intro h9;rw[show(qZ (dM p q ins) ((dM p q ins).ids.length+1) n).1=(fh (dM p q ins) n).1 from rfl,h]at h9;cases h9);have hpl2:n.pl<(fh (dM p q ins) n).2.pl:=hpl.1;refine e_ mv (e_ exr (e_ exr (alc (k:=λa1=>?_))));refine sto (k:=e_ asn (on_ (qn_ (ws_ (ws_ (wr_ (e_ mv (e_ mN (on_ (qn_ (fM (k:=wk_ (qn_ ?_)))))))))))));refine wr_ (e_ fla (e_ ldv (e_ lds (fS ll (k:=λs34=>?_)))));refine app (k:=λM=>?_);refine e_ fla (sto (k:=on_ (bn_ ?_)));refine lN (((fh (dM p q ins) n).2,f9,out++ [hh],M,w,e2)) ?_
  try dsimp only
  exact⟨K,j,by rw[b,Yf];all_goals rfl,by rw[Ya];show((out.length+1:Nat):Int)≤_;omega,r⟩
 rw[DR h,Ym]at b;obtain⟨u,J⟩:=ex ((fh (dM p q ins) n).2);rw[←J]at b j h6 h7 r;rw[←J];have S:(jg p q ins).1=out:=by rw[←C,b]
 have z:(jg p q ins).2=u:=by rw[←C,b]
 refine e_ mv (e_ exr (e_ exr (alc (k:=λa1=>?_))));refine sto (k:=e_ asn (on_ (qn_ (ws_ (ws_ (wr_ (e_ mv (e_ mN (on_ (qn_ (ift (k:=we_ (qe_ ?_)))))))))))));refine bm_ (k:=le_ (bh_ (qn_ (ws_ (ws_ (wr_ (e_ mv (e_ nck (e_ fla (e_ ldv (e_ mv ?_)))))))))));refine e_ (nw rfl rfl) ?_;refine e_ igt (on_ (qn_ (wi_ (k:=λh2=>?_) (m:=λh2=>?_))))
 ·have X:fu.toNat<u.steps:=by have h9:=h2;omega
  refine ws_ (wr_ (e_ (bld []) (sto (k:=e_ asn (on_ (qn_ (wt_ (qr_ (rT (k:=?_))))))))));exact⟨_,hsb,.inr ⟨ins,A,.inl ⟨by rw[z];exact X,rfl,rfl⟩⟩⟩
 have Y:u.steps≤fu.toNat:=aw;refine wk_ (qn_ (ws_ ?_));refine wD [5,11,13,15] (λk H=>(k=3→dQ H m (mR x w e2 u.steps u.visits))∧(k=9→dQ H m (mR x w e2 u.steps u.visits))) (aF 0 (k:=aF 1 (k:=aF 2 (k:=?_))));refine aN 3 rfl (λH hH=>ah) ?_;refine aF 4 (k:=aF 6 (k:=aF 7 (k:=aF 8 (k:=?_))));refine aN 9 rfl (λH hH=>aM) ?_;refine aF 10 (k:=?_);refine aS 5 rfl (v1_ (OE (x:=x) (p:=p) (q:=q) (ins:=ins) j.cs a0)) ?_;rintro _ _ ⟨rfl,rfl⟩;refine aS 11 rfl (ej rfl rfl rfl) ?_;rintro _ _ ⟨rfl,rfl⟩;refine aF 12 (k:=?_);refine aS 13 rfl (ej rfl rfl rfl) ?_;rintro _ _ ⟨rfl,rfl⟩;refine aF 14 (k:=?_);refine aS 15 rfl (ej rfl rfl rfl) ?_;rintro _ _ ⟨rfl,rfl⟩;refine aZ (qn_ (ws_ (wr_ (e_ lds (sto (k:=e_ asn (on_ (qn_ (wt_ (rT (k:=?_)))))))))));exact⟨Row E ll out::H,hsb,.inr ⟨ins,A,.inr ⟨by rw[z];exact Y,E,by rw[z];all_goals rfl,by rw[S]⟩⟩⟩
end
section
variable {D:List Bool}
theorem sj.small {p:PrG}{q:PtD}{T:Nat}(h:sj p q T):∃T,sj p q T∧T≤100000000:=by
 refine⟨min T 100000000,⟨h.sm,h.seg,h.pt,λb a=>?_,λn hn=>⟨?_,(h.near n hn).2⟩,h.cn,h.os⟩,a8⟩
 ·have h1:=h.tot b a;have h2:=(CB h.seg b a).2.2;omega
 ·exact Xi (V7 _ (Nat.min_le_left _ _)) (h.near n hn).1
theorem vy {n:Nat}{dead:List Int}{ws:List Nat}(h:yu n dead ws) (h1:D.length=n) (h2:∀j,j<n→D[j]? =some (decide (((j:Nat):Int)∈dead))):D.length=n∧∀i,i<n→D[i]? =some (l8 ws i):=⟨h1,λi hi=>by rw[h2 i hi,h.2.2.2 i hi]⟩
theorem Ee {G:dJ}{H:dD}{s s2:SV}{xs:List Hit}{a b c:Int} [Sl H s ll xs] [Sl H s2 ll xs] (hn:xs.length≤1000000000000):SC G prog 11 [.agg #[s.val,.int .i64 a,.int .i64 b,.int .i64 c],.agg #[s2.val,.int .i64 a,.int .i64 b,.int .i64 c]] H (λv d=>v=.bool true∧d=H):=
 (QD (xs:=xs) (ys:=xs) hn).mono λv d h=>⟨by rw[h.1];simp,h.2⟩
abbrev a0i:=Option Nat×List Hit×Int×Int×Int
def qT (p:PrG) (q:PtD) (fu:Int):a0i:=match kP p q with
 | .error e=>(some e, [],0,0,0)
 | .ok ins=>if fu.toNat<(jg p q ins).2.steps then(some 21, [],0,0,0)else(none,(jg p q ins).1,(((jg p q ins).2.steps:Nat):Int),((rF (jg p q ins).2:Nat):Int),(((jg p q ins).2.visits:Nat):Int))
def UG (G:dJ):Option Nat→Value
 |none=>.nilIface
 |some e=>G.err e
def Ld:Option Nat→Int
 |none=>0
 |some e=>xJ e
def YC (o:Option Nat):Prop:=o=none∨o=some 9∨o=some 20∨o=some 21
theorem AQ {G:dJ}{H:dD} [hg:Glb G H] [Ja G] {o:Option Nat}(h:YC o):SC G prog 10 [UG G o] H (λv a=>v=.int .i64 (Ld o)∧a=H):=by
 rcases h with rfl|rfl|rfl|rfl
 ·exact Tg
 ·haveI:kx 9:=⟨ae⟩;exact EK 9
 ·haveI:kx 20:=⟨ae⟩;exact EK 20
 ·haveI:kx 21:=⟨ae⟩;exact EK 21
theorem Pe {p:PrG}{q:PtD}{e:Nat}(h:kP p q=.error e):e=20∨e=9:=by
 unfold kP at h
 split at h
 ·exact .inl (Except.error.inj h).symm
 ·split at h
  ·split at h
   ·exact .inl (Except.error.inj h).symm
   ·cases h
  ·exact .inr (Except.error.inj h).symm
theorem OV {p:PrG}{q:PtD}{fu:Int}:YC (qT p q fu).1:=by
 unfold qT;cases h:kP p q with
 |error e=>rcases Pe h with rfl|rfl;exact .inr (.inr (.inl rfl));exact .inr (.inl rfl)
 |ok ins=>dsimp only;split;exact .inr (.inr (.inr rfl));exact .inl rfl
theorem OU {p:PrG}{q:PtD}{T:Nat}{fu:Int}(hk:sj p q T):(qT p q fu).2.1.length≤1000000000000:=by
 unfold qT;cases h:kP p q with
 |error e=>exact Yl _
 |ok ins=>dsimp only;split;exact Yl _;exact Om hk
section
variable {G:dJ}{H:dD}{a:PrA}{p:PrG}{q:PtD}{T:Nat}{fu:Int}
theorem W2 {pt:PtA} [hg:Glb G H] [hia:Isa H] [hp:il H a p] [hpc:pk H a p] [hpt:eN H pt q] (d:ph) (f:jf) (hk:sj p q T):SC G prog 7 [.agg (prV a p.all).toArray,pA pt.p,.int .i64 fu] H (λv c=>∃b:SV,v=.tuple #[.agg #[b.val,.int .i64 (qT p q fu).2.2.1,.int .i64 (qT p q fu).2.2.2.1,.int .i64 (qT p q fu).2.2.2.2],UG G (qT p q fu).1]∧c=Row b ll (qT p q fu).2.1::H):=
 SC.out ((W3 (a:=a) (p:=p) (pt:=pt) (fu:=fu) d f hk).mono λv c h=>by
  unfold qT;rcases h with⟨e,h1,_,rfl,rfl⟩|⟨ins,h1,⟨h2,rfl,rfl⟩|⟨h2,b,rfl,rfl⟩⟩
  ·rw[h1];exact⟨_,dH.nilRow (e:=ll) dH.refl,SV.nil,rfl,rfl⟩
  ·rw[h1];dsimp only;rw[if_pos h2];exact⟨_,dH.nilRow (e:=ll) dH.refl,SV.nil,rfl,rfl⟩
  ·rw[h1];dsimp only;rw[if_neg a8];exact⟨_,dH.refl,b,rfl,rfl⟩)
theorem Ky {fv dv de:SV}{l:List (Int×SV)} [hp:il H a p] [hpc:pk H a p] [hf:Sl H fv eF q.fs] [hd:Sl H dv eD l] [hde:Sl H de eBo D] (c:gK H l q.ds) (f:D.length=q.ds.length∧∀i,i<q.ds.length→D[i]? =some (l8 q.dw i)) (hk:sj p q T) (hT:T≤1000000000000):SC G prog 8 [.agg (prV a p.all).toArray,.agg #[fv.val,dv.val,de.val],.int .i64 fu] H (λv d=>∃b:SV,v=.tuple #[.agg #[b.val,.int .i64 (qT p q fu).2.2.1,.int .i64 (qT p q fu).2.2.2.1,.int .i64 (qT p q fu).2.2.2.2],.int .i64 (Ld (qT p q fu).1)]∧d=Row b ll (qT p q fu).2.1::H):=
 SC.out ((WN (a:=a) (p:=p) (q:=q) (fu:=fu) c f hk hT).mono λv d h=>by
  unfold qT;rcases h with⟨e,h1,_,rfl,rfl⟩|⟨ins,h1,⟨h2,rfl,rfl⟩|⟨h2,b,rfl,rfl⟩⟩
  ·rw[h1];exact⟨_,dH.nilRow (e:=ll) dH.refl,SV.nil,rfl,rfl⟩
  ·rw[h1];dsimp only;rw[if_pos h2];exact⟨_,dH.nilRow (e:=ll) dH.refl,SV.nil,rfl,rfl⟩
  ·rw[h1];dsimp only;rw[if_neg a8];exact⟨_,dH.refl,b,rfl,rfl⟩)
end
theorem Pk {G:dJ}{H:dD}{fv pv:SV}{kp fu:Int}{a:PrA}{p:PrG}{fs:List FV}{lp:List (SV×SV)}{ps:List km} [hg:Glb G H] [Ja G] [hia:Isa H] [Tab H 27 oc] [Tab H 25 mA] [hf:Sl H fv eF fs] [hd:Sl H pv eP lp] [hp:il H a p] [hpc:pk H a p] [Spc H] (hT:kh G) (Z:ot) (B:ph) (E:jf) (V:rm H lp ps) (b:Ni p fs ps):
 SC G prog 3 [.agg #[fv.val,pv.val,.int .i64 kp,a.av.val,a.cu.val,a.ne.val,.bool p.all,a.dr.val,a.co.val],.int .i64 fu] H (λv c=>v=.bool true∧c=H):=by
 haveI hnil:∀K,Sl K SV.nil ll []:=λK=>⟨λL hL=>⟨rfl,Xl _,.inl ⟨rfl,rfl⟩⟩⟩;refine sWk func3 ?_;refine ws_ (wr_ (bxx (k:=λb2=>?_)));refine e_ asn (on_ (qn_ (ws_ (ws_ (wr_ ?_)))));refine d0_ rfl (RS hT Z B E) (e_ mN (on_ (qn_ (wi_ (k:=λh1=>?_) (m:=λh1=>?_)))))
 ·exact absurd h1 aq
 refine wk_ (qn_ (ws_ (wr_ (e_ lds ?_))));refine c1_ rfl (NX hT Z (V.less hsb) b.pl b.sm b.fl b.fn) ?_;rintro _ _ (⟨rfl,rfl⟩|⟨d,dv,xv,pt,t,F,Y,y,j,U,⟨⟨l,hdl,A⟩,hxl⟩,rfl,rfl⟩)
 ·refine e_ mv (e_ exr (e_ exr (e_ exr (alc (k:=λb6=>?_)))));refine e_ asn (sto (k:=e_ asn (on_ (qn_ (ws_ (ws_ (wr_ (e_ mv (e_ ine (on_ (qn_ (wi_ (k:=λh2=>?_) (m:=λh2=>?_)))))))))))))
  ·refine ws_ (wr_ (e_ mv (e_ ieq (e_ asn (on_ (qn_ (wt_ (qr_ (rT (k:=?_))))))))));exact⟨_,hsb,rfl,rfl⟩
  exact absurd h2 aq
 obtain⟨T0,X⟩:=b.pq d y t Y j;obtain⟨T,hk,hTs⟩:=X.small;haveI hpt':∀K,eN (eU F::K) pt ⟨fs,d.1,t⟩:=λK=>U.less n4;have s:=b.sm d y;have x:=hk.seg.few;have f:∀z∈d.1,z.2.length≤1000000:=λz hz=>by have:=(np (hk.seg.vals z hz)).1;omega
 have u:=(jx hk.seg.chk).1.2;simp only at x u;obtain⟨R,C⟩:=ex (qT p ⟨fs,d.1,t⟩ fu);have i:=OV (p:=p) (q:=⟨fs,d.1,t⟩) (fu:=fu);have g:=OU (fu:=fu) hk;rw[←C]at i g;refine e_ mv (e_ exr (e_ exr (e_ exr (alc (k:=λb6=>?_)))));refine e_ asn (sto (k:=e_ asn (on_ (qn_ (ws_ (ws_ (wr_ (e_ mv (e_ ine (on_ (qn_ (wi_ (k:=λh3=>?_) (m:=λh3=>?_)))))))))))))
 ·exact absurd h3 aq
 refine wk_ (qn_ (ws_ (wr_ (e_ fla (e_ lds (e_ mv (e_ mv ?_)))))));refine c3_ rfl ((W2 (a:=a) (p:=p) (pt:=pt) (fu:=fu) B E hk).mono (K':=λv c=>∃e:SV,v=.tuple #[.agg #[e.val,.int .i64 R.2.2.1,.int .i64 R.2.2.2.1,.int .i64 R.2.2.2.2],UG G R.1]∧c=Row e ll R.2.1::_) (λv c h=>by rw[C];exact h)) ?_;rintro _ _ ⟨e,rfl,rfl⟩;refine e_ mv (e_ exr (e_ exr (alc (k:=λb8=>?_))));refine sto (k:=e_ asn (on_ (qn_ (ws_ ?_))));refine wD [6,8,12,13] (λk H=>(k=1→dQ H b2 [fv.val,pv.val,.int .i64 kp,a.av.val,a.cu.val,a.ne.val,.bool p.all,a.dr.val,a.co.val])∧(k=4→dQ H b2 [fv.val,pv.val,.int .i64 kp,a.av.val,a.cu.val,a.ne.val,.bool p.all,a.dr.val,a.co.val])∧(k=5→dQ H b6 [dv.val,xv.val])) (aF 0 (k:=?_));refine aN 1 rfl (λH hH=>aX) ?_;refine aF 2 (k:=aF 3 (k:=?_));refine aN 4 rfl (λH hH=>by have hN:=hH.2.1 rfl;exact lds) ?_;refine aN 5 rfl (λH hH=>by have hN:=hH.2.2 rfl;exact lds) ?_;refine aF 7 (k:=?_);refine Bw 6 12 rfl rfl aa rfl rfl (λk hk=>⟨λhi=>bm,λhi=>bm,λhi=>bm⟩) (lU (vs:= [_,_]) rfl (JO (fs:=fs) (ds:=d.1) (dead:=d.2) (A.less hsb) a8 a8 f s.x)) m9 ?_ ?_
 ·rintro _ _ ⟨S,N,M,zs,D,hzs,n,r,rfl,rfl⟩;refine Bw 8 12 rfl rfl aa rfl rfl (λk hk=>⟨λhi=>bm,λhi=>absurd hk aB,λhi=>absurd hk aB⟩) (lU (vs:= [_,_,_]) rfl ((Ky (a:=a) (p:=p) (q:=⟨fs,d.1,t⟩) (fv:=S) (dv:=N) (de:=M) (fu:=fu) bR (vy j n r) hk a8).mono (K':=λv c=>∃e:SV,v=.tuple #[.agg #[e.val,.int .i64 R.2.2.1,.int .i64 R.2.2.2.1,.int .i64 R.2.2.2.2],.int .i64 (Ld R.1)]∧c=Row e ll R.2.1::_) (λv c h=>by rw[C];exact h))) m9 ?_ ?_
  ·rintro _ _ ⟨w,rfl,rfl⟩;refine aF 9 (k:=aF 10 (k:=aF 11 (k:=?_)));refine aS 12 rfl m9 ?_;rintro _ _ ⟨J,rfl,rfl⟩;refine aS 13 rfl (ej rfl rfl rfl) ?_;rintro _ _ ⟨rfl,rfl⟩;refine aF 14 (k:=aZ (qn_ (ws_ (wr_ (e_ mv ?_)))));refine d1_ rfl (AQ i) (e_ mv (e_ ieq (e_ mv (dV 4 52 (k:=λh4=>eg_ lds (eg_ lds (iU (vs:=[_,_]) (hc:=(Ee (xs:=R.2.1) g)) (k:=e_ pkt (on_ edq))))) (q:=e_ asn (on_ (qn_ (wt_ (rT (k:=?_))))))))));exact⟨_,hsb,by simp[jt],rfl⟩
  rintro _ _ ⟨J,rfl,rfl⟩;refine aS 8 rfl (lU (vs:= [_,_,_]) rfl ((Ky (a:=a) (p:=p) (q:=⟨fs,d.1,t⟩) (fv:=S) (dv:=N) (de:=M) (fu:=fu) bR (vy j n r) hk a8).mono (K':=λv c=>∃e:SV,v=.tuple #[.agg #[e.val,.int .i64 R.2.2.1,.int .i64 R.2.2.2.1,.int .i64 R.2.2.2.2],.int .i64 (Ld R.1)]∧c=Row e ll R.2.1::_) (λv c h=>by rw[C];exact h))) ?_;rintro _ _ ⟨w,rfl,rfl⟩;refine aF 9 (k:=aF 10 (k:=aF 11 (k:=?_)));refine aS 13 rfl (ej rfl rfl rfl) ?_;rintro _ _ ⟨rfl,rfl⟩;refine aF 14 (k:=aZ (qn_ (ws_ (wr_ (e_ mv ?_)))));refine d1_ rfl (AQ i) (e_ mv (e_ ieq (e_ mv (dV 4 52 (k:=λh5=>eg_ lds (eg_ lds (iU (vs:=[_,_]) (hc:=(Ee (xs:=R.2.1) g)) (k:=e_ pkt (on_ edq))))) (q:=e_ asn (on_ (qn_ (wt_ (rT (k:=?_))))))))));exact⟨_,hsb,by simp[jt],rfl⟩
 rintro _ _ ⟨J,rfl,rfl⟩;refine aS 6 rfl (lU (vs:= [_,_]) rfl (JO (fs:=fs) (ds:=d.1) (dead:=d.2) (A.less hsb) a8 a8 f s.x)) ?_;rintro _ _ ⟨S,N,M,zs,D,hzs,n,r,rfl,rfl⟩;refine aS 8 rfl (lU (vs:= [_,_,_]) rfl ((Ky (a:=a) (p:=p) (q:=⟨fs,d.1,t⟩) (fv:=S) (dv:=N) (de:=M) (fu:=fu) bR (vy j n r) hk a8).mono (K':=λv c=>∃e:SV,v=.tuple #[.agg #[e.val,.int .i64 R.2.2.1,.int .i64 R.2.2.2.1,.int .i64 R.2.2.2.2],.int .i64 (Ld R.1)]∧c=Row e ll R.2.1::_) (λv c h=>by rw[C];exact h))) ?_;rintro _ _ ⟨w,rfl,rfl⟩;refine aF 9 (k:=aF 10 (k:=aF 11 (k:=?_)));refine aS 13 rfl (ej rfl rfl rfl) ?_;rintro _ _ ⟨rfl,rfl⟩;refine aF 14 (k:=aZ (qn_ (ws_ (wr_ (e_ mv ?_)))));refine d1_ rfl (AQ i) (e_ mv (e_ ieq (e_ mv (dV 4 52 (k:=λh6=>eg_ lds (eg_ lds (iU (vs:=[_,_]) (hc:=(Ee (xs:=R.2.1) g)) (k:=e_ pkt (on_ edq))))) (q:=e_ asn (on_ (qn_ (wt_ (rT (k:=?_))))))))));exact⟨_,hsb,by simp[jt],rfl⟩
end
end Go.Sx
