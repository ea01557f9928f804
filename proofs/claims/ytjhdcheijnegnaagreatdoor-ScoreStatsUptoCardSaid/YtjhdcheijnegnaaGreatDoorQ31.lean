import Derived.Test.YtjhdcheijnegnaaGreatDoorQ28
import Derived.Test.YtjhdcheijnegnaaGreatDoorQ29
import Derived.Test.YtjhdcheijnegnaaGreatDoorQ24
set_option linter.all false
set_option maxHeartbeats 0
namespace Go.Sx
open Go Go.Proofs Tryz
set_option maxRecDepth 100000
section
variable {G:cJ}{H R:cG}{ds:List Doc}{fs:List FV}{l:List (Int×SV)}{s:SV}{zs:List (SV×List Nat)}
theorem Ls [hg:Glb G H] [hs:Sl H s eF fs] (hc:fW fs=true):SC G prog 153 [.agg #[s.val]] H (λv b=>∃a:SV,v=.tuple #[a.val,.nilIface]∧b=Row a eB (wF fs)::H):=
 (Il (fs:=fs) (by have:=gq hc;omega) (λf c=>by have:=((gq hc).2 f c).1;omega)).mono λv b h=>by
   rcases h with⟨h,_⟩|⟨_,h⟩
   ·rw[hc]at h;cases h
   ·exact h
theorem BT {b:Nat}{xs:List Nat}{l:List Int} [hg:Glb G R] [hr:Rem H Wr b xs R] [Sl R s eI l] (c:xs.length≤100000000000) (hm:l.length≤10000000000) (hl:∀x∈l,x≤9223372036854775807) (h1:lj l=false) (h2:rise l=true):SC G prog 156 [pA b,s.val] H (λv a=>v=.nilIface∧a=Wr b (xs++(uv l.length++gh (-1) l))::R):=
 (Hm c hm hl).mono λv a h=>by
   rcases h with⟨h,_⟩|⟨_,h,_⟩|⟨_,_,h⟩
   ·rw[h1]at h;cases h
   ·rw[h2]at h;cases h
   ·exact h
theorem K4 {i:Nat}{z:SV×List Nat}(hr:mW H (Cl lnH zs) R) (h:zs[i]? =some z):Sl H z.1 eI (cP z.2):=dj (gf hr (Bh h)) inferInstance
theorem ew.less {H':cG}(hs:cH H' H) (h:ew H l ds):ew H' l ds:=⟨h.1,λi p q hp a=>by
 obtain⟨h1,h2⟩:=h.2 i p q hp a;exact⟨h1,dj hs h2⟩⟩
def n5 (k:Nat):List SV→List (Nat×SV)
 | []=>[]
 |s::l=>(k,s)::n5 (k+1) l
theorem xc:∀(l:List SV) (k:Nat),(n5 k l).length=l.length
 | [],_=>rfl
 |s::l,k=>by simp[n5,xc l]
theorem xd:∀{l:List SV}{k i:Nat}{s:SV},l[i]? =some s→(n5 k l)[i]? =some (k+i,s)
 | [],_,_,_,h=>aI
 |q::l,k,0,s,h=>aT
 |q::l,k,i+1,s,h=>by
  rw[Xc]at h;rw[n5,Xc,xd h];congr 2;omega
theorem OG {a b c d e f:SV}{p q r s t u:List Nat} [h1:Sl H a eB p] [h2:Sl H b eB q] [h3:Sl H c eB r] [h4:Sl H d eB s] [g:Sl H e eB t] [h6:Sl H f eB u]:oo H (n5 1 [a,b,c,d,e,f]) [(1,p),(2,q),(3,r),(4,s),(5,t),(6,u)]:=⟨rfl,λi x y hx hy=>by
 match i,hx,hy with
 | 0,hx,hy=>simp[n5]at hx hy;subst hx;subst hy;exact⟨rfl,h1⟩
 | 1,hx,hy=>simp[n5]at hx hy;subst hx;subst hy;exact⟨rfl,h2⟩
 | 2,hx,hy=>simp[n5]at hx hy;subst hx;subst hy;exact⟨rfl,h3⟩
 | 3,hx,hy=>simp[n5]at hx hy;subst hx;subst hy;exact⟨rfl,h4⟩
 | 4,hx,hy=>simp[n5]at hx hy;subst hx;subst hy;exact⟨rfl,g⟩
 | 5,hx,hy=>simp[n5]at hx hy;subst hx;subst hy;exact⟨rfl,h6⟩
 |n+6,hx,hy=>simp[n5]at hx⟩
theorem KX {R2:cG}{g r:Nat}{fv dv lv:SV} [hg0:Glb G R] [Tab R 43 md] [Tab R 33 l7] [hv:cY R g [fv.val,dv.val,lv.val,.map (some r)]] [hf:Sl R fv eF fs] [hd:Sl R dv eD l] [hl:Sl R lv eSV (zs.map (·.1))] [hz:mW R (Cl lnH zs) R2] [hr:Rem H iJ r (eQ fs ds) R] (hS:nJ) (a:iU fs ds) (t:ew R l ds) (J:zs.map (·.2)=(List.range fs.length).map (et fs ds)):SC G prog 93 [pA g] H (λv H'=>∃s:SV,v=.tuple #[s.val,.nilIface]∧H'=Row s eB (xy fs ds)::R):=by
 have T:=t.1;have hfl:=a.flen;have j:=a.few;obtain⟨a1,a0,Z,Y⟩:=a.blocks;have K:∀x∈ds.map (·.1),x<1099511627776:=λx hx=>by obtain⟨d,hd,rfl⟩:=Xw.1 hx;exact a.ids d hd
 have f:(ds.map (·.1)).length=l.length:=by rw[Yh,T]
 have L:zs.length=fs.length:=by have:=congrArg List.length J;simpa using this
 have hzml:(zs.map (·.1)).length=fs.length:=by rw[Yh,L]
 have c:=a.size;refine SC.rem (h:=hr) ?_;refine sWk func93 ?_;refine go ?_;refine c1_ rfl (Ls a.chk) ?_;rintro _ _ ⟨C,rfl,rfl⟩;refine e_ mv (e_ exr (e_ exr (e_ asn (e_ asn (on_ (qn_ (ws_ (ws_ (wr_ (e_ mv ?_))))))))));refine e_ (cK rfl) ?_;refine gk (k:=iff_ (k:=go ?_));refine c1_ rfl (KW (r:=r) hS a.goodT Z Y) ?_;rintro _ _ ⟨sa,sb,rfl,rfl⟩;refine e_ mv (e_ exr (e_ exr (e_ exr (e_ asn (e_ asn (e_ asn (on_ (qn_ (ws_ (ws_ (wr_ (e_ mv ?_))))))))))));refine e_ (cK rfl) ?_;refine gk (k:=iff_ (k:=go ?_));refine s_ (fq eI 0 rfl rfl _ _ rfl rfl rfl a8 a8 a8) ?_;rintro _ _ ⟨m,rfl,hs45n,hs45c,rfl⟩;refine e_ asn (on_ (qn_ (ws_ (ws_ (wr_ ?_)))));rw[show Row m eI (List.replicate l.length (0:Int))=Row m eI (eV (ds.map (·.1)) 0 0)from by rw[kx,f]];refine gk (k:=wl2_ Nat (λy=>y≤l.length) (λy=>[(51,iN y)]) [(0,_),(4,_),(6,_),(7,_),(8,_),(49,_),(50,_)] (λy=>[Row m eI (eV (ds.map (·.1)) 0 y)]) _ (λy=>l.length-y) (0) (h0:=?_) (k:=?_))
 ·exact Yl _
 rintro i hi
 try dsimp only[Yd,Ye]at*
 refine gW (λh1=>?_) λh1=>?_
 ·obtain⟨d,s,vs,hli,X,hsl⟩:=t.get (i:=i) a8;have V:(ds.map (·.1))[i]? =some d:=by rw[Xd,X];all_goals rfl
  have hfll:=iT (full:=ds.map (·.1)) (z:=(0:Int)) (i:=i) a8;refine gk (k:=alc (k:=λb10=>?_));refine go ?_;refine s_ (dc (i:=i) rfl rfl rfl a8) ?_;rintro _ _ ⟨rfl,rfl⟩;rw[lV V];refine go ?_;refine lN (i+1) ?_
  try dsimp only
  omega
 obtain rfl:i=l.length:=a8;rw[show eV (ds.map (·.1)) 0 l.length=ds.map (·.1)from by rw[←f,kN]];refine go ?_;refine c0_ rfl ga ?_;rintro _ _ ⟨bw,rfl,rfl⟩;refine go ?_;refine d2_ rfl (BT ak a8 (λx hx=>by have:=K x hx;omega) a.pos a.up) ?_;rw[show []++(uv (ds.map (·.1)).length++gh (-1) (ds.map (·.1)))=mH ds from by rw[mH,Yh];all_goals rfl];have hIl:(mH ds).length≤50000:=by
  have h1:=nS a.pos (λx hx=>by have:=K x hx;omega);have h2:=eA (n:=ds.length) (k:=6) a8 a8;rw[mH,Ya];omega
 refine e_ asn (on_ (qn_ (ws_ (wr_ (e_ mv ?_)))));refine e_ (cK rfl) ?_;refine gk (k:=iff_ (k:=go ?_));refine c1_ rfl (iW a8) ?_;rintro _ _ ⟨B,rfl,rfl⟩;refine go ?_;refine d1_ rfl Ki ?_;rw[show Wr bw []=Wr bw (ld fs ds 0)from rfl];refine go ?_;refine wl2_ Nat (λy=>y≤fs.length) (λy=>[(78,iN y)]) [(0,_),(4,_),(6,_),(7,_),(11,_),(13,_),(76,_),(77,_)] (λy=>[Wr bw (ld fs ds y)]) _ (λy=>fs.length-y) (0) (h0:=?_) (k:=?_)
 ·exact Yl _
 rintro i hi
 try dsimp only[Yd,Ye]at*
 refine gW (λh2=>?_) λh2=>?_
 ·obtain⟨z,p⟩:=gE zs i;have hz1:(zs.map (·.1))[i]? =some z.1:=by rw[Xd,p];all_goals rfl
  have M:z.2=et fs ds i:=by
   have h1:=congrArg (·[i]?) J;simp only[Xd,p,X3 (by omega:i<fs.length),Vd,Option.some.injEq]at h1;exact h1
  haveI hzs2:Sl R z.1 eI (cP (et fs ds i)):=M ▸ K4 hz p;have U:=lL (fs:=fs) c j i;refine go ?_;refine d2_ rfl (vN a8 (by rw[et,Yh];omega) (wc fs c i) (λ_=>by rw[et,Yh];omega)) ?_;rw[show ld fs ds i++dN (et fs ds i)=ld fs ds (i+1)from by simp[ld,U6]];refine e_ asn (on_ (qn_ (ws_ (wr_ (e_ mv ?_)))));refine e_ (cK rfl) ?_;refine gk (k:=iff_ (k:=go ?_));refine lN (i+1) ?_
  try dsimp only
  omega
 obtain rfl:i=fs.length:=a8;have U:=lL (fs:=fs) c j fs.length;refine go ?_;refine c1_ rfl (iW a8) ?_;rintro _ _ ⟨A,rfl,rfl⟩;refine go ?_;refine c1_ rfl (HB (t.less hsb) a8 a8 a.q c a.fd) ?_;rintro _ _ ⟨w,rfl,rfl⟩;refine s_ (dt eSV [C,B,A,sa,sb,w] bA rfl ao) ?_;rintro _ _ ⟨s97,rfl,rfl⟩;refine eN (cH.nilRow (e:=eK) cH.refl) ?_;obtain⟨b,q⟩:=ex ([C,B,A,sa,sb,w]);have hsl:b.length=6:=by rw[q];all_goals rfl
 have N:=xc b 1;rw[←q,show Row SV.nil eK []=Row SV.nil eK ((n5 1 b).take 0)from rfl];refine gk (k:=wl2_ (Nat×SV) (λy=>y.1≤b.length) (λy=>[(17,y.2.val),(99,iN y.1)]) [(97,_),(98,_)] (λy=>[Row y.2 eK ((n5 1 b).take y.1)]) _ (λy=>b.length-y.1) ((0,SV.nil)) (h0:=?_) (k:=?_))
 ·exact Yl _
 rintro⟨i,u⟩ hi
 try dsimp only[Yd,Ye]at*
 refine gW (λh3=>?_) λh3=>?_
 ·obtain⟨x,hx⟩:=gE b i;have S:=cL (xd (k:=1) hx);have htkl:((n5 1 b).take i).length≤6:=ar;refine wk_ (qn_ (ws_ (wb_ (ws_ (wr_ (e_ mv (e_ ixa (e_ lel (e_ asn (e_ asn (on_ (qn_ (wr_ ?_)))))))))))));refine e_ mv (e_ mv (e_ iad ?_));refine e_ (cR 256 rfl rfl rfl (1+i) a8 a8) ?_;refine e_ mv (e_ (bld [(0,_),(1,_)]) (fX eK (k:=λs110=>?_)));refine app (k:=λF=>?_);rw[←S];refine go ?_;refine lN ((i+1,F)) ?_
  try dsimp only
  omega
 obtain rfl:i=b.length:=a8;rw[show(n5 1 b).take b.length=n5 1 b from by rw[←N,Xk],q];refine go ?_;refine c2_ rfl (Oz (bl:=lE fs ds) 83 ae ae OG a1 a0 (by simp[lE])) ?_;rintro _ _ ⟨E,rfl,rfl⟩;refine gR ?_;exact⟨_,hsb,E,rfl,rfl⟩
end
section
variable {G:cJ}{H:cG}{ds:List Doc}{fs:List FV}
def ow (fs:List FV):Int→List Doc→Nat
 |_, []=>0
 |la,d::r=>if d.1<0∨1099511627776≤d.1 then 8 else if d.1≤la then 4 else if gl fs d.2=0 then ow fs d.1 r else gl fs d.2
def qP (fs:List FV) (ds:List Doc):Nat:=if fW fs=false then 11 else if 4096<ds.length then 3 else ow fs (-1) ds
theorem yL:∀{ds:List Doc}{la:Int},ow fs la ds=0→(∀d∈ds,0≤d.1∧d.1<1099511627776∧gl fs d.2=0)∧(∀d,ds.head? =some d→la<d.1)∧rise (ds.map (·.1))=true
 | [],_,_=>⟨ak,ak,rfl⟩
 |d::r,la,h=>by
  rw[ow]at h
  split at h
  ·cases h
  ·split at h
   ·cases h
   ·split at h
    ·rename_i h1 h2 h3;obtain⟨c,b,a⟩:=yL h;refine⟨λe he=>?_,λe he=>by simp at he;subst he;omega,?_⟩
     ·rcases Xr.1 he with rfl|he
      ·exact⟨a8,a8,h3⟩
      ·exact c e he
     ·rw[Xn,lG];refine⟨λy hy=>?_,a⟩;rw[List.head?_map]at hy;cases hr:r.head? with
      |none=>rw[hr]at hy;cases hy
      |some e=>rw[hr]at hy;obtain rfl:=Xo hy;exact b e hr
    ·rename_i h3;exact absurd h h3
theorem rR (h:qP fs ds=0) (c:dsz ds≤30000000) (e:(eQ fs ds).length≤2000000):iU fs ds:=by
 rw[qP]at h
 split at h
 ·cases h
 ·split at h
  ·cases h
  ·rename_i h1 h2;obtain⟨a,i2,b⟩:=yL h;refine⟨cC,a8,?_,b,λd hd=>(a d hd).2.1,λd hd=>(a d hd).2.2,c,e⟩;rw[ky];intro i x hx;rw[Xd]at hx;cases hd:ds[i]? with
   |none=>rw[hd]at hx;cases hx
   |some d=>rw[hd]at hx;obtain rfl:=Xo hx;exact(a d (Yj hd)).1
theorem L0 {s c:SV}{vs:List Val} [hg:Glb G H] [hf:Sl H s eF fs] [hv:Sl H c eVl vs] (g:fs.length≤1000000) (b:∀f∈fs,f.name.size≤1000000000) (a:vs.length≤1000000000) (e:∀v∈vs,v.2.size≤1000000000):SC G prog 91 [.agg #[s.val],c.val] H (λv d=>d=H∧((gl fs vs=0∧v=.nilIface)∨(gl fs vs≠0∧∃k,k<24∧v=G.err k))):=
 (Nk g b a e).mono λv d ⟨h1,h2⟩=>⟨h2,by
   subst h1
   by_cases h:gl fs vs=0
   ·exact .inl ⟨h,by rw[h];all_goals rfl⟩
   ·refine .inr ⟨h,?_⟩;unfold OB;rw[if_neg h]
    split
    ·exact⟨0,ae,rfl⟩
    ·split
     ·exact⟨4,ae,rfl⟩
     ·split
      ·exact⟨11,ae,rfl⟩
      ·exact⟨12,ae,rfl⟩⟩
theorem Ef {fv dv:SV}{l:List (Int×SV)} [hg:Glb G H] [Tab H 43 md] [Tab H 33 l7] [hf:Sl H fv eF fs] [hd:Sl H dv eD l] [Spc H] (hT:jt G) (J:nJ) (h:ew H l ds) (A:fs.length≤1000000) (n:∀f∈fs,f.name.size≤1000000000) (hn:ds.length≤1000000000) (F:∀d∈ds,d.2.length≤1000000000∧∀v∈d.2,v.2.size≤1000000000) (C:dsz ds≤30000000) (E:(eQ fs ds).length≤2000000):
 SC G prog 53 [.agg #[fv.val],dv.val] H (λv B=>(qP fs ds=0∧∃s:SV,v=.tuple #[s.val,.nilIface]∧B=Row s eB (xy fs ds)::H)∨(qP fs ds≠0∧∃k,k<24∧v=.tuple #[.slice none 0 0,G.err k]∧B=H)):=by
 have z:=h.1;refine sWk func53 ?_;refine gk (k:=bxx (k:=λb2=>?_));refine go ?_;refine c1_ rfl (vW (fs:=fs) a8 (λf hf=>by have:=n f hf;omega)) ?_;rintro _ _ ⟨rfl,(⟨t,rfl⟩|⟨t,rfl⟩)⟩
 ·refine e_ asn (on_ (qn_ (ws_ (wr_ (e_ mv ?_)))));refine e_ (de rfl) ?_;refine gk (k:=ift (k:=gR ?_));exact⟨_,hsb,.inr ⟨by rw[qP,if_pos t];decide,0,ae,rfl,rfl⟩⟩
 refine e_ asn (on_ (qn_ (ws_ (wr_ (e_ mv ?_)))));refine e_ (cK rfl) ?_;refine gk (k:=iff_ (k:=gW (λh1=>?_) (λh1=>?_)))
 ·have b:qP fs ds=3:=by rw[qP,if_neg (by rw[t];decide),if_pos a8]
  refine go ?_;refine cZ cN (gR ?_);exact⟨_,hsb,.inr ⟨by rw[b];decide,4,ae,rfl,rfl⟩⟩
 have b:qP fs ds=ow fs (-1) ds:=by rw[qP,if_neg (by rw[t];decide),if_neg a8]
 refine go ?_;refine gk (k:=wl2_ (Nat×Int) (λy=>y.1≤l.length∧ow fs (-1) ds=ow fs y.2 (ds.drop y.1)) (λy=>[(7,.int .i64 y.2),(22,iN y.1)]) [(1,_),(2,_),(20,_),(21,_)] (λy=>[]) _ (λy=>l.length-y.1) ((0, -1)) (h0:=?_) (k:=?_))
 ·exact⟨Yl _,rfl⟩
 rintro⟨i,la⟩ ⟨hi,a⟩
 try dsimp only[Yd,Ye]at*
 refine gW (λh2=>?_) λh2=>?_
 ·obtain⟨d,s,vs,hli,p,hsl⟩:=h.get (i:=i) a8;obtain⟨m,j⟩:=F _ (Yj p);rw[fE p,ow]at a;simp only at m j a;refine gk (k:=alc (k:=λb9=>?_));refine gk (k:=dz 4 34 (k:=λh3=>gk (k:=edq)) (q:=go ?_));refine gW (λh4=>?_) λh4=>?_
  ·rw[if_pos a8]at a;refine go ?_;refine cZ cN (go ?_);refine rT (k:=?_);exact⟨_,hsb,.inr ⟨by rw[b,a];decide,1,ae,rfl,rfl⟩⟩
  rw[if_neg a8]at a;refine gW (λK=>?_) λK=>?_
  ·rw[if_pos a8]at a;refine go ?_;refine cZ cN (go ?_);refine rT (k:=?_);exact⟨_,hsb,.inr ⟨by rw[b,a];decide,5,ae,rfl,rfl⟩⟩
  rw[if_neg a8]at a;refine go ?_;refine c2_ rfl (L0 A n m j) ?_;rintro _ _ ⟨rfl,(⟨e,rfl⟩|⟨e,k,hk,rfl⟩)⟩
  ·rw[if_pos e]at a;refine e_ asn (on_ (qn_ (ws_ (wr_ (e_ mv ?_)))));refine e_ (cK rfl) ?_;refine gk (k:=iff_ (k:=go ?_));refine lN ((i+1,d)) ?_
   exact⟨a8,a⟩
  rw[if_neg e]at a;refine e_ asn (on_ (qn_ (ws_ (wr_ (e_ mv ?_)))));refine e_ (de rfl) ?_;refine gk (k:=ift (k:=go ?_));refine gR ?_;exact⟨_,hsb,.inr ⟨by rw[b,a];exact e,k,hk,rfl,rfl⟩⟩
 obtain rfl:i=l.length:=a8;rw[z,X4]at a;have c:=rR (b.trans a) C E;have x:=c.size;have hfew:=c.few;refine go ?_;refine c2_ rfl (AN (ds:=ds) hT (h.less hsb) c.flen a8 c.q x) ?_;rintro _ _ ⟨g,lv,r,zs,rfl,w,rfl⟩;refine c1_ rfl (KX (r:=r) (l:=l) (zs:=zs) (fs:=fs) (ds:=ds) J c (h.less hsb) w) ?_;rintro _ _ ⟨u,rfl,rfl⟩;refine gR ?_;exact⟨_,hsb,.inl ⟨b.trans a,u,rfl,rfl⟩⟩
end
section
variable {bl:List (Nat×List Nat)}
theorem Qr {xs:List Nat}(d:∀x∈xs,x<256) (h:kd 83 xs=some bl):∀q∈bl,(∀x∈q.2,x<256)∧q.2.length≤xs.length:=by
 obtain⟨c,_,b⟩:=zD d h;have h1:=congrArg List.length c;rw[tn]at h1;exact λq a=>⟨(b q a).2,by have:=pQ a;omega⟩
theorem oo.at6 {F:cG}{l:List (Nat×SV)}(h:oo F l bl){i:Nat}(hi:i<bl.length):∃(p:Nat×SV) (q:Nat×List Nat),l[i]? =some p∧bl[i]? =some q∧Sl F p.2 eB q.2:=by
 obtain⟨p,hp⟩:∃p,l[i]? =some p:=⟨_,Yi (by rw[h.1];exact hi)⟩;obtain⟨q,a⟩:∃q,bl[i]? =some q:=⟨_,Yi hi⟩;exact⟨p,q,hp,a,(h.2 i p q hp a).2⟩
end
section
variable {H' R:cG}{c:CuS}{ns:List z7}
def eLf:Enc (Int×ByteArray):=⟨λp=>[.int .i64 p.1,.string p.2],2,true,λ_=>rfl,λp v h=>by simp at h;rcases h with rfl|rfl <;> rfl,ae,λh=>aI,ae⟩
abbrev NrV:=SV×SV×Int
def eNr:Enc NrV:=⟨λp=>[p.1.val,p.2.1.val,.int .i64 p.2.2],3,true,λ_=>rfl,λp v h=>by simp at h;rcases h with rfl|rfl|rfl <;> rfl,ae,λh=>aI,ae⟩
structure PrA where
 av:SV
 cu:SV
 ne:SV
 dr:SV
 co:SV
 nz:List NrV
def Dr (H:cG) (zs:List NrV) (ns:List z7):Prop:=zs.length=ns.length∧∀(i:Nat) (z:NrV) (n:z7),zs[i]? =some z→ns[i]? =some n→Sl H z.1 eI n.cs∧Sl H z.2.1 eI n.offs∧z.2.2=n.slop
theorem Dr.less {H:cG}{zs:List NrV}(hs:cH H' H) (h:Dr H zs ns):Dr H' zs ns:=⟨h.1,λi z n a b=>by
 obtain⟨h1,h2,h3⟩:=h.2 i z n a b;exact⟨dj hs h1,dj hs h2,h3⟩⟩
theorem Dr.get {H:cG}{zs:List NrV}(h:Dr H zs ns){i:Nat}(hi:i<ns.length):∃z n,zs[i]? =some z∧ns[i]? =some n∧Sl H z.1 eI n.cs∧Sl H z.2.1 eI n.offs∧z.2.2=n.slop:=by
 have a:i<zs.length:=by rw[h.1];exact hi
 have h1:zs[i]? =some zs[i]:=Yi a;have h2:ns[i]? =some ns[i]:=Yi hi;exact⟨_,_,h1,h2,h.2 i _ _ h1 h2⟩
class Dq (H:cG) (a:PrA) (p:outParam PrG):Prop where
 av:Sl H a.av eI p.avgs
 cu:Sl H a.cu eLf p.curs
 ne:Sl H a.ne eNr a.nz
 nr:Dr H a.nz p.nears
 dr:Sl H a.dr eI p.drive
class MK (H:cG) (a:PrA) (p:outParam PrG):Prop where
 co:Sl H a.co eB p.code
section
variable {H:cG}{a:PrA}{p:PrG}
instance Dq.tail {A:Hp} [h:Dq H a p]:Dq (A::H) a p:=⟨@Sl.tail _ _ _ _ _ _ h.av, @Sl.tail _ _ _ _ _ _ h.cu, @Sl.tail _ _ _ _ _ _ h.ne,h.nr.less (cH.drop cH.refl), @Sl.tail _ _ _ _ _ _ h.dr⟩
instance MK.tail {A:Hp} [h:MK H a p]:MK (A::H) a p:=⟨@Sl.tail _ _ _ _ _ _ h.co⟩
theorem Dq.less (hs:cH H' H) (h:Dq H a p):Dq H' a p:=⟨dj hs h.av,dj hs h.cu,dj hs h.ne,h.nr.less hs,dj hs h.dr⟩
end
structure PtA where
 p:Nat
 g:Nat
 d:Nat
 w:Nat
 fv:SV
 dv:SV
 lv:SV
 ev:SV
 bl:SV
 im:SV
 ws:SV
 cnt:Nat
 l:List (Int×SV)
 lvs:List SV
structure PtD where
 fs:List FV
 ds:List Doc
 dw:List Nat
class dT (H:cG) (a:PtA) (q:outParam PtD):Prop where
 p:cY H a.p [.pointer (some ⟨a.g,0,none⟩),.pointer (some ⟨a.d,0,none⟩)]
 g:cY H a.g [a.fv.val,a.dv.val,a.lv.val,.pointer (some ⟨a.w,0,none⟩),a.bl.val,a.im.val]
 d:cY H a.d [.int .i64 ((q.ds.length:Nat):Int),.int .i64 ((a.cnt:Nat):Int),a.ws.val]
 w:cY H a.w [a.ev.val]
 fv:Sl H a.fv eF q.fs
 dv:Sl H a.dv eD a.l
 docs:ew H a.l q.ds
 lv:Sl H a.lv eSV a.lvs
 lens:a.lvs.length=q.fs.length∧∀i s,a.lvs[i]? =some s→Sl H s eI (cP (et q.fs q.ds i))
 ev:Sl H a.ev eEn (gD 0 (dq (eQ q.fs q.ds)))
 bl:Sl H a.bl eB (dI (dq (eQ q.fs q.ds)))
 ws:Sl H a.ws eW q.dw
section
variable {H:cG}{a:PtA}{q:PtD}
theorem jD {b:Nat}{l:List Value}(hs:cH H' H) (h:cY H b l):cY H' b l:=⟨λL hL=>by
 obtain⟨a,M,h1,h2⟩:=hs L hL;obtain⟨E,fz,hm⟩:=h.mem a h1;exact⟨E,fz,h2.mem_iff.1 (Yy M hm)⟩⟩
theorem dT.less (hs:cH H' H) (h:dT H a q):dT H' a q:=⟨jD hs h.p,jD hs h.g,jD hs h.d,jD hs h.w,dj hs h.fv,dj hs h.dv,h.docs.less hs,dj hs h.lv,⟨h.lens.1,λi s hi=>dj hs (h.lens.2 i s hi)⟩,dj hs h.ev,dj hs h.bl,dj hs h.ws⟩
instance dT.tail {A:Hp} [h:dT H a q]:dT (A::H) a q:=h.less (cH.drop cH.refl)
instance [h:dT H a q]:cY H a.p [.pointer (some ⟨a.g,0,none⟩),.pointer (some ⟨a.d,0,none⟩)]:=h.p
instance [h:dT H a q]:cY H a.g [a.fv.val,a.dv.val,a.lv.val,.pointer (some ⟨a.w,0,none⟩),a.bl.val,a.im.val]:=h.g
instance [h:dT H a q]:cY H a.d [.int .i64 ((q.ds.length:Nat):Int),.int .i64 ((a.cnt:Nat):Int),a.ws.val]:=h.d
instance [h:dT H a q]:cY H a.w [a.ev.val]:=h.w
instance [h:dT H a q]:Sl H a.fv eF q.fs:=h.fv
instance [h:dT H a q]:Sl H a.dv eD a.l:=h.dv
instance [h:dT H a q]:Sl H a.lv eSV a.lvs:=h.lv
instance [h:dT H a q]:Sl H a.ev eEn (gD 0 (dq (eQ q.fs q.ds))):=h.ev
instance [h:dT H a q]:Sl H a.bl eB (dI (dq (eQ q.fs q.ds))):=h.bl
instance [h:dT H a q]:Sl H a.ws eW q.dw:=h.ws
end
def LPh (lp:Option Nat) (im sk:SV) (ps:List Po):Hp:=match lp with
 |none=>gO []
 |some b=>gO [Vr b [im.val,.int .i64 ((ps.length:Nat):Int),.int .i64 ((dn ps:Nat):Int),sk.val],Row im eB (dD ps),Row sk eSk (fS ps)]
section
variable {H:cG}{b:Nat}{im sk:SV}{ps:List Po}
theorem CN {F:cG}{l:List Value} [h:cY F b l]:cY (gO F::H) b l:=⟨λL hL=>by
 obtain⟨L1,L2,rfl,h1,_⟩:=sH hL;obtain⟨E,fz,hm⟩:=h.mem L1 h1;exact⟨E,fz,Yy _ hm⟩⟩
instance:cY (LPh (some b) im sk ps::H) b [im.val,.int .i64 ((ps.length:Nat):Int),.int .i64 ((dn ps:Nat):Int),sk.val]:=CN (F:= [Vr b [im.val,.int .i64 ((ps.length:Nat):Int),.int .i64 ((dn ps:Nat):Int),sk.val],Row im eB (dD ps),Row sk eSk (fS ps)])
instance:Sl (LPh (some b) im sk ps::H) im eB (dD ps):=Sl.star (F:= [Vr b [im.val,.int .i64 ((ps.length:Nat):Int),.int .i64 ((dn ps:Nat):Int),sk.val],Row im eB (dD ps),Row sk eSk (fS ps)])
instance:Sl (LPh (some b) im sk ps::H) sk eSk (fS ps):=Sl.star (F:= [Vr b [im.val,.int .i64 ((ps.length:Nat):Int),.int .i64 ((dn ps:Nat):Int),sk.val],Row im eB (dD ps),Row sk eSk (fS ps)])
end
structure CuA where
 lp:Option Nat
 im:SV
 sk:SV
 rd:SV
 zs:List PG
 blk:Int
def BQ (ps:List Po) (zs:List PG) (blk:Int):Prop:=blk= -1∨∃k:Nat,blk=(k:Int)∧zs.map pgP=dg ps k
def Hg (c:CuS) (x:CuA):Prop:=om c∧(x.lp=none→c.ps= [])∧BQ c.ps x.zs x.blk
def lpV (lp:Option Nat):Value:=.pointer (lp.map λb=>⟨b,0,none⟩)
instance {lp:Option Nat}:rz (lpV lp):=⟨rfl⟩
def CuH (b:Nat) (c:CuS):Hp:=λL=>∃x:CuA,Hg c x∧Sep [Vr b [.int .i64 (m5 c.ps c.u),.int .i64 ((c.mv:Nat):Int),lpV x.lp,.int .i64 (((c.u:Nat):Int)-1),.int .i64 x.blk,x.rd.val,.bool c.told],LPh x.lp x.im x.sk c.ps,Row x.rd ePo (x.zs.map pgV),Cl pgH x.zs] L
theorem yI {b:Nat}{x:CuA}(h:Hg c x):cH (Vr b [.int .i64 (m5 c.ps c.u),iN c.mv,lpV x.lp,.int .i64 (((c.u:Nat):Int)-1),.int .i64 x.blk,x.rd.val,.bool c.told]::LPh x.lp x.im x.sk c.ps::Row x.rd ePo (x.zs.map pgV)::Cl pgH x.zs::R) (CuH b c::R):=λL hL=>by
 obtain⟨L1,L2,rfl,h1,h2⟩:=mr (F:= [Vr b [.int .i64 (m5 c.ps c.u),iN c.mv,lpV x.lp,.int .i64 (((c.u:Nat):Int)-1),.int .i64 x.blk,x.rd.val,.bool c.told],LPh x.lp x.im x.sk c.ps,Row x.rd ePo (x.zs.map pgV),Cl pgH x.zs]) hL;exact⟨L1++L2, [],⟨L1,L2,rfl,⟨x,h,h1⟩,h2⟩,ak⟩
section
variable {G:cJ}{P:Program}{N:Nat}{Q:Go.Sx.Post}{t:Tm}{H:cG}{ops:Array Oper}{l:List Oper}
theorem Lq {b:Nat}(hr:Rem H CuH b c R){w:World}(a:Sat G w H):∃x:CuA,Hg c x∧Sat G w (Vr b [.int .i64 (m5 c.ps c.u),iN c.mv,lpV x.lp,.int .i64 (((c.u:Nat):Int)-1),.int .i64 x.blk,x.rd.val,.bool c.told]::LPh x.lp x.im x.sk c.ps::Row x.rd ePo (x.zs.map pgV)::Cl pgH x.zs::R):=by
 obtain⟨d,L,hL,hl⟩:=hr.sat a;obtain⟨L1,L2,rfl,⟨x,hx,h1⟩,h2⟩:=hL;exact⟨x,hx,d,L1++L2,pw h1 h2,hl⟩
theorem Fe (b:Nat) [hr:Rem H CuH b c R] (h:∀(lp:Option Nat) (im sk rd:SV) (zs:List PG) (blk:Int),om c→(lp=none→c.ps= [])→BQ c.ps zs blk→O G P N ops l Q t (Vr b [.int .i64 (m5 c.ps c.u),iN c.mv,lpV lp,.int .i64 (((c.u:Nat):Int)-1),.int .i64 blk,rd.val,.bool c.told]::LPh lp im sk c.ps::Row rd ePo (zs.map pgV)::Cl pgH zs::R)):O G P N ops l Q t H:=
 ⟨λa w ha d=>by
   obtain⟨x,⟨h1,h2,h3⟩,h4⟩:=Lq hr d;exact(h x.lp x.im x.sk x.rd x.zs x.blk h1 h2 h3).go a w ha h4⟩
end
end
section
variable {b k:Nat}{ps:List Po}
theorem KY {G:cJ}{H R:cG}{im:SV} [hg:Glb G R] [hr:Rem H Vr b [im.val,.int .i64 0,.int .i64 0,.slice none 0 0] R] [hi:Sl R im eB (dD ps)] (s:gJ 0 ps) (hsm:eG ps) (hn:(dD ps).length≤10000000000):SC G prog 183 [pA b] H (λv H'=>∃Z:SV,v=.bool true∧H'=Vr b [im.val,iN ps.length,iN (dn ps),Z.val]::Row Z eSk (fS ps)::R):=by
 have M:=yw hsm;have hto:=ta s;have N:=BA ps;have hpl:=hsm.1;obtain⟨xs,c⟩:=ex (dD ps);have hi2:Sl R im eB xs:=by rw[c];exact hi
 clear hi;rw[←c]at M N hn;obtain⟨B,w⟩:=ex (dC ps);have hB16:ps.length≤16*B∧16*B≤ps.length+15:=by rw[w];unfold dC;omega
 obtain⟨A,hA⟩:=ex ((uv ps.length).length+(uv (dn ps)).length);have V:j4 0 (xs.drop 0)=.ok (ps.length,(uv ps.length).length):=by rw[Vi,c,tM];exact vY _ a8
 have U:j4 0 (xs.drop (0+(uv ps.length).length))=.ok (dn ps,(uv (dn ps)).length):=by rw[Vf,c,tM,Xy];exact vY _ a8
 have hlen:A+(cM ps B).2.1.length≤xs.length:=by rw[c,tM,hA,w];simp only[Ya];omega
 have t:kH ps 0=A+(cM ps B).2.1.length:=by rw[kH,Bp,hA,w];simp[cM]
 have hoffB:kH ps B=xs.length:=by rw[w,IB,c]
 refine SC.rem (h:=hr) ?_;refine sWk func183 ?_;refine go ?_;refine c1_ rfl (jB (xs:=xs) a8) ?_;rintro _ _ ⟨br,rfl,rfl⟩;refine go ?_;refine d1_ rfl (DY a8 a8 M V) (e_ mv (e_ exr (e_ exr (e_ asn (e_ asn (on_ (qn_ (ws_ (ws_ (wr_ (e_ mv ?_)))))))))));refine e_ (cK rfl) (go ?_);refine eg_ (fH rfl rfl _ 16 rfl rfl a8 (by first|decide|(show _≤(18446744073709551615:Int);omega))) ?_;refine eg_ mv (eg_ nck (eg_ fla (eg_ ldv (eg_ lnn ?_))));refine eg_ ((ab)) ?_;refine gW (λh1=>?_) λh1=>?_
 ·exact absurd h1 a8
 refine go ?_;refine d1_ rfl (DY a8 a8 M U) ?_;rw[Vf,←hA];refine e_ mv (e_ exr (e_ exr (e_ asn (e_ asn (on_ (qn_ (ws_ (ws_ (wr_ (e_ mv ?_))))))))));refine e_ (cK rfl) ?_;refine e_ mv (eg_ mv (eg_ mv (eg_ nck (eg_ fla (eg_ ldv (eg_ lnn ?_))))));refine eg_ ((ab)) ?_;refine gW (λh2=>?_) λh2=>?_
 ·exact absurd h2 a8
 refine wk_ (qn_ (ws_ (wr_ (e_ mv (e_ mv (e_ mv ?_))))));refine e_ (dL rfl a8) ?_;refine e_ mv ?_;refine e_ (dL rfl a8) ?_;refine e_ nck (e_ fla (sto (k:=e_ nck (e_ fla (sto (k:=on_ (qn_ (ws_ (ws_ (wr_ ?_))))))))));refine eN (cH.nilRow (e:=eSk) cH.refl) ?_;rw[show Row SV.nil eSk ([]:List Sk)=Row SV.nil eSk (n6 ps 0)from rfl];refine gk (k:=wl2_ (Nat×Nat×SV) (λy=>y.1=16*y.2.1∧y.2.1≤B) (λy=>[(7,iN y.1)]) [(0,_),(3,_)] (λy=>[Vr b [im.val,iN ps.length,iN (dn ps),y.2.2.val],Row y.2.2 eSk (n6 ps y.2.1),Rd br (xs,A+(cM ps y.2.1).2.1.length)]) _ (λy=>B-y.2.1) ((0,0,SV.nil)) (h0:=?_) (k:=?_))
 ·exact⟨rfl,Yl _⟩
 rintro⟨i,k,u⟩ ⟨hi,hk⟩
 try dsimp only[Yd,Ye]at*
 refine gW (λh3=>?_) λh3=>?_
 ·have hkB:k<B:=by omega
  have g:k<dC ps:=a8;have hnb:=rJ s g;have hnb6:=(j5 hsm (k+1)).2.2;have p:(cM ps (k+1)).1=dZ (cM ps k).1 (dg ps k):=rfl;obtain⟨r,d⟩:=D6 ps g;rw[←p,←hA,←c]at d;obtain⟨_,f⟩:=o7 ps g;rw[←c]at f;have hbn:=m9 g;obtain⟨x,L⟩:=ex ((cM ps (k+1)).1-1-(cM ps k).1);rw[←L]at d;obtain⟨K,Y⟩:=ex (A+(cM ps k).2.1.length);rw[←Y]at d;have T:xs.drop (K+(uv x).length)=uv (gB ps k)++r:=by rw[←Vm,d,Xy]
  have S:=congrArg List.length d;rw[Yo,Ya,Ya]at S;have hu1:=oC x;have E:fZ 2147483647 (xs.drop K)=.ok (x,(uv x).length):=by rw[d];exact eO _ a8 a8
  have C:fZ xs.length (xs.drop (K+(uv x).length))=.ok (gB ps k,(uv (gB ps k)).length):=by rw[T];exact eO _ a8 a8
  have m:=pq ps k;have X:K+(uv x).length+(uv (gB ps k)).length=A+(cM ps (k+1)).2.1.length:=by
   simp only[cM,Ya];rw[←p,←L,Y];simp only[gB];omega
  rw[←Y];refine wk_ (qn_ (ws_ (wb_ (ws_ (wr_ (e_ mv (e_ mv (e_ nck (e_ fla (e_ ldv ?_))))))))));refine e_ (evq lnn (congrArg (λn:Nat=>iN n) m)) ?_;refine d2_ rfl (zo (l:=n6 ps k) (nb:=(cM ps k).1) a8 (Lm s (k:=k) a8)) (go ?_);refine d2_ rfl (rD (most:=2147483647) a8 a8 M a8 E) (e_ mv (e_ exr (e_ exr (e_ asn (e_ asn (on_ (qn_ (ws_ (ws_ (wr_ (e_ mv ?_)))))))))));refine e_ (cK rfl) ?_;refine gW (λh4=>?_) λh4=>?_
  ·exact absurd h4 a8
  refine go ?_;refine d2_ rfl (rD (most:=xs.length) a8 a8 M a8 C) ?_;rw[X];refine e_ mv (e_ exr (e_ exr (e_ asn (e_ asn (on_ (qn_ (ws_ (ws_ (wr_ (e_ mv ?_))))))))));refine e_ (cK rfl) ?_;refine gk (k:=iff_ (k:=go ?_));refine wD [18,19,22] (λk H=>(k=4→cY H b [im.val,iN ps.length,iN (dn ps),u.val])∧(k=12→cY H b [im.val,iN ps.length,iN (dn ps),u.val])) (aF 0 (k:=aF 1 (k:=aF 2 (k:=aF 3 (k:=?_)))));refine aN 4 rfl (λH hH=>aw) ?_;refine aF 5 (k:=aF 6 (k:=aF 7 (k:=?_)));refine aN 8 rfl (λH hH=>evq iad (congrArg (Value.int .i64) (show _=(((cM ps (k+1)).1-1:Nat):Int)from a8))) ?_;refine aF 9 (k:=aF 10 (k:=aF 11 (k:=?_)));refine aN 12 rfl (λH hH=>aV) ?_;refine aF 13 (k:=aF 14 (k:=?_));refine aN 15 rfl (λH hH=>evq (lr rfl rfl) (congrArg (Value.int .i64) (show _=(((dg ps k).length:Nat):Int)from a8))) ?_;refine aF 16 (k:=af_ 17 (q:=cU λH hH=>bld [(0,_),(1,_),(3,_)]) (k:=?_));refine aS 18 rfl (eC eSk rfl rfl) ?_;rintro _ _ ⟨s123,rfl,rfl⟩;refine aS 19 rfl (fw rfl rfl rfl rfl af af) ?_;rintro _ _ ⟨z,rfl,rfl⟩;rw[show n6 ps k++ [((cM ps (k+1)).1-1,(dg ps k).length,0,gB ps k)]=n6 ps (k+1)from(Ck ps k).symm];refine go ?_;refine aS 22 rfl (db rfl rfl rfl) ?_;rintro _ _ ⟨rfl,rfl⟩;refine aZ (go ?_);refine lN ((i+16,k+1,z)) ?_
  exact⟨a8,a8⟩
 obtain rfl:k=B:=a8;have m:=pq ps k;refine go ?_;refine d1_ rfl sM ?_;rw[←t,show n6 ps k=skM ps 0 from by rw[w,NI]];refine e_ asn (on_ (qn_ (ws_ (ws_ (wr_ (e_ mv (e_ nck (e_ fla (e_ ldv ?_)))))))));have F:=vV (l:=ps) (i:=0) (Yl _);refine e_ (evq lnn (congrArg (λn:Nat=>iN n) (F.trans w.symm))) ?_;refine gk (k:=wl2_ Nat (λy=>y≤k) (λy=>[(12,iN (kH ps y)),(136,iN y)]) [(0,_),(135,_)] (λy=>[Row u eSk (skM ps y)]) _ (λy=>k-y) (0) (h0:=?_) (k:=?_))
 ·exact Yl _
 rintro i hik
 try dsimp only[Yd,Ye]at*
 refine gW (λh5=>?_) λh5=>?_
 ·have j:i<dC ps:=by omega
  have F:=vV (l:=ps) (i:=i) a8;have hml1:=vV (l:=ps) (i:=i+1) a8;have J:=Ig j;have hos:=F8 ps i;obtain⟨_,f⟩:=o7 ps j;rw[←c]at f;refine go ?_;refine s_ (qZ (o:=2) (a:=kh ps i) rfl rfl rfl (sk0 ps i) (Ih j) ae rfl) ?_;rintro _ _ ⟨rfl,rfl⟩;rw[Ie j];refine go ?_;refine cZ cN (as_ 0 (q:=mv) (k:=as_ 1 (q:=nck) (k:=as_ 2 (q:=fla) (k:=as_ 3 (q:=ldv) (k:=as_ 4 (q:=mv) (k:=as_ 5 (q:=ixa) (k:=as_ 6 (q:=fle) (k:=as_ 7 (q:=lfl (hy:=J)) (k:=as_ 8 (q:=mv) (k:=as_ 9 (q:=nck) (k:=as_ 10 (q:=fla) (k:=as_ 11 (q:=ldv) (k:=as_ 12 (q:=lnn) (k:=?_))))))))))))));refine gW (λh6=>?_) λh6=>?_
  ·exact absurd h6 (by show ¬_;simp only[kh];omega)
  refine wk_ (qn_ (wr_ (e_ mv (e_ mv (e_ nck (e_ fla (e_ ldv (e_ mv (e_ ixa (e_ fle (e_ (lfl (hy:=J)) ?_)))))))))));refine e_ (evq iad (congrArg (Value.int .i64) (show((kH ps i:Nat):Int)+((gB ps i:Nat):Int)=((kH ps (i+1):Nat):Int)from a8))) (go ?_);refine lN (i+1) ?_
  try dsimp only
  omega
 obtain rfl:i=k:=a8;rw[show skM ps i=fS ps from by rw[w,Ii]];refine we_ (qe_ (le_ (bh_ (qn_ (ws_ (wr_ (e_ mv (e_ mv (e_ nck (e_ fla (e_ ldv (e_ lnn ?_))))))))))));refine e_ (evq ieq (congrArg Value.bool (Ys a8))) ?_;refine gR ?_;exact⟨_,hsb,u,rfl,rfl⟩
theorem DO:dn (ps.take (16*(k+1)))=dn (ps.take (16*k))+dn (dg ps k):=by rw[←jH,jT]
theorem GM {l:List Po}(h:gJ 0 l) (hk:k<dC l){p:Po}(hp:(dg l k)[(dg l k).length-1]? =some p):p.1+1=(cM l (k+1)).1:=by
 have h2:=(m9 hk).1;have:(dg l k).getLast? =some p:=by rw[List.getLast?_eq_getElem?];exact hp
 show p.1+1=dZ (cM l k).1 (dg l k);rw[dZ,this]
theorem O4 {im sk:SV}{R:cG}:cH (Vr b [im.val,iN ps.length,iN (dn ps),sk.val]::Row im eB (dD ps)::Row sk eSk (fS ps)::R) (LPh (some b) im sk ps::R):=cH.star (F:= [Vr b [im.val,iN ps.length,iN (dn ps),sk.val],Row im eB (dD ps),Row sk eSk (fS ps)]) cH.refl
theorem KF {G:cJ}{H:cG}{s:SV}{ps:List Po} [hg:Glb G H] [hs:Sl H s eB (dD ps)] (hok:gJ 0 ps) (hsm:eG ps) (hn:(dD ps).length≤10000000000):SC G prog 110 [s.val] H (λv H'=>∃(b:Nat) (im sk:SV),v=.tuple #[pA b,.nilIface]∧H'=LPh (some b) im sk ps::H):=by
 have hto:=ta hok;have hte:=BA ps;have hsl:=jz ps;obtain⟨B,hB⟩:=ex (dC ps);have hB16:ps.length≤16*B∧16*B≤ps.length+15:=by rw[hB];unfold dC;omega
 refine sWk func110 ?_;refine gk (k:=fX eSV (k:=λs13=>?_));refine c1_ rfl (rQ (xs:=dD ps) (a8)) (k:=?_);rintro _ _ ⟨im,rfl,rfl⟩;refine e_ (bld [(0,_)]) (k:=bxx (k:=λb16=>?_));refine go ?_;refine c1_ rfl (KY hok hsm hn) (k:=?_);rintro _ _ ⟨sk,rfl,rfl⟩;refine gk (k:=iff_ (k:=go ?_));refine gk (k:=wl2_ (Nat) (λy=>y≤B) (λy=>[(5,iN (dn (ps.take (16*y)))),(26,iN y)]) [(4,_),(24,_),(25,_)] (λy=>[]) _ (λy=>B-y) (0) (h0:=?_) (k:=?_))
 ·try dsimp only
  exact Yl _
 rintro kb hk
 try dsimp only[Yd,Ye]at*
 refine gW (λh1=>?_) (λh1=>?_)
 ·have hkb:kb<dC ps:=by omega
  have hget:=lD hkb;obtain⟨hpc,hpl⟩:=o7 ps hkb;have hb1:=kV hok kb;have hb2:=m8 hsm kb;have hb3:=m9 hkb;have hnb:=(j5 hsm kb).2.2;have hnb1:=(j5 hsm (kb+1)).2.2;have hst:=rJ hok hkb;have hcut:∀(H2:cG) [Sl H2 im eB (dD ps)],Sl H2 (im.cut3 1 (kh ps kb).2.2.1 ((kh ps kb).2.2.1+(kh ps kb).2.2.2) ((kh ps kb).2.2.1+(kh ps kb).2.2.2)) eB (kc (cM ps kb).1 (dg ps kb)):=λH2 hi=>by
   have:=Sl.cut3 hi (lo:=kH ps kb) (hi:=kH ps kb+gB ps kb) (a8) hpl;rw[hpc]at this;exact this
  have hs1:(kh ps kb).1=(cM ps (kb+1)).1-1:=rfl;have hs2:(kh ps kb).2.1=(dg ps kb).length:=rfl;have htb:=DO (ps:=ps) (k:=kb);have htl:=kg ps (16*kb);have htl1:=kg ps (16*(kb+1));refine wk_ (qn_ (ws_ (wb_ (ws_ (wr_ (e_ mv (k:=e_ ixa (k:=e_ (od (hy:=hget)) (k:=alc (k:=λb7=>?_))))))))));refine go ?_;refine wD [8] (λk H=>(k=2→cY H b16 [im.val,iN ps.length,iN (dn ps),sk.val]∧Sl H sk eSk (fS ps)∧Sl H im eB (dD ps))∧(k=5→cY H b16 [im.val,iN ps.length,iN (dn ps),sk.val]∧Sl H sk eSk (fS ps))∧(k=7→cY H b7 [iN ((kh ps kb).1),iN ((kh ps kb).2.1),iN ((kh ps kb).2.2.1),iN ((kh ps kb).2.2.2)])) (aF 0 (k:=aF 1 (k:=?_)));refine cO 2 rfl rfl (aa) rfl (λH hH=>by have hN:=hH.1 rfl;obtain⟨n1,n2,n3⟩:=hN;exact v2_ (AK (l:=fS ps) (e:=kh ps kb) hget hpl hn)) (?_);refine aF 3 (k:=aF 4 (k:=?_));refine cO 5 rfl rfl (aa) rfl (λH hH=>by have hN:=hH.2.1 rfl;obtain⟨n1,n2⟩:=hN;exact dy (vs:= [_,_]) rfl (zo (l:=fS ps) (nb:=(cM ps kb).1) (a8) (JS hok (a8)))) (?_);refine aF 6 (k:=?_);refine go ?_;refine jR 8 rfl (aa) rfl (λk hk=>⟨λhi=>ag,λhi=>ag,λhi=>ag⟩) (dy (vs:= [_,_,_]) rfl (AI (nb:=(cM ps kb).1) (l:=dg ps kb) hb1 hb2 (a8) hnb)) ?_;rintro _ _ ⟨sl,zs,hzs,rfl,rfl⟩;have hzl:zs.length=(dg ps kb).length:=by rw[←hzs,Yh]
  have hzv:(zs.map pgV).length=(dg ps kb).length:=by rw[Yh,hzl]
  obtain⟨z,hz⟩:=gE zs ((dg ps kb).length-1);have hzV:(zs.map pgV)[(dg ps kb).length-1]? =some (z.d,z.s):=by rw[Xd,hz];all_goals rfl
  have hzb:(zs.map pgP)[(dg ps kb).length-1]? =some (pgP z):=by rw[Xd,hz];all_goals rfl
  rw[hzs]at hzb;have hzd:z.d+1=(cM ps (kb+1)).1:=GM hok hkb hzb;refine aF 9 (k:=aF 10 (k:=aF 11 (k:=aF 12 (k:=aF 13 (k:=aZ (qn_ (ws_ (ws_ (?_)))))))));refine cZ cN (as_ 0 (q:=mv) (k:=as_ 1 (q:=jq) (k:=as_ 2 (q:=mv) (k:=at2 3 (q:=mv) (k:=at2 4 (q:=fla) (k:=at2 5 (q:=ldv) (k:=?_)))))));refine fg 6 rfl rfl rfl rfl (aa) rfl (df (evq isb (congrArg (Value.int .i64) (show _=(((dg ps kb).length-1:Nat):Int)from a8)))) (?_);refine at2 7 (q:=ixa) (k:=at2 8 (q:=fle) (k:=at2 9 (q:=lfl (hy:=hzV)) (k:=at2 10 (q:=fla) (k:=at2 11 (q:=ldv) (k:=at2 12 (q:=ine) (k:=as_ 13 (q:=pkf) (k:=az_ (k:=qn_ (wi_ (k:=λh2=>?_) (m:=λh2=>?_))))))))))
  ·exact absurd h2 (a8)
  refine gk (k:=wl2_ (Nat) (λy=>y≤zs.length) (λy=>[(5,iN (dn (ps.take (16*kb))+dn ((dg ps kb).take y))),(60,iN y)]) [(4,_),(24,_),(25,_),(26,_),(58,_),(59,_)] (λy=>[]) _ (λy=>zs.length-y) (0) (h0:=?_) (k:=?_))
  ·try dsimp only
   exact Yl _
  rintro j hj
  try dsimp only[Yd,Ye]at*
  refine gW (λh3=>?_) (λh3=>?_)
  ·obtain⟨y,hy⟩:=gE zs j;have hyV:(zs.map pgV)[j]? =some (y.d,y.s):=by rw[Xd,hy];all_goals rfl
   have hyP:(dg ps kb)[j]? =some (pgP y):=by rw[←hzs,Xd,hy];all_goals rfl
   have hyt:=nQ hyP;have htj:=kg (dg ps kb) (j+1);have hys:∀H2:cG,Sl (Cl pgH zs::H2) y.s eI (cP y.pos):=λH2=>dj (pF hy) inferInstance;have hyl:=dJ y.pos;have hyp:(pgP y).2=y.pos:=rfl;rw[hyp]at hyt;refine wk_ (qn_ (ws_ (wb_ (ws_ (wr_ (e_ ixa (k:=e_ (od (hy:=hyV)) (k:=alc (k:=λb11=>?_)))))))));refine sto (k:=on_ (qn_ (wr_ (e_ mv (k:=e_ fla (k:=e_ ldv (k:=e_ lnn (k:=?_))))))));refine e_ (evq iad (congrArg (Value.int .i64) (show _=((dn (ps.take (16*kb))+dn ((dg ps kb).take (j+1)):Nat):Int)from a8))) (k:=?_);refine go ?_;refine ln_ (j+1) (k:=?_)
   try dsimp only
   omega
  obtain rfl:j=zs.length:=a8;rw[show dn (ps.take (16*kb))+dn ((dg ps kb).take zs.length)=dn (ps.take (16*(kb+1)))from by rw[hzl,Xk,htb]];refine go ?_;refine ln_ (kb+1) (k:=?_)
  try dsimp only
  omega
 obtain rfl:kb=B:=a8;rw[show dn (ps.take (16*kb))=dn ps from by rw[hB,mU]];refine go ?_;refine gW (λh4=>?_) (λh4=>?_)
 ·(first|exact absurd rfl h4|exact(h4).elim|simp at h4)
 refine gR ?_;exact⟨LPh (some b16) im sk ps::H,cH.trans (H':=Vr b16 [im.val,iN ps.length,iN (dn ps),sk.val]::Row im eB (dD ps)::Row sk eSk (fS ps)::H) (hsb) O4,b16,im,sk,rfl,rfl⟩
end
section
variable {G:cJ}{H:cG}{b q:Nat}{lp:Option Nat}{ps:List Po}{v0 v3:Value}{zs:List PG}
theorem H5 {P:Program}{f:FuncId}{args:List Value}{H':cG}{K:Value→cG→Prop}(hs:cH H H') (h:SC G P f args H' K):SC G P f args H K:=h.heap λw a=>hs.sat a
theorem KD {n:Int}{a:Value} [cY H b [v0,.int .i64 n,a,v3]]:SC G prog 111 [pA b] H (λv c=>v=.int .i64 n∧c=H):=by
 refine sWk func111 ?_;refine go ?_;exact gZ
class Du (H:cG) (lp:Option Nat) (im sk:outParam SV) (ps:outParam (List Po)):Prop where
 at_:∀p,lp=some p→cY H p [im.val,.int .i64 ((ps.length:Nat):Int),.int .i64 ((dn ps:Nat):Int),sk.val]∧Sl H im eB (dD ps)∧Sl H sk eSk (fS ps)
instance {H:cG}{lp:Option Nat}{im sk:SV}{ps:List Po}:Du (LPh lp im sk ps::H) lp im sk ps:=⟨λp hp=>by subst hp;exact⟨inferInstance,inferInstance,inferInstance⟩⟩
instance Du.tail {A:Hp}{H:cG}{lp:Option Nat}{im sk:SV}{ps:List Po} [h:Du H lp im sk ps]:Du (A::H) lp im sk ps:=⟨λp hp=>by
 obtain⟨h1,h2,h3⟩:=h.at_ p hp
 exact⟨inferInstance,inferInstance,inferInstance⟩⟩
theorem Ec {im sk:SV}{g f e d:Value} [cY H b [v0,g,lpV lp,v3,f,e,d]] [hl:Du H lp im sk ps] (h:lp=none→ps= []):SC G prog 68 [pA b] H (λv i=>v=iN ps.length∧i=H):=by
 refine sWk func68 ?_;refine ws_ (wr_ (e_ asn (on_ (qn_ (ws_ (ws_ (wr_ (e_ mv (e_ nck (e_ fla (e_ ldv ?_)))))))))));refine e_ (gN rfl) ?_;refine gW (λh1=>?_) λh1=>?_
 ·have c:lp=none:=by have h9:=h1;cases lp with|none=>rfl|some p=>simp at h9
  have a:=h c;refine gR ?_;exact⟨_,hsb,by rw[a];all_goals rfl,rfl⟩
 obtain⟨p,rfl⟩:∃p,lp=some p:=by have h9:=h1;cases lp with|none=>simp at h9|some p=>exact⟨p,rfl⟩
 obtain⟨hv1,hv2,hv3⟩:=hl.at_ p rfl;refine go ?_;refine d1_ rfl (KD (b:=p)) (gR ?_);exact⟨_,hsb,rfl,rfl⟩
theorem ME (h:q<ps.length):q/16<dC ps∧q%16<(dg ps (q/16)).length∧(dg ps (q/16))[q%16]? =ps[q]? :=by
 have h1:q/16<dC ps:=cn;refine⟨h1,by rw[(m9 h1).2];omega,?_⟩;rw[Di (Um _ ae)];congr 1;omega
theorem JB {k i:Nat}(h:zs.map pgP=dg ps k) (hi:(dg ps k)[i]? =ps[q]?) (a:q<ps.length):∃z:PG,zs[i]? =some z∧ps[q]? =some (pgP z):=by
 have hp:ps[q]? =some ps[q]:=Yi a;rw[←h,Xd]at hi;cases hz:zs[i]? with
 |none=>rw[hz,hp]at hi;cases hi
 |some z=>exact⟨z,rfl,by rw[hz]at hi;exact hi.symm⟩
theorem Nj {E R2 R:cG}{im sk r:SV}{c:Int}{C B:Value} [hg:Glb G R] [hr:Rem H Vr b [v0,C,lpV lp,v3,.int .i64 c,r.val,B] E] [u:gV E r ePo (zs.map pgV) R2] [t:mW R2 (Cl pgH zs) R] [hl:Du R lp im sk ps] (F:lp=none→ps= []) (j:BQ ps zs c) (x:gJ 0 ps) (hsm:eG ps) (htt:dn ps≤100000000) (i:q<ps.length):
 SC G prog 112 [pA b,iN q] H (λv J=>∃(rd':SV) (zs':List PG) (blk':Int) (z:PG),BQ ps zs' blk'∧ps[q]? =some (pgP z)∧(∀A:cG,Sl (Cl pgH zs'::A) z.s eI (cP z.pos))∧v=.agg #[iN z.d,z.s.val]∧J=Vr b [v0,C,lpV lp,v3,.int .i64 blk',rd'.val,B]::Row rd' ePo (zs'.map pgV)::Cl pgH zs'::R):=by
 have w:ps≠ []:=λe=>by rw[e]at i;simp at i
 obtain⟨p,rfl⟩:∃p,lp=some p:=by cases lp with|none=>exact absurd (F rfl) w|some p=>exact⟨p,rfl⟩
 obtain⟨hv1,hv2,hv3⟩:=hl.at_ p rfl;obtain⟨y,hb2,n⟩:=ME i;have hen:=vk hsm a8;have hpl:=hsm.1;refine H5 (cH.rem hr (cH.keep (dH u (cH.keep (gf t cH.refl))))) ?_;refine sWk func112 ?_;refine gk (k:=alc (k:=λb4=>?_));refine on_ (qn_ (ws_ (wr_ (e_ mv ?_))));refine e_ (fH rfl rfl q 16 rfl rfl ae an) (go ?_);refine wi_ (k:=λh1=>?_) (m:=λh1=>?_)
 ·refine go ?_;refine c2_ rfl (I2 (l:=ps) x hsm a8 y) ?_;rintro _ _ ⟨sl,d,a,rfl,rfl⟩;obtain⟨z,h,g⟩:=JB a n i;have s:(d.map pgV).length=(dg ps (q/16)).length:=by rw[←a,Yh,Yh]
  have f:(d.map pgV)[q%16]? =some (z.d,z.s):=by rw[Xd,h];all_goals rfl
  refine e_ nck (e_ fla (sto (k:=e_ nck (e_ fla (sto (k:=on_ (qn_ (ws_ (wr_ (e_ mv (e_ nck (e_ fla (e_ ldv ?_)))))))))))));refine e_ mv ?_;refine e_ (kO rfl rfl q 16 rfl rfl ae) ?_;refine e_ ixa (e_ (od (hy:=f)) (gR ?_));exact⟨_,hsb,sl,d,((q/16:Nat):Int),z,.inr ⟨_,rfl,a⟩,g,λA=>dj (pF h) inferInstance,rfl,rfl⟩
 have hbe:c=((q/16:Nat):Int):=az;have a:zs.map pgP=dg ps (q/16):=by
  rcases j with h1|⟨k,h1,h2⟩
  ·omega
  ·have:k=q/16:=by omega
   rw[←this];exact h2
 obtain⟨z,h,g⟩:=JB a n i;have s:(zs.map pgV).length=(dg ps (q/16)).length:=by rw[←a,Yh,Yh]
 have f:(zs.map pgV)[q%16]? =some (z.d,z.s):=by rw[Xd,h];all_goals rfl
 refine wk_ (qn_ (ws_ (wr_ (e_ mv (e_ nck (e_ fla (e_ ldv (e_ mv ?_))))))));refine e_ (kO rfl rfl q 16 rfl rfl ae) ?_;refine e_ ixa (e_ (od (hy:=f)) (gR ?_));exact⟨_,hsb,r,zs,c,z,j,g,λA=>dj (pF h) inferInstance,rfl,rfl⟩
end
section
variable {G:cJ}{H:cG}{a:PtA}{d:Int}{l:List (Int×SV)}{n:Nat}{q:PtD}{s sd:SV}{ws:List Nat}
structure MJ (q:PtD):Prop where
 n:q.ds.length≤1048576
 f:1≤q.fs.length∧q.fs.length≤1000000000
 wl:q.dw.length=(q.ds.length+63)/64
 w:okW q.dw
theorem yA [hp:dT H a q]:a.l.length=q.ds.length:=hp.docs.1
theorem JO [hp:dT H a q]:SC G prog 62 [pA a.g,.int .i64 d] H (λv b=>v=.bool (decide (0≤d)&&decide (d<(q.ds.length:Int)))∧b=H):=by
 have hl:=yA (a:=a) (q:=q) (H:=H);refine sWk func62 ?_;refine gk (k:=cQ 8 15 (k:=λh1=>gk (k:=edq)) (q:=go ?_));refine gR ?_;exact⟨_,hsb,by rw[←hl];all_goals rfl,rfl⟩
theorem Eb [hp:dT H a q]:SC G prog 59 [pA a.g] H (λv b=>v=iN q.ds.length∧b=H):=by
 have hl:=yA (a:=a) (q:=q) (H:=H);refine sWk func59 ?_;refine go ?_;refine gR ?_;exact⟨_,hsb,by rw[←hl];all_goals rfl,rfl⟩
theorem Lc {g:Nat}{fv lv wv bl im:Value} [cY H g [fv,sd.val,lv,wv,bl,im]] [Sl H sd eD l]:SC G prog 59 [pA g] H (λv a=>v=iN l.length∧a=H):=by
 refine sWk func59 ?_;refine go ?_;exact gZ
theorem Nf {f d:Nat} [hp:dT H a q] (hf:f<q.fs.length) (hd:d<q.ds.length):SC G prog 29 [pA a.g,iN f,iN d] H (λv g=>v=.int .i64 ((((et q.fs q.ds f).getD d 0:Nat)):Int)∧g=H):=by
 have hl:=hp.lens.1;have c:(et q.fs q.ds f).length=q.ds.length:=by rw[et,Yh]
 have hil:(cP (et q.fs q.ds f)).length=q.ds.length:=by rw[dJ,c]
 obtain⟨s,e⟩:=gE a.lvs f;haveI hsl:Sl H s eI (cP (et q.fs q.ds f)):=hp.lens.2 f s e;have b:(cP (et q.fs q.ds f))[d]? =some ((((et q.fs q.ds f).getD d 0:Nat)):Int):=by
  rw[cP,Xd,Xm,Yi a8];all_goals rfl
 refine sWk func29 ?_;refine ws_ (wr_ (e_ asn (on_ (qn_ (ws_ (ws_ (wr_ (e_ mv (e_ ilt (e_ mv (dz 8 17 (k:=λh1=>eg_ mv (eg_ mv (eg_ nck (eg_ fla (eg_ ldv (eg_ lnn (eg_ ige (e_ pkf (on_ edq))))))))) (q:=e_ mv (dz 5 23 (k:=λh2=>eg_ mv (eg_ mv (gA (vs:=[_,_]) (hc:=(JO (a:=a))) (k:=eg_ jq (e_ pkf (on_ edq)))))) (q:=?_))))))))))))));refine on_ (qn_ (wi_ (k:=λh3=>?_) (m:=λh3=>?_)))
 ·exact absurd h3 aH
 refine wk_ (qn_ (ws_ (wr_ (e_ mv (e_ nck (e_ fla (e_ ldv (e_ mv (e_ ixa (e_ (lel (hy:=e)) (e_ mv (e_ ixa (e_ (lel (hy:=b)) ?_)))))))))))));refine e_ asn (on_ (qn_ (wt_ (rT (k:=?_)))));exact⟨_,hsb,rfl,rfl⟩
theorem Ng {b c:Nat} [cY H b [iN n,iN c,s.val]]:SC G prog 101 [pA b] H (λv a=>v=iN n∧a=H):=by
 refine sWk func101 ?_;refine go ?_;exact gZ
theorem Le {b c:Nat} [cY H b [iN n,iN c,s.val]] [hs:Sl H s eW ws] (hl:ws.length≤1000000):SC G prog 102 [pA b] H (λv a=>∃(b':Nat) (s':SV),v=pA b'∧a=Vr b' [iN n,iN c,s'.val]::Row s' eW ws::H):=by
 refine sWk func102 ?_;refine ws_ (wr_ (e_ asn (on_ (qn_ (ws_ ?_)))));refine wD [8,13,15] (λk H=>(k=3→cY H b [iN n,iN c,s.val])∧(k=7→cY H b [iN n,iN c,s.val])∧(k=12→cY H b [iN n,iN c,s.val])) (aF 0 (k:=aF 1 (k:=aF 2 (k:=?_))));refine aN 3 rfl (λH hH=>aw) ?_;refine aF 4 (k:=aF 5 (k:=aF 6 (k:=?_)));refine aN 7 rfl (λH hH=>aE) ?_;refine aF 9 (k:=aF 10 (k:=aF 11 (k:=?_)));refine aN 12 rfl (λH hH=>cj) ?_;refine aS 8 rfl (fK eW rfl) ?_;rintro _ _ ⟨s11,rfl,rfl⟩;refine aS 13 rfl (fw rfl rfl rfl rfl af af) ?_;rintro _ _ ⟨s16,rfl,rfl⟩;refine af_ 14 (q:=cU λH hH=>bld [(0,_),(1,_),(2,_)]) (k:=?_);refine aS 15 rfl (sJ rfl) ?_;rintro _ _ ⟨b18,rfl,rfl⟩;refine aF 16 (k:=aZ (qn_ (wt_ (rT (k:=?_)))));exact⟨_,hsb,_,_,rfl,rfl⟩
theorem E5 {g b c:Nat}{dv fv lv wv bl im:Value} [cY H b [iN n,iN c,s.val]] [hs:Sl H s eW ws] [cY H g [fv,sd.val,lv,wv,bl,im]] [Sl H sd eD l] (hl:ws.length≤1000000) (a:l.length=n):SC G prog 56 [pA g,pA b] H (λv d=>∃(p b':Nat) (s':SV),v=.tuple #[pA p,.nilIface]∧d=Vr p [pA g,pA b']::Vr b' [iN n,iN c,s'.val]::Row s' eW ws::H):=by
 refine sWk func56 ?_;refine ws_ (wr_ (e_ asn (e_ asn (on_ (qn_ (ws_ (ws_ (wr_ (e_ mv ?_)))))))));refine e_ (gN rfl) ?_;refine gW (λh1=>?_) λh1=>?_
 ·exact absurd h1 ak
 refine go ?_;refine d1_ rfl (Ng (n:=n) (c:=c) (s:=s)) (go ?_);refine d1_ rfl (Lc (sd:=sd) (l:=l) (fv:=fv) (lv:=lv) (wv:=wv) (bl:=bl) (im:=im)) (gW (λh2=>?_) (λh2=>?_))
 ·exact absurd h2 (by simp[a])
 refine go ?_;refine c1_ rfl (Le (n:=n) (c:=c) (s:=s) hl) ?_;rintro _ _ ⟨b31,s31,rfl,rfl⟩;refine e_ (bld [(0,_),(1,_)]) (bxx (k:=λb33=>?_));refine gR ?_;exact⟨_,hsb,_,_,_,rfl,rfl⟩
theorem Lg [hp:dT H a q] (f:MJ q):SC G prog 32 [pA a.p,.int .i64 d] H (λv h=>v=.bool (decide (0≤d)&&decide (d<(q.ds.length:Int))&&!jZ q.dw d.toNat)∧h=H):=by
 refine sWk func32 ?_;refine go ?_;refine d2_ rfl (JO (a:=a)) (sp_ mv (k:=λh1=>?_) (m:=λh1=>?_))
 ·obtain⟨e,rfl⟩:∃e:Nat,d=(e:Int):=⟨d.toNat,az⟩;have b:e<q.ds.length:=az;refine go ?_;refine sg_ (v2_ (KZ (n:=q.ds.length) (c:=a.cnt) (s:=a.ws) (ws:=q.dw) b f.n f.wl f.w)) (k:=?_);rintro _ _ ⟨rfl,rfl⟩;refine gR ?_;exact⟨_,hsb,by simp[nq,b],rfl⟩
 have g:(decide (0≤d)&&decide (d<(q.ds.length:Int)))=false:=by(have h9:=h1;simp;omega)
 refine gR ?_;exact⟨_,hsb,by rw[g,Bool.false_and];all_goals rfl,rfl⟩
theorem vg {i:Nat}{f:Nat→Bool}(hi:i<n):((List.range n).drop i).find? f=if f i=true then some i else((List.range n).drop (i+1)).find? f:=by
 rw[fE (l:=List.range n) (i:=i) (x:=i) (by rw[X3 hi]),List.find?_cons];all_goals (cases f i <;> rfl)
theorem sB {i0:Int} [hp:dT H a q] (f:MJ q) (hi0:i0≤4294967296):SC G prog 28 [pA a.p,.int .i64 i0] H (λv g=>((∃d:Nat,((List.range q.ds.length).drop i0.toNat).find? (λd=>!jZ q.dw d)=some d∧v=.tuple #[iN d,.bool true])∨(((List.range q.ds.length).drop i0.toNat).find? (λd=>!jZ q.dw d)=none∧v=.tuple #[.int .i64 0,.bool false]))∧g=H):=by
 have hqn:=f.n;refine sWk func28 ?_;refine ws_ (wr_ (e_ asn (e_ asn (on_ (qn_ (ws_ (ws_ (wr_ (e_ mv ?_)))))))));refine e_ (evq (tH rfl rfl) (congrArg (Value.int .i64) (show _=(i0.toNat:Int)from a8))) ?_;refine gk (k:=wl2_ Nat (λy=>i0.toNat≤y∧y≤max i0.toNat q.ds.length∧((List.range q.ds.length).drop i0.toNat).find? (λd=>!jZ q.dw d)=((List.range q.ds.length).drop y).find? (λd=>!jZ q.dw d)) (λy=>[(1,iN y)]) [(0,_)] (λy=>[]) _ (λy=>q.ds.length-y) i0.toNat (h0:=?_) (k:=?_))
 ·exact⟨Xj _,a8,rfl⟩
 rintro i ⟨hi1,hi2,b⟩
 try dsimp only[Yd,Ye]at*
 refine go ?_;refine d1_ rfl (Eb (a:=a)) (gW (λh1=>?_) (λh1=>?_))
 ·have e:i<q.ds.length:=by have h9:=h1;omega
  rw[vg e]at b;refine go ?_;refine d2_ rfl (KZ (n:=q.ds.length) (c:=a.cnt) (s:=a.ws) (ws:=q.dw) e f.n f.wl f.w) (gW (λh2=>?_) (λh2=>?_))
  ·rw[if_pos (by have h9:=h2;simpa using h9)]at b;refine gR ?_;exact⟨_,hsb,.inl ⟨i,b,rfl⟩,rfl⟩
  rw[if_neg (by have h9:=h2;simpa using h9)]at b;refine go ?_;refine lN (i+1) ?_
  exact⟨a8,a8,b⟩
 rw[show(List.range q.ds.length).drop i= []from Uu (by rw[T5];have h9:=h1;omega),List.find?_nil]at b;refine gR ?_;exact⟨_,hsb,.inr ⟨b,rfl⟩,rfl⟩
end
section
variable {fs:List FV}
theorem uw (d:fs.length≤16):∀(vs:List Val) (r:List Nat),(∀v∈vs,v.2.size≤4096∧∃k,fJ fs (cF v.1)=some k)→lq fs vs.length (vs.flatMap (fa fs)++r)=some (vs,(vs.flatMap (fa fs)).length)
 | [],r,_=>rfl
 |v::vs,r,h=>by
  obtain⟨h1,k,hk⟩:=h v ak;have f:=uw d vs r λx hx=>h x (Xa _ hx);have a:=hk;unfold fJ at a;rw[List.findIdx?_eq_some_iff_getElem]at a;obtain⟨c,hp,_⟩:=a;have g:(((fs[k]?).map (·.name)).getD ByteArray.empty)=v.1:=by
   rw[Yi c];exact iw.1 (Yt hp)
  have b:=cI v.2;have e:(v::vs).flatMap (fa fs)++r=uv k++(uv (cF v.2).length++cF v.2++(vs.flatMap (fa fs)++r)):=by
   rw[Vp,fa,hk,U0,b];simp only[Yf]
  have i:((v::vs).flatMap (fa fs)).length=(uv k).length+((uv (cF v.2).length).length+(cF v.2).length)+(vs.flatMap (fa fs)).length:=by
   rw[Vp,fa,hk,U0,b];simp only[Ya,b];(try omega)
  rw[e,Yb,lq,eO _ a8 a8];simp only[];rw[Xy,uG _ a8 a8];simp only[];rw[←Vm,Xy,←Ya,Xy,f,iz,g,i];simp only[Ya]
theorem vo (a:fs.length≤16):∀(ds:List Doc) (r:List Nat),(∀d∈ds,gl fs d.2=0)→kF fs (ds.map (·.1)) (eJ fs ds++r)=some (ds,(eJ fs ds).length)
 | [],r,_=>rfl
 |d::ds,r,h=>by
  obtain⟨h1,h2⟩:=kK (h d ak);have b:=vo a ds r λx hx=>h x (Xa _ hx);have e:eJ fs (d::ds)++r=uv d.2.length++(d.2.flatMap (fa fs)++(eJ fs ds++r)):=by
   simp only[eJ,Vp,pg,Yf]
  have c:(eJ fs (d::ds)).length=(uv d.2.length).length+(d.2.flatMap (fa fs)).length+(eJ fs ds).length:=by
   simp only[eJ,Vp,pg,Ya]
  rw[e,Xn,kF,eO _ a8 a8];simp only[];rw[Xy,uw a _ _ h2];simp only[];rw[←Vm,Xy,Xy,b,c]
theorem yD {ds:List Doc}(h:iU fs ds):kS fs (mH ds) (eJ fs ds)=some ds:=by
 have a:=h.few;have h1:=xG (l:=ds.map (·.1)) h.pos h.up (λx hx=>bI) (by rw[Yh];omega);rw[Yh]at h1;have h2:fe 4096 (mH ds)=.ok (ds.map (·.1),(mH ds).length):=by
  unfold fe at h1⊢;unfold mH;rw[eO _ a8 (by have:=mu (ds.map (·.1)) (-1);rw[Yh]at this;simp only[Ya];omega)]at h1;rw[eO _ a8 a];exact h1
 have h3:=vo h.flen ds [] h.vals;rw[Ym]at h3;rw[kS,h2];simp only[];rw[if_neg a8,h3];simp only[];rw[if_neg a8]
end
end Go.Sx
