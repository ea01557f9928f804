import Derived.Test.YtefgpomabdplbaaGreatDoorQ32
set_option linter.unusedVariables false
set_option linter.unusedSimpArgs false
set_option linter.unusedSectionVars false
set_option linter.unnecessarySimpa false
set_option maxHeartbeats 0
namespace Go.Sx
open Go Go.Proofs
set_option maxRecDepth 100000
theorem EN {G:cK}{H R:cG}{b k n m:Nat}{xs:List Nat} [hg:Glb G R] [hr:Rem H Rd b (xs,k) R] (hk:k≤xs.length) (hn:xs.length≤1000000000000) (hb:∀x∈xs,x<256) (h:gP 0 (xs.drop k)= .ok (n,m)):SC G Tryz.prog 42 [.pointer (some ⟨b,0,none⟩)] H (fun v H'=> v= .tuple #[.int .u64 ((n:Nat):Int), .nilIface]∧H'=Rd b (xs,k+m)::R):=
 SC.mono (lN hk hn hb) fun v H' h2=> by
  rcases h2 with⟨e,h3,_⟩|⟨n',m',h3,h4,h5⟩
  ·rw[h]at h3;cases h3
  ·rw[h]at h3;cases h3;exact⟨h4,h5⟩
theorem IH {G:cK}{H R:cG}{b k:Nat}{xs:List Nat} [hg:Glb G R] [hr:Rem H Rd b (xs,k) R] (hk:k=xs.length):SC G Tryz.prog 154 [.pointer (some ⟨b,0,none⟩)] H (fun v H'=> v= .nilIface∧H'=Rd b (xs,k)::R):=
 SC.mono (pO (Nat.le_of_eq hk)) fun v H' h2=> by
  obtain⟨h3,h4⟩:=h2
  rcases h4 with⟨h5,_⟩|⟨_,h5⟩
  ·omega
  ·exact⟨h5,h3⟩
theorem wx {v:Nat}(r:List Nat) (h:v<18446744073709551616):gP 0 (uv v++r)= .ok (v,(uv v).length):=BN v 0 r (ag) (aa) (aa)
theorem uY:∀(l:List Nat) (nb m:Nat),∃r,ff nb l=ff nb (l.take m)++r
 | [],nb,m=> ⟨[],by simp[ff]⟩
 |x::l,nb,0=> ⟨ff nb (x::l),by simp[ff]⟩
 |x::l,nb,m+1=> by
  obtain⟨r,h⟩:=uY l (x+1) m
  exact⟨r,by rw[List.take_succ_cons,ff,ff,h,Yf]⟩
theorem EK {l:List Nat}{nb j x:Nat}(h:l[j]? =some x):∃r,ff nb l=ff nb (l.take j)++(uv (x - (if j=0 then nb else l.getD (j - 1) 0+1))++r):=by
 obtain⟨r,hr⟩:=uY l nb (j+1)
 exact⟨r,by rw[hr,mh h,Yf]⟩
theorem sT:∀(l:List Nat) (nb:Nat),l.length≤(ff nb l).length
 | [],_=> Nat.le_refl _
 |x::l,nb=> by
  have:=sT l (x+1)
  have:=oV (x - nb)
  simp only[ff,Ya,Yb];omega
theorem CR {l:List Po}{i:Nat}{p:Po}(h:l[i]? =some p):dY l=dY (l.take i)++(ff 0 p.2++dY (l.drop (i+1))):=by
 have e:l=l.take i++p::l.drop (i+1):=by rw[←dF h,List.take_append_drop]
 conv=> lhs;rw[e]
 simp[dY]
def jf (zs:List PG) (n:Nat):List (Nat×SV):=zs.map pgV++List.replicate (n - zs.length) (0,SV.nil)
theorem qY {zs:List PG}{n:Nat}(h:zs.length≤n):(jf zs n).length=n:=by simp[jf];omega
theorem DC {zs:List PG}{n:Nat}(z:PG) (h:zs.length<n):(jf zs n).set zs.length (z.d,z.s)=jf (zs++ [z]) n:=by
 obtain⟨m,hm⟩:∃m,n - zs.length=m+1:=⟨n - zs.length - 1,aa⟩
 have h2:n - (zs.length+1)=m:=aa
 simp only[jf,Ya,List.length_singleton,h2,hm,List.map_append,List.map_cons,List.map_nil,List.replicate_succ]
 rw[List.set_append_right _ _ (an),Yh,Nat.sub_self]
 simp[pgV]
theorem DD {zs:List PG}{n:Nat}(z:PG):(jf (zs++ [z]) n)[zs.length]? =some (z.d,z.s):=by
 rw[jf,List.map_append,Yf,Yu (an),Yh,Nat.sub_self]
 simp[pgV]
theorem DE (zs:List PG):jf zs zs.length=zs.map pgV:=by simp[jf]
theorem Bt {G:cK}{H:cG}{s:SV}{nb:Nat}{l:List Po} [hg:Glb G H] [hs:Sl H s eB (jN nb l)] (hok:fW nb l) (hsm:e8 l) (hn:l.length≤16) (hnb:nb≤1000001):
 SC G Tryz.prog 122 [s.val, .int .i64 (((nb:Nat):Int) - 1), .int .i64 ((l.length:Nat):Int)] H (fun v H'=> ∃(sl:SV) (zs:List PG),zs.map pgP=l∧v= .tuple #[sl.val, .bool true]∧H'=Row sl ePo (zs.map pgV)::Cl pgH zs::H):=by
 have hb:=CA (nb:=nb) hsm
 have hbl:=qt (nb:=nb) hsm
 have htl:=wa hsm
 obtain⟨xs,hxs⟩:∃xs,xs=jN nb l:=⟨_,rfl⟩
 have hs2:Sl H s eB xs:=by rw[hxs];exact hs
 clear hs
 rw[←hxs]at hb hbl
 have hgl:(cV (gm nb l)).length=l.length:=by rw[dO,fN]
 have hfl:(cV (hX l)).length=l.length:=by rw[dO,hX,Yh]
 have hg40:∀x∈gm nb l,x<1099511627776:=fun x hx=> aU
 have hf40:∀x∈hX l,x<1099511627776:=fun x hx=> bK
 obtain⟨A,hA⟩:∃A,A=(dJ (gm nb l)).length:=⟨_,rfl⟩
 obtain⟨B,hB⟩:∃B,B=(dJ (hX l)).length:=⟨_,rfl⟩
 have hd0:xs.drop 0=dJ (gm nb l)++(dJ (hX l)++dY l):=by rw[hxs,jN,Yf];all_goals rfl
 have hd1:xs.drop (0+A)=dJ (hX l)++dY l:=by rw[←List.drop_drop,hd0,hA,List.drop_left]
 have hd2:xs.drop (0+A+B)=dY l:=by rw[←List.drop_drop,hd1,hB,List.drop_left]
 have hlen:xs.length=A+B+(dY l).length:=by rw[hxs,jN,Ya,Ya,hA,hB]
 refine sWk Tryz.func122 Tryz.ntmps122 ?_
 refine go ?_
 refine c1_ rfl (iS (xs:=xs) (aa)) (k:=?_)
 rintro _ _ ⟨br,rfl,rfl⟩
 refine go ?_
 refine c2_ rfl (BO (most:=16) (aa) hb hd0 (bZ) (aa) hg40) (k:=?_)
 rintro _ _ ⟨sd,rfl,rfl⟩
 rw[←hA]
 refine e_ mv (k:=e_ exr (k:=e_ exr (k:=e_ asn (k:=e_ asn (k:=on_ (qn_ (ws_ (ws_ (wr_ (e_ mv (k:=?_)))))))))))
 refine e_ (cM rfl) (k:=?_)
 refine gk (k:=wi_ (k:=fun h1=>?_) (m:=fun h1=>?_))
 ·exact absurd h1 (aa)
 refine go ?_
 refine c2_ rfl (BO (most:=16) (aa) hb hd1 (bE) (aa) hf40) (k:=?_)
 rintro _ _ ⟨sf,rfl,rfl⟩
 rw[←hB]
 refine e_ mv (k:=e_ exr (k:=e_ exr (k:=e_ asn (k:=e_ asn (k:=on_ (qn_ (ws_ (ws_ (wr_ (e_ mv (k:=?_)))))))))))
 refine e_ (cM rfl) (k:=?_)
 refine gk (k:=wi_ (k:=fun h2=>?_) (m:=fun h2=>?_))
 ·exact absurd h2 (aa)
 refine go ?_
 refine s_ (eX ePo (0,SV.nil) rfl rfl l.length l.length rfl rfl rfl (Nat.le_refl _) (aa) (aa)) (k:=?_)
 rintro _ _ ⟨sl,rfl,hsln,hslc,rfl⟩
 rw[show List.replicate l.length ((0,SV.nil):Nat×SV)=jf [] l.length from by simp[jf]]
 have hz0:=qY (zs:= []) (n:=l.length) (Yl _)
 refine du (fe (f:=pgH) cJ.refl) ?_
 refine gk (k:=dt (Nat×(List PG)×Nat) (fun y=> y.1≤l.length∧y.2.1.map pgP=l.take y.1∧y.2.2=A+B+(dY (l.take y.1)).length) (fun y=> [(1, .int .i64 (((dS nb (l.take y.1):Nat):Int) - 1)),(50, .int .i64 ((y.1:Nat):Int))]) [(8,_),(9,_),(11,_),(12,_),(49,_)] (fun y=> [Row sl ePo (jf y.2.1 l.length),Cl pgH y.2.1,Rd br (xs,y.2.2)]) _ (fun y=> l.length - y.1) ((0, [],0+A+B)) (h0:=?_) (k:=?_))
 ·try dsimp only
  exact⟨Yl _,rfl,by simp[dY]⟩
 rintro⟨i,zs,K⟩ ⟨hi,hzp,hK⟩
 try dsimp only[Yd,Ye]at*
 have hzl:zs.length=i:=by have:=congrArg List.length hzp;rw[Yh,Yg]at this;omega
 have hfz:=qY (zs:=zs) (n:=l.length) (aa)
 refine gk (k:=wi_ (k:=fun h3=>?_) (m:=fun h3=>?_))
 ·obtain⟨p,hp⟩:∃p,l[i]? =some p:=⟨_,Yi (aa)⟩
  obtain⟨hp1,hp2,hp3⟩:=hsm.2 p (Yj hp)
  obtain⟨hge,hpne,hpok⟩:=ij hok hp
  have hpp:0<p.2.length:=List.length_pos_iff.2 hpne
  have hgi:(cV (gm nb l))[i]? =some ((p.1 - dS nb (l.take i):Nat):Int):=ez (qV hp)
  have hfi:(cV (hX l))[i]? =some ((p.2.length - 1:Nat):Int):=ez (by rw[hX,Xd,hp];all_goals rfl)
  have hlt:=pd (nb:=nb) hp
  have hta:=CR hp
  have htk:=rq hp
  have htg:=sT p.2 0
  have htl2:=congrArg List.length hta
  have htk2:=congrArg List.length htk
  rw[Ya,Ya]at htl2
  rw[Ya]at htk2
  have hdK:xs.drop K=ff 0 p.2++dY (l.drop (i+1)):=by
   rw[hK,←List.drop_drop,show A+B=0+A+B from aa,hd2,hta,List.drop_left]
  refine wk_ (qn_ (ws_ (wb_ (ws_ (wr_ (e_ mv (k:=?_)))))))
  refine mC br fun s2=> ?_
  refine go ?_
  refine cX cI (as_ 0 (q:=mv) (k:=as_ 1 (q:=mv) (k:=as_ 2 (q:=ixa) (k:=as_ 3 (q:=lel (hy:=hgi)) (k:=as_ 4 (q:=mv) (k:=as_ 5 (q:=isb) (k:=as_ 6 (q:=isb) (k:=as_ 7 (q:=ige) (k:=?_)))))))))
  refine gq 8 rfl rfl (a8) rfl (dz (mv)) (fun h4=> ?_) (fun h4=> ?_)
  ·replace h4:=nrm h4
   exact absurd h4 (aa)
  replace h4:=nrm h4
  refine at2 9 (q:=mv) (k:=at2 10 (q:=mv) (k:=at2 11 (q:=ixa) (k:=at2 12 (q:=lel (hy:=hfi)) (k:=at2 13 (q:=mv) (k:=at2 14 (q:=nck) (k:=at2 15 (q:=fla) (k:=?_)))))))
  refine ld 16 rfl rfl rfl rfl (a8) rfl (gQ (vs:= [_]) rfl (left (k:=((K:Nat):Int)) (aa))) (?_)
  refine at2 17 (q:=ige) (k:=as_ 18 (q:=pkf) (k:=az_ (k:=gk (k:=wi_ (k:=fun h5=>?_) (m:=fun h5=>?_)))))
  ·exact absurd h5 (aa)
  refine wk_ (qn_ (ws_ (wr_ (?_))))
  refine du (H':=Rd br (xs,K)::Row sl ePo (jf zs l.length)::Cl pgH zs::Row sf eI (cV (hX l))::Row sd eI (cV (gm nb l))::H) (hsb) ?_
  refine e_ mv (k:=e_ mv (k:=e_ mv (k:=e_ ixa (k:=e_ (lel (hy:=hgi)) (k:=e_ iad (k:=?_))))))
  refine e_ (evq iad (congrArg (Value.int .i64) (show _=(((dS nb (l.take (i+1)):Nat):Int) - 1)from aa))) (k:=?_)
  refine e_ asn (k:=on_ (qn_ (ws_ (wr_ (e_ mv (k:=e_ mv (k:=?_)))))))
  refine e_ (evq mv (congrArg (Value.int .i64) (show(((dS nb (l.take (i+1)):Nat):Int) - 1)=((p.1:Nat):Int)from aa))) (k:=?_)
  refine e_ mv (k:=e_ mv (k:=e_ ixa (k:=e_ (lel (hy:=hfi)) (k:=?_))))
  refine e_ (evq iad (congrArg (Value.int .i64) (show _=((p.2.length:Nat):Int)from aa))) (k:=?_)
  refine s_ (eX eI 0 rfl rfl p.2.length p.2.length rfl rfl rfl (Nat.le_refl _) (aa) (aa)) (k:=?_)
  rintro _ _ ⟨sp,rfl,hspn,hspc,rfl⟩
  rw[show List.replicate p.2.length (0:Int)=eA (cV p.2) 0 0 from by rw[kd,dO]]
  refine e_ (bld [(0,_),(1,_)]) (k:=go ?_)
  refine s_ (dH (i:=i) rfl rfl rfl (aa)) (k:=?_)
  rintro _ _ ⟨rfl,rfl⟩
  rw[show(jf zs l.length).set i (p.1,sp)=jf (zs++ [⟨p.1,sp,p.2⟩]) l.length from by rw[←hzl];exact DC ⟨p.1,sp,p.2⟩ (aa)]
  have hgz:(jf (zs++ [⟨p.1,sp,p.2⟩]) l.length)[i]? =some (p.1,sp):=by rw[←hzl];exact DD ⟨p.1,sp,p.2⟩
  have hfz1:=qY (zs:=zs++ [⟨p.1,sp,p.2⟩]) (n:=l.length) (bY)
  refine on_ (qn_ (ws_ (wr_ (e_ asn (k:=on_ (qn_ (ws_ (wr_ (e_ mv (k:=e_ mv (k:=e_ ixa (k:=?_))))))))))))
  have hil:(cV p.2).length=p.2.length:=dO _
  have hfl0:=ik (full:=cV p.2) (z:=(0:Int)) (i:=0) (Yl _)
  refine e_ fle (k:=e_ (lfl (hy:=hgz)) (k:=gk (k:=dt (Nat×Nat×Nat) (fun y=> y.1≤p.2.length∧y.2.1=(if y.1=0 then 0 else p.2.getD (y.1 - 1) 0+1)∧y.2.2=K+(ff 0 (p.2.take y.1)).length) (fun y=> [(14, .int .i64 (((y.2.1:Nat):Int) - 1)),(96, .int .i64 ((y.1:Nat):Int))]) [(1,_),(8,_),(9,_),(11,_),(12,_),(13,_),(49,_),(50,_),(95,_)] (fun y=> [Row sp eI (eA (cV p.2) 0 y.1),Rd br (xs,y.2.2)]) _ (fun y=> p.2.length - y.1) ((0,0,K)) (h0:=?_) (k:=?_))))
  ·try dsimp only
   exact⟨Yl _,rfl,by simp[ff]⟩
  rintro⟨j,q,K2⟩ ⟨hj,hq,hK2⟩
  try dsimp only[Yd,Ye]at*
  refine gk (k:=wi_ (k:=fun h6=>?_) (m:=fun h6=>?_))
  ·obtain⟨x,hx⟩:∃x,p.2[j]? =some x:=⟨_,Yi (aa)⟩
   have hxi:=ez hx
   have hx40:=hp3 x (Yj hx)
   have hqx:=od hpok hx
   rw[←hq]at hqx
   obtain⟨r,hr⟩:=EK (nb:=0) hx
   rw[←hq]at hr
   have htj:=mh (nb:=0) hx
   rw[←hq]at htj
   have htj2:=congrArg List.length htj
   rw[Ya]at htj2
   have hr2:=congrArg List.length hr
   rw[Ya,Ya]at hr2
   have hdj:xs.drop K2=uv (x - q)++(r++dY (l.drop (i+1))):=by
    rw[hK2,←List.drop_drop,hdK,hr,Yf,List.drop_left,Yf]
   have hrd:=wx (v:=x - q) (r++dY (l.drop (i+1))) (aa)
   rw[←hdj]at hrd
   have hfj:=ik (full:=cV p.2) (z:=(0:Int)) (i:=j) (aa)
   refine go ?_
   refine d1_ rfl (EN (aa) (aa) hb hrd) (k:=e_ mv (k:=e_ exr (k:=e_ exr (k:=e_ asn (k:=e_ asn (k:=on_ (qn_ (ws_ (ws_ (wr_ (e_ mv (k:=?_))))))))))))
   refine e_ (cM rfl) (k:=?_)
   refine e_ mv (k:=eg_ mv (k:=eg_ ieq (k:=e_ pkf (k:=e_ mv (k:=dN 7 117 (k:=fun h7=>eg_ mv (k:=eg_ mv (k:=eg_ (Ch rfl rfl) (k:=eg_ (evq (Ch rfl rfl) (congrArg (Value.int .i64) (show _=((9223372036854775807 - q:Nat):Int)from cr))) (k:=eg_ ((ae)) (k:=eg_ igt (k:=e_ pkf (k:=on_ (edq))))))))) (q:=on_ (qn_ (wi_ (k:=fun h8=>?_) (m:=fun h8=>?_)))))))))
   ·exact absurd h8 (aa)
   refine wk_ (qn_ (ws_ (wr_ (e_ mv (k:=e_ mv (k:=?_))))))
   refine e_ (dy rfl (aa)) (k:=?_)
   refine e_ iad (k:=?_)
   refine e_ (evq iad (congrArg (Value.int .i64) (show _=(((x+1:Nat):Int) - 1)from aa))) (k:=?_)
   refine e_ asn (k:=on_ (qn_ (wr_ (e_ mv (k:=e_ mv (k:=e_ ixa (k:=e_ fle (k:=e_ (lfl (hy:=hgz)) (k:=e_ mv (k:=?_))))))))))
   refine e_ (evq mv (congrArg (Value.int .i64) (show(((x+1:Nat):Int) - 1)=((x:Nat):Int)from aa))) (k:=?_)
   refine go ?_
   refine s_ (dH (s:=sp) (i:=j) rfl rfl rfl (aa)) (k:=?_)
   rintro _ _ ⟨rfl,rfl⟩
   rw[lW hxi]
   refine go ?_
   refine ln_ ((j+1,x+1,K2+(uv (x - q)).length)) (k:=?_)
   try dsimp only
   exact⟨aa,by rw[if_neg (aa),Nat.add_sub_cancel,List.getD_eq_getElem?_getD,hx];all_goals rfl,aa⟩
  obtain rfl:j=p.2.length:=aa
  rw[List.take_length]at hK2
  rw[show eA (cV p.2) (0:Int) p.2.length=cV p.2 from by rw[←hil,kE]]
  refine we_ (qe_ (le_ (bh_ (bn_ (qn_ (wr_ (?_)))))))
  refine du (H':=Cl pgH (zs++ [⟨p.1,sp,p.2⟩])::Rd br (xs,K2)::Row sl ePo (jf (zs++ [⟨p.1,sp,p.2⟩]) l.length)::Row sf eI (cV (hX l))::Row sd eI (cV (gm nb l))::H) (cJ.trans (hsb) (wy ⟨p.1,sp,p.2⟩)) ?_
  refine go ?_
  refine ln_ ((i+1,zs++ [⟨p.1,sp,p.2⟩],K2)) (k:=?_)
  try dsimp only
  exact⟨aa,by rw[List.map_append,hzp,cP hp];all_goals rfl,aa⟩
 obtain rfl:i=l.length:=aa
 rw[List.take_length]at hzp hK
 rw[show jf zs l.length=zs.map pgV from by rw[←hzl,DE]]
 refine go ?_
 refine df cI (fun i=> [4].contains i) (fun _ _=> True) (af_ 0 (q:=cD fun H hH=>mv) (k:=af_ 1 (q:=cD fun H hH=>mv) (k:=af_ 2 (q:=cD fun H hH=>nck) (k:=af_ 3 (q:=cD fun H hH=>fla) (k:=?_)))))
 refine cN 4 rfl (a8) rfl (fun _ _=> trivial) (cW (vs:= [_]) rfl (IH (aa))) ?_
 rintro _ _ ⟨rfl,rfl⟩
 refine qv (fun _=> trivial) (?_)
 refine cE 5 rfl rfl (a8) rfl (dz ((by first|exact fy rfl|exact kI rfl))) (?_)
 refine as_ 6 (q:=asn) (k:=as_ 7 (q:=asn) (k:=az_ (k:=gk (k:=rt_ Tryz.results122 (k:=?_)))))
 exact⟨_,hsb,sl,zs,hzp,rfl,rfl⟩
def SV.cut3 (s:SV) (sz lo hi mx:Nat):SV:=⟨if mx=lo then s.a else s.a.map (·.add (lo*sz)),hi - lo,mx - lo⟩
theorem DH {G:cK}{P:Program}{t:Tm}{H:cG}{dst:Option Tmp}{ty:TypeId}{pos:String}{after:Array Edge}{g:Option (Nat×Bool)}{T E:TypeId}{x lo hi mx:Operand}{s:SV}{α:Type}{e:Enc α}{xs:List α}{bb:Nat}{z:Value}(hx:evo t x=some s.val) [hT:Und P T (.slice E)] [hE:Inf P E e.sz bb z] [hs:Sl H s e xs]
 (l h m:Nat) (hlo:∃k j,evo t lo=some (.int k j)∧j=(l:Int)) (hhi:∃k j,evo t hi=some (.int k j)∧j=(h:Int)) (hmx:∃k j,evo t mx=some (.int k j)∧j=(m:Int)) (h1:l≤h) (h2:h≤m) (h3:m≤xs.length):
 Ev G P ⟨dst, .slice T x (some lo) (some hi) (some mx),ty,pos,after,g⟩ t H (s.cut3 e.sz l h m).val:=
 fun ρ hρ w hw=> by
  obtain⟨q1,q2,_⟩:=hs.get hw
  obtain⟨k1,j1,a1,rfl⟩:=hlo
  obtain⟨k2,j2,a2,rfl⟩:=hhi
  obtain⟨k3,j3,a3,rfl⟩:=hmx
  have b1:∀(j:Nat) (k:IntKind) (y:Nat) (cd:BoundsCode),j≤y→(Instr.sliceBound (.int k (j:Int)) y cd).run P w= .ok j w:=by
   intro j k y cd hj
   have:(j:Int)≤(y:Int):=aa
   simp[Instr.sliceBound,asIntOf,this]
  have e1:(Instr.sliceBounds true s.n s.c (some (ρ lo)) (some (ρ hi)) (some (ρ mx))).run P w= .ok (l,h,m) w:=by
   simp[Instr.sliceBounds,hρ _ _ a1,hρ _ _ a2,hρ _ _ a3,b1 m k3 s.c _ (aa),b1 h k2 m _ (aa),b1 l k1 h _ (aa)]
  simp only[execOp,hρ _ _ hx,Instr.sliceAt,SV.val,Option.map_some,Sem.run_bind,da (T:=T),Result.andThen_ok]
  simp only[Instr.slice,Sem.run_bind,da (T:=T),Result.andThen_ok,e1,dQ (T:=E) (s:=e.sz),Sem.run_pure]
  rfl
theorem Sl.cut3 {H:cG}{s:SV}{α:Type}{e:Enc α}{xs:List α}(h:Sl H s e xs) {lo hi:Nat}(h1:lo≤hi) (h2:hi≤xs.length):Sl H (s.cut3 e.sz lo hi hi) e ((xs.take hi).drop lo):=by
 have hc:=Sl.cut h h1 h2
 refine⟨fun L hL=> ?_⟩
 obtain⟨a1,a2,a3⟩:=h.out L hL
 obtain⟨b1,b2,b3⟩:=hc.out L hL
 have hln:((xs.take hi).drop lo).length=hi - lo:=bB
 refine⟨by rw[hln];all_goals rfl,by show hi - lo≤hi - lo;omega,?_⟩
 by_cases e0:hi=lo
 ·left;exact⟨List.eq_nil_of_length_eq_zero (aa),by show hi - lo=0;omega⟩
 ·rcases b3 with⟨b4,_⟩|⟨b,off,C,E,fz,b4,b5,b6,b7⟩
  ·rw[b4]at hln;simp at hln;omega
  ·right
   refine⟨b,off,C,E,fz,?_,b5,?_,b7⟩
   ·have:¬s.c=lo:=by omega
    simp only[SV.cut,if_neg this]at b4
    simp only[SV.cut3,if_neg e0];exact b4
   ·have:(s.cut e.sz lo hi).c=s.c - lo:=rfl
    rw[this]at b6
    have h9:(hi - lo)*e.sz≤(s.c - lo)*e.sz:=Nat.mul_le_mul_right _ (aa)
    show off+(hi - lo)*e.sz≤C.size
    omega
theorem tO {nb:Nat}:∀{l:List Po}{nb:Nat},fW nb l→l≠ []→nb<dS nb l
 | [],_,_,h=> absurd rfl h
 | [p],nb,h,_=> by rw[iC,lQ];have:=h.1;omega
 |p::q::l,nb,h,_=> by
  rw[iC]
  have:=tO (nb:=0) (l:=q::l) h.2.2.2 (an)
  have:=h.1
  omega
theorem tF:∀{l:List Po}{nb:Nat},fW nb l→l.length≤dg l
 | [],_,_=> Yl _
 |p::l,nb,h=> by
  have:=tF h.2.2.2
  have:=List.length_pos_iff.2 h.2.1
  simp only[dg,List.map_cons,List.sum_cons,Yb]at*;omega
theorem uX:∀(l:List Po),dg l≤(dY l).length
 | []=> Nat.le_refl _
 |p::l=> by
  have:=uX l
  have:=sT p.2 0
  simp only[dg,dY,List.map_cons,List.sum_cons,List.flatMap_cons,Ya]at*;omega
theorem vp (l:List Po):∀k,dg (l.take (16*k))≤(cO l k).2.2.length
 | 0=> by simp[dg]
 |k+1=> by
  have:=vp l k
  have:=uX (de l k)
  rw[←jt,jz]
  simp only[cO,Ya,jN];omega
theorem Ck (l:List Po):dg l≤(dx l).length:=by
 have h:=vp l (dk l)
 rw[n5]at h
 simp only[dx,Ya];omega
theorem q9 {l:List Po}(h:fW 0 l) {k:Nat}(hk:k<dk l):(cO l k).1<(cO l (k+1)).1:=by
 have h1:=kP h k
 have h2:=(kQ hk).1
 exact tO (nb:=0) h1 (fun e=> by rw[e]at h2;simp at h2)
def skM (l:List Po) (i:Nat):List Sk:=(fj l).take i++(nt l (dk l)).drop i
theorem wk {l:List Po}{i:Nat}(h:i≤dk l):(skM l i).length=dk l:=by simp[skM,jl,pP];omega
theorem J6 {l:List Po}{i:Nat}(h:i<dk l):(skM l i)[i]? =some (sk0 l i):=by
 rw[skM,Yu (aA),Yg,jl,Nat.min_eq_left (aa),Nat.sub_self,Xh,Nat.add_zero,tm h]
theorem J5 {l:List Po}{i:Nat}(h:i<dk l):(skM l (i+1))[i]? =some (iZ l i):=by
 rw[skM,Yv (by rw[Yg,jl];omega),List.getElem?_take_of_lt (aa),ka h]
theorem J4 {l:List Po}{i:Nat}(h:i<dk l):(skM l i).set i (iZ l i)=skM l (i+1):=by
 have hl:((fj l).take i).length=i:=by rw[Yg,jl];omega
 have hd:(nt l (dk l)).drop i=sk0 l i::(nt l (dk l)).drop (i+1):=dF (tm h)
 rw[skM,hd,List.set_append_right _ _ (aa),hl,Nat.sub_self,List.set_cons_zero,skM,cP (ka h),Yf];all_goals rfl
theorem Od (l:List Po):skM l 0=nt l (dk l):=by simp[skM]
theorem J7 (l:List Po):skM l (dk l)=fj l:=by
 rw[skM,List.take_of_length_le (by rw[jl];exact Nat.le_refl _),List.drop_of_length_le (by rw[pP];exact Nat.le_refl _),Ym]
instance {a b c:Nat}:fK eSk (.agg [.int .i64 ((a:Nat):Int), .int .i64 ((b:Nat):Int), .int .i64 0, .int .i64 ((c:Nat):Int)].toArray) (a,b,0,c):=⟨rfl⟩
theorem A5 {G:cK}{H:cG}{b nb k:Nat}{v0 v1 v2:Value}{sk:SV}{l:List Sk} [cQ H b [v0,v1,v2,sk.val]] [hs:Sl H sk eSk l] (hkb:k≤1000000000) (h:k=0∧nb=0∨0<k∧∃e:Sk,l[k - 1]? =some e∧e.1+1=nb):SC G Tryz.prog 124 [.pointer (some ⟨b,0,none⟩), .int .i64 ((k:Nat):Int)] H (fun v H'=> v= .int .i64 (((nb:Nat):Int) - 1)∧H'=H):=by
 refine sWk Tryz.func124 Tryz.ntmps124 ?_
 refine gk (k:=wi_ (k:=fun h1=>?_) (m:=fun h1=>?_))
 ·refine gk (k:=rt_ Tryz.results124 (k:=?_))
  exact⟨_,hsb,congrArg (Value.int .i64) (aa),rfl⟩
 obtain⟨hk,e,he,hnb⟩:0<k∧∃e:Sk,l[k - 1]? =some e∧e.1+1=nb:=by rcases h with h|h;exfalso;omega;exact h
 have hlt:=(Yk.1 he).1
 refine wk_ (qn_ (ws_ (wr_ (e_ mv (k:=e_ nck (k:=e_ fla (k:=e_ ldv (k:=e_ mv (k:=?_)))))))))
 refine e_ (evq isb (congrArg (Value.int .i64) (show _=((k - 1:Nat):Int)from aa))) (k:=?_)
 refine e_ ixa (k:=e_ fle (k:=e_ (lfl (hy:=he)) (k:=gk (k:=rt_ Tryz.results124 (k:=?_)))))
 exact⟨_,hsb,congrArg (Value.int .i64) (show((e.1:Nat):Int)=((nb:Nat):Int) - 1 from aa),rfl⟩
theorem LG {G:cK}{H:cG}{b k:Nat}{v0 v1 v2:Value}{sk:SV}{l:List Sk}{e:Sk} [cQ H b [v0,v1,v2,sk.val]] [hs:Sl H sk eSk l] (he:l[k]? =some e):SC G Tryz.prog 190 [.pointer (some ⟨b,0,none⟩), .int .i64 ((k:Nat):Int)] H (fun v H'=> v= .tuple #[.agg [.int .i64 ((e.1:Nat):Int), .int .i64 ((e.2.1:Nat):Int), .int .i64 ((e.2.2.1:Nat):Int), .int .i64 ((e.2.2.2:Nat):Int)].toArray, .bool true]∧H'=H):=by
 have hlt:=(Yk.1 he).1
 refine sWk Tryz.func190 Tryz.ntmps190 ?_
 refine ws_ (wr_ (alc (k:=fun b4=>?_)))
 refine e_ asn (k:=on_ (qn_ (ws_ (ws_ (wr_ (e_ mv (k:=e_ ilt (k:=e_ mv (k:=dN 8 16 (k:=fun h1=>eg_ mv (k:=eg_ mv (k:=eg_ nck (k:=eg_ fla (k:=eg_ ldv (k:=eg_ lnn (k:=eg_ ige (k:=e_ pkf (k:=on_ (edq)))))))))) (q:=on_ (qn_ (wi_ (k:=fun h2=>?_) (m:=fun h2=>?_)))))))))))))
 ·exact absurd h2 (aa)
 refine wk_ (qn_ (ws_ (wr_ (e_ mv (k:=e_ nck (k:=e_ fla (k:=e_ ldv (k:=e_ mv (k:=e_ ixa (k:=e_ (jn (hy:=he)) (k:=sto (k:=e_ asn (k:=on_ (?_))))))))))))))
 refine qn_ (wt_ (rt_ Tryz.results190 (k:=?_)))
 exact⟨_,hsb,rfl,rfl⟩
theorem Bz {G:cK}{H:cG}{b k:Nat}{v1 v2:Value}{im sk:SV}{xs:List Nat}{l:List Sk}{e:Sk} [cQ H b [im.val,v1,v2,sk.val]] [hs:Sl H sk eSk l] [hi:Sl H im eB xs] (he:l[k]? =some e) (hx:e.2.2.1+e.2.2.2≤xs.length) (hn:xs.length≤10000000000):SC G Tryz.prog 123 [.pointer (some ⟨b,0,none⟩), .int .i64 ((k:Nat):Int)] H (fun v H'=> v=(im.cut3 1 e.2.2.1 (e.2.2.1+e.2.2.2) (e.2.2.1+e.2.2.2)).val∧H'=H):=by
 have hlt:=(Yk.1 he).1
 refine sWk Tryz.func123 Tryz.ntmps123 ?_
 refine ws_ (wr_ (e_ asn (k:=on_ (qn_ (ws_ (wr_ (e_ mv (k:=e_ nck (k:=e_ fla (k:=e_ ldv (k:=e_ mv (k:=e_ ixa (k:=e_ (jn (hy:=he)) (k:=?_))))))))))))))
 refine alc (k:=fun b5=>?_)
 refine go ?_
 refine cX cI (as_ 0 (q:=mv) (k:=as_ 1 (q:=nck) (k:=as_ 2 (q:=fla) (k:=as_ 3 (q:=ldv) (k:=as_ 4 (q:=fla) (k:=as_ 5 (q:=ldv) (k:=as_ 6 (q:=fla) (k:=as_ 7 (q:=ldv) (k:=as_ 8 (q:=fla) (k:=as_ 9 (q:=ldv) (k:=as_ 10 (q:=iad) (k:=as_ 11 (q:=fla) (k:=as_ 12 (q:=ldv) (k:=?_))))))))))))))
 refine as_ 13 (q:=fla) (k:=as_ 14 (q:=ldv) (k:=as_ 15 (q:=iad) (k:=?_)))
 refine cE 16 rfl rfl (a8) rfl (dz (DH (e:=eB) rfl e.2.2.1 (e.2.2.1+e.2.2.2) (e.2.2.1+e.2.2.2) ⟨_,_,rfl,rfl⟩ ⟨_,_,rfl,aa⟩ ⟨_,_,rfl,aa⟩ (aa) (aa) hx)) (?_)
 refine as_ 17 (q:=asn) (k:=az_ (k:=gk (k:=rt_ Tryz.results123 (k:=?_))))
 exact⟨_,hsb,rfl,rfl⟩
theorem KZ {l:List Po}(h:fW 0 l) {k:Nat}(hk:k≤dk l):k=0∧(cO l k).1=0∨0<k∧∃e:Sk,(fj l)[k - 1]? =some e∧e.1+1=(cO l k).1:=by
 rcases Nat.eq_zero_or_pos k with rfl|hp
 ·exact .inl ⟨rfl,rfl⟩
 ·obtain⟨j,rfl⟩:∃j,k=j+1:=⟨k - 1,aa⟩
  have:=q9 h (k:=j) (aa)
  exact .inr ⟨hp,_,ka (aa),by show(cO l (j+1)).1 - 1+1=_;omega⟩
theorem Mm {l:List Po}(h:fW 0 l) {k:Nat}(hk:k≤dk l):k=0∧(cO l k).1=0∨0<k∧∃e:Sk,(nt l k)[k - 1]? =some e∧e.1+1=(cO l k).1:=by
 rcases Nat.eq_zero_or_pos k with rfl|hp
 ·exact .inl ⟨rfl,rfl⟩
 ·obtain⟨j,rfl⟩:∃j,k=j+1:=⟨k - 1,aa⟩
  have:=q9 h (k:=j) (aa)
  exact .inr ⟨hp,_,tm (aa),by show(cO l (j+1)).1 - 1+1=_;omega⟩
theorem IN {G:cK}{H:cG}{b k:Nat}{v1 v2:Value}{im sk:SV}{l:List Po} [hg:Glb G H] [cQ H b [im.val,v1,v2,sk.val]] [hs:Sl H sk eSk (fj l)] [hi:Sl H im eB (dx l)] (hok:fW 0 l) (hsm:e8 l) (hn:(dx l).length≤10000000000) (hk:k<dk l):SC G Tryz.prog 193 [.pointer (some ⟨b,0,none⟩), .int .i64 ((k:Nat):Int)] H (fun v H'=> ∃(sl:SV) (zs:List PG),zs.map pgP=de l k∧v=sl.val∧H'=Row sl ePo (zs.map pgV)::Cl pgH zs::H):=by
 have hget:=ka hk
 have hln:=jl l
 obtain⟨hpc,hpl⟩:=ox l hk
 have hb1:=kP hok k
 have hb2:=m7 hsm k
 have hb3:=kQ hk
 have hnb:=(iA hsm k).2.2
 have hlsm:=hsm.1
 have hblk:dk l≤l.length+1:=cp
 haveI hcut:Sl H (im.cut3 1 (iZ l k).2.2.1 ((iZ l k).2.2.1+(iZ l k).2.2.2) ((iZ l k).2.2.1+(iZ l k).2.2.2)) eB (jN (cO l k).1 (de l k)):=by
  have:=Sl.cut3 hi (lo:=kz l k) (hi:=kz l k+fY l k) (aa) hpl
  rw[hpc]at this;exact this
 refine sWk Tryz.func193 Tryz.ntmps193 ?_
 refine ws_ (wr_ (e_ asn (k:=on_ (qn_ (ws_ (ws_ (wr_ (e_ mv (k:=e_ ilt (k:=e_ mv (k:=dN 8 17 (k:=fun h1=>eg_ mv (k:=eg_ mv (k:=eg_ nck (k:=eg_ fla (k:=eg_ ldv (k:=eg_ lnn (k:=eg_ ige (k:=e_ pkf (k:=on_ (edq)))))))))) (q:=on_ (qn_ (?_))))))))))))))
 refine wi_ (k:=fun h2=>?_) (m:=fun h2=>?_)
 ·exact absurd h2 (aa)
 refine wk_ (qn_ (ws_ (?_)))
 refine df cI (fun i=> [14].contains i) (fun k H=> (k=2→cQ H b [im.val,v1,v2,sk.val]∧Sl H sk eSk (fj l)∧Sl H im eB (dx l))∧(k=5→cQ H b [im.val,v1,v2,sk.val]∧Sl H sk eSk (fj l))∧(k=9→cQ H b [im.val,v1,v2,sk.val])∧(k=11→Sl H sk eSk (fj l))∧(k=12→Sl H sk eSk (fj l))∧(k=13→Sl H sk eSk (fj l))) (af_ 0 (q:=cD fun H hH=>mv) (k:=af_ 1 (q:=cD fun H hH=>mv) (k:=?_)))
 refine cE 2 rfl rfl (a8) rfl (fun H hH=> by have hN:=hH.1 rfl;obtain⟨n1,n2,n3⟩:=hN;exact cW (vs:= [_,_]) rfl (Bz (l:=fj l) (e:=iZ l k) hget hpl hn)) (?_)
 refine af_ 3 (q:=cD fun H hH=>mv) (k:=af_ 4 (q:=cD fun H hH=>mv) (k:=?_))
 refine cE 5 rfl rfl (a8) rfl (fun H hH=> by have hN:=hH.2.1 rfl;obtain⟨n1,n2⟩:=hN;exact cW (vs:= [_,_]) rfl (A5 (l:=fj l) (nb:=(cO l k).1) (aa) (KZ hok (aa)))) (?_)
 refine af_ 6 (q:=cD fun H hH=>mv) (k:=af_ 7 (q:=cD fun H hH=>nck) (k:=af_ 8 (q:=cD fun H hH=>fla) (k:=?_)))
 refine cE 9 rfl rfl (a8) rfl (cD fun H hH=>aF) (?_)
 refine af_ 10 (q:=cD fun H hH=>mv) (k:=?_)
 refine cE 11 rfl rfl (a8) rfl (cD fun H hH=>bV) (?_)
 refine cE 12 rfl rfl (a8) rfl (cD fun H hH=>by have hN:=hH.2.2.2.2.1 rfl;exact fle) (?_)
 refine cE 13 rfl rfl (a8) rfl (cD fun H hH=>by have hN:=hH.2.2.2.2.2 rfl;exact lfl (hy:=hget)) (?_)
 refine cN 14 rfl (a8) rfl (fun k hk=> ⟨fun hi=> ah,fun hi=> ah,fun hi=> ah,fun hi=> ah,fun hi=> ah,fun hi=> ah⟩) (cW (vs:= [_,_,_]) rfl (Bt (nb:=(cO l k).1) (l:=de l k) hb1 hb2 (aa) hnb)) ?_
 rintro _ _ ⟨sl,zs,hzs,rfl,rfl⟩
 refine af_ 15 (q:=cD fun H hH=>mv) (k:=af_ 16 (q:=cD fun H hH=>exr) (k:=af_ 17 (q:=cD fun H hH=>exr) (k:=af_ 18 (q:=cD fun H hH=>asn) (k:=af_ 19 (q:=cD fun H hH=>asn) (k:=db (a8) (fun k hk=> ⟨fun hi=> absurd hk (ad),fun hi=> absurd hk (ad),fun hi=> ah,fun hi=> ah,fun hi=> ah,fun hi=> absurd hk (ad)⟩) (qn_ (ws_ (wr_ (e_ mv (k:=e_ asn (k:=on_ (qn_ (wt_ (?_))))))))))))))
 refine rt_ Tryz.results193 (k:=?_)
 exact⟨_,hsb,sl,zs,hzs,rfl,rfl⟩
end Go.Sx
