import Derived.Test.YtefgpomabdplbaaGreatDoorQ32
import Derived.Test.YtefgpomabdplbaaGreatDoorQ31
set_option linter.unusedVariables false
set_option linter.unusedSimpArgs false
set_option linter.unusedSectionVars false
set_option linter.unnecessarySimpa false
set_option maxHeartbeats 0
namespace Go.Sx
open Go Go.Proofs
set_option maxRecDepth 100000
def SV.cut3 (s:SV) (sz lo hi mx:Nat):SV:=⟨if mx=lo then s.a else s.a.map (·.add (lo*sz)),hi - lo,mx - lo⟩
theorem DH {G:cK}{P:Program}{t:Tm}{H:cG}{dst:Option Tmp}{ty:TypeId}{pos:String}{after:Array Edge}{g:Option (Nat×Bool)}{T E:TypeId}{x lo hi mx:Operand}{s:SV}{α:Type}{e:Enc α}{xs:List α}{bb:Nat}{z:Value}(hx:evo t x=some s.val) [hT:Und P T (.slice E)] [hE:Inf P E e.sz bb z] [hs:Sl H s e xs]
 (l h m:Nat) (hlo:∃k j,evo t lo=some (.int k j)∧j=(l:Int)) (hhi:∃k j,evo t hi=some (.int k j)∧j=(h:Int)) (hmx:∃k j,evo t mx=some (.int k j)∧j=(m:Int)) (h1:l≤h) (h2:h≤m) (h3:m≤xs.length):
 Ev G P ⟨dst, .slice T x (some lo) (some hi) (some mx),ty,pos,after,g⟩ t H (s.cut3 e.sz l h m).val:=
 fun ρ hρ w hw=> by
  obtain⟨q1,q2,_⟩:=hs.get hw
  obtain⟨k1,j1,a1,rfl⟩:=hlo
  obtain⟨k2,j2,a2,rfl⟩:=hhi
  obtain⟨k3,j3,a3,rfl⟩:=hmx
  have b1:∀(j:Nat) (k:IntKind) (y:Nat) (cd:BoundsCode),j≤y→(Instr.sliceBound (.int k (j:Int)) y cd).run P w= .ok j w:=by
   intro j k y cd hj
   have:(j:Int)≤(y:Int):=aa
   simp[Instr.sliceBound,asIntOf,this]
  have e1:(Instr.sliceBounds true s.n s.c (some (ρ lo)) (some (ρ hi)) (some (ρ mx))).run P w= .ok (l,h,m) w:=by
   simp[Instr.sliceBounds,hρ _ _ a1,hρ _ _ a2,hρ _ _ a3,b1 m k3 s.c _ (aa),b1 h k2 m _ (aa),b1 l k1 h _ (aa)]
  simp only[execOp,hρ _ _ hx,Instr.sliceAt,SV.val,Option.map_some,Sem.run_bind,da (T:=T),Result.andThen_ok]
  simp only[Instr.slice,Sem.run_bind,da (T:=T),Result.andThen_ok,e1,dQ (T:=E) (s:=e.sz),Sem.run_pure]
  rfl
theorem Sl.cut3 {H:cG}{s:SV}{α:Type}{e:Enc α}{xs:List α}(h:Sl H s e xs) {lo hi:Nat}(h1:lo≤hi) (h2:hi≤xs.length):Sl H (s.cut3 e.sz lo hi hi) e ((xs.take hi).drop lo):=by
 have hc:=Sl.cut h h1 h2
 refine⟨fun L hL=> ?_⟩
 obtain⟨a1,a2,a3⟩:=h.out L hL
 obtain⟨b1,b2,b3⟩:=hc.out L hL
 have hln:((xs.take hi).drop lo).length=hi - lo:=bB
 refine⟨by rw[hln];all_goals rfl,by show hi - lo≤hi - lo;omega,?_⟩
 by_cases e0:hi=lo
 ·left;exact⟨List.eq_nil_of_length_eq_zero (aa),by show hi - lo=0;omega⟩
 ·rcases b3 with⟨b4,_⟩|⟨b,off,C,E,fz,b4,b5,b6,b7⟩
  ·rw[b4]at hln;simp at hln;omega
  ·right
   refine⟨b,off,C,E,fz,?_,b5,?_,b7⟩
   ·have:¬s.c=lo:=by omega
    simp only[SV.cut,if_neg this]at b4
    simp only[SV.cut3,if_neg e0];exact b4
   ·have:(s.cut e.sz lo hi).c=s.c - lo:=rfl
    rw[this]at b6
    have h9:(hi - lo)*e.sz≤(s.c - lo)*e.sz:=Nat.mul_le_mul_right _ (aa)
    show off+(hi - lo)*e.sz≤C.size
    omega
theorem tO {nb:Nat}:∀{l:List Po}{nb:Nat},fW nb l→l≠ []→nb<dS nb l
 | [],_,_,h=> absurd rfl h
 | [p],nb,h,_=> by rw[iC,lQ];have:=h.1;omega
 |p::q::l,nb,h,_=> by
  rw[iC]
  have:=tO (nb:=0) (l:=q::l) h.2.2.2 (an)
  have:=h.1
  omega
theorem tF:∀{l:List Po}{nb:Nat},fW nb l→l.length≤dg l
 | [],_,_=> Yl _
 |p::l,nb,h=> by
  have:=tF h.2.2.2
  have:=List.length_pos_iff.2 h.2.1
  simp only[dg,List.map_cons,List.sum_cons,Yb]at*;omega
theorem uX:∀(l:List Po),dg l≤(dY l).length
 | []=> Nat.le_refl _
 |p::l=> by
  have:=uX l
  have:=sT p.2 0
  simp only[dg,dY,List.map_cons,List.sum_cons,List.flatMap_cons,Ya]at*;omega
theorem vp (l:List Po):∀k,dg (l.take (16*k))≤(cO l k).2.2.length
 | 0=> by simp[dg]
 |k+1=> by
  have:=vp l k
  have:=uX (de l k)
  rw[←jt,jz]
  simp only[cO,Ya,jN];omega
theorem Ck (l:List Po):dg l≤(dx l).length:=by
 have h:=vp l (dk l)
 rw[n5]at h
 simp only[dx,Ya];omega
theorem q9 {l:List Po}(h:fW 0 l) {k:Nat}(hk:k<dk l):(cO l k).1<(cO l (k+1)).1:=by
 have h1:=kP h k
 have h2:=(kQ hk).1
 exact tO (nb:=0) h1 (fun e=> by rw[e]at h2;simp at h2)
def skM (l:List Po) (i:Nat):List Sk:=(fj l).take i++(nt l (dk l)).drop i
theorem wk {l:List Po}{i:Nat}(h:i≤dk l):(skM l i).length=dk l:=by simp[skM,jl,pP];omega
theorem J6 {l:List Po}{i:Nat}(h:i<dk l):(skM l i)[i]? =some (sk0 l i):=by
 rw[skM,Yu (aA),Yg,jl,Nat.min_eq_left (aa),Nat.sub_self,Xh,Nat.add_zero,tm h]
theorem J5 {l:List Po}{i:Nat}(h:i<dk l):(skM l (i+1))[i]? =some (iZ l i):=by
 rw[skM,Yv (by rw[Yg,jl];omega),List.getElem?_take_of_lt (aa),ka h]
theorem J4 {l:List Po}{i:Nat}(h:i<dk l):(skM l i).set i (iZ l i)=skM l (i+1):=by
 have hl:((fj l).take i).length=i:=by rw[Yg,jl];omega
 have hd:(nt l (dk l)).drop i=sk0 l i::(nt l (dk l)).drop (i+1):=dF (tm h)
 rw[skM,hd,List.set_append_right _ _ (aa),hl,Nat.sub_self,List.set_cons_zero,skM,cP (ka h),Yf];all_goals rfl
theorem Od (l:List Po):skM l 0=nt l (dk l):=by simp[skM]
theorem J7 (l:List Po):skM l (dk l)=fj l:=by
 rw[skM,List.take_of_length_le (by rw[jl];exact Nat.le_refl _),List.drop_of_length_le (by rw[pP];exact Nat.le_refl _),Ym]
instance {a b c:Nat}:fK eSk (.agg [.int .i64 ((a:Nat):Int), .int .i64 ((b:Nat):Int), .int .i64 0, .int .i64 ((c:Nat):Int)].toArray) (a,b,0,c):=⟨rfl⟩
theorem A5 {G:cK}{H:cG}{b nb k:Nat}{v0 v1 v2:Value}{sk:SV}{l:List Sk} [cQ H b [v0,v1,v2,sk.val]] [hs:Sl H sk eSk l] (hkb:k≤1000000000) (h:k=0∧nb=0∨0<k∧∃e:Sk,l[k - 1]? =some e∧e.1+1=nb):SC G Tryz.prog 124 [.pointer (some ⟨b,0,none⟩), .int .i64 ((k:Nat):Int)] H (fun v H'=> v= .int .i64 (((nb:Nat):Int) - 1)∧H'=H):=by
 refine sWk Tryz.func124 Tryz.ntmps124 ?_
 refine gk (k:=wi_ (k:=fun h1=>?_) (m:=fun h1=>?_))
 ·refine gk (k:=rt_ Tryz.results124 (k:=?_))
  exact⟨_,hsb,congrArg (Value.int .i64) (aa),rfl⟩
 obtain⟨hk,e,he,hnb⟩:0<k∧∃e:Sk,l[k - 1]? =some e∧e.1+1=nb:=by rcases h with h|h;exfalso;omega;exact h
 have hlt:=(Yk.1 he).1
 refine wk_ (qn_ (ws_ (wr_ (e_ mv (k:=e_ nck (k:=e_ fla (k:=e_ ldv (k:=e_ mv (k:=?_)))))))))
 refine e_ (evq isb (congrArg (Value.int .i64) (show _=((k - 1:Nat):Int)from aa))) (k:=?_)
 refine e_ ixa (k:=e_ fle (k:=e_ (lfl (hy:=he)) (k:=gk (k:=rt_ Tryz.results124 (k:=?_)))))
 exact⟨_,hsb,congrArg (Value.int .i64) (show((e.1:Nat):Int)=((nb:Nat):Int) - 1 from aa),rfl⟩
theorem LG {G:cK}{H:cG}{b k:Nat}{v0 v1 v2:Value}{sk:SV}{l:List Sk}{e:Sk} [cQ H b [v0,v1,v2,sk.val]] [hs:Sl H sk eSk l] (he:l[k]? =some e):SC G Tryz.prog 190 [.pointer (some ⟨b,0,none⟩), .int .i64 ((k:Nat):Int)] H (fun v H'=> v= .tuple #[.agg [.int .i64 ((e.1:Nat):Int), .int .i64 ((e.2.1:Nat):Int), .int .i64 ((e.2.2.1:Nat):Int), .int .i64 ((e.2.2.2:Nat):Int)].toArray, .bool true]∧H'=H):=by
 have hlt:=(Yk.1 he).1
 refine sWk Tryz.func190 Tryz.ntmps190 ?_
 refine ws_ (wr_ (alc (k:=fun b4=>?_)))
 refine e_ asn (k:=on_ (qn_ (ws_ (ws_ (wr_ (e_ mv (k:=e_ ilt (k:=e_ mv (k:=dN 8 16 (k:=fun h1=>eg_ mv (k:=eg_ mv (k:=eg_ nck (k:=eg_ fla (k:=eg_ ldv (k:=eg_ lnn (k:=eg_ ige (k:=e_ pkf (k:=on_ (edq)))))))))) (q:=on_ (qn_ (wi_ (k:=fun h2=>?_) (m:=fun h2=>?_)))))))))))))
 ·exact absurd h2 (aa)
 refine wk_ (qn_ (ws_ (wr_ (e_ mv (k:=e_ nck (k:=e_ fla (k:=e_ ldv (k:=e_ mv (k:=e_ ixa (k:=e_ (jn (hy:=he)) (k:=sto (k:=e_ asn (k:=on_ (?_))))))))))))))
 refine qn_ (wt_ (rt_ Tryz.results190 (k:=?_)))
 exact⟨_,hsb,rfl,rfl⟩
theorem Bz {G:cK}{H:cG}{b k:Nat}{v1 v2:Value}{im sk:SV}{xs:List Nat}{l:List Sk}{e:Sk} [cQ H b [im.val,v1,v2,sk.val]] [hs:Sl H sk eSk l] [hi:Sl H im eB xs] (he:l[k]? =some e) (hx:e.2.2.1+e.2.2.2≤xs.length) (hn:xs.length≤10000000000):SC G Tryz.prog 123 [.pointer (some ⟨b,0,none⟩), .int .i64 ((k:Nat):Int)] H (fun v H'=> v=(im.cut3 1 e.2.2.1 (e.2.2.1+e.2.2.2) (e.2.2.1+e.2.2.2)).val∧H'=H):=by
 have hlt:=(Yk.1 he).1
 refine sWk Tryz.func123 Tryz.ntmps123 ?_
 refine ws_ (wr_ (e_ asn (k:=on_ (qn_ (ws_ (wr_ (e_ mv (k:=e_ nck (k:=e_ fla (k:=e_ ldv (k:=e_ mv (k:=e_ ixa (k:=e_ (jn (hy:=he)) (k:=?_))))))))))))))
 refine alc (k:=fun b5=>?_)
 refine go ?_
 refine cX cI (as_ 0 (q:=mv) (k:=as_ 1 (q:=nck) (k:=as_ 2 (q:=fla) (k:=as_ 3 (q:=ldv) (k:=as_ 4 (q:=fla) (k:=as_ 5 (q:=ldv) (k:=as_ 6 (q:=fla) (k:=as_ 7 (q:=ldv) (k:=as_ 8 (q:=fla) (k:=as_ 9 (q:=ldv) (k:=as_ 10 (q:=iad) (k:=as_ 11 (q:=fla) (k:=as_ 12 (q:=ldv) (k:=?_))))))))))))))
 refine as_ 13 (q:=fla) (k:=as_ 14 (q:=ldv) (k:=as_ 15 (q:=iad) (k:=?_)))
 refine cE 16 rfl rfl (a8) rfl (dz (DH (e:=eB) rfl e.2.2.1 (e.2.2.1+e.2.2.2) (e.2.2.1+e.2.2.2) ⟨_,_,rfl,rfl⟩ ⟨_,_,rfl,aa⟩ ⟨_,_,rfl,aa⟩ (aa) (aa) hx)) (?_)
 refine as_ 17 (q:=asn) (k:=az_ (k:=gk (k:=rt_ Tryz.results123 (k:=?_))))
 exact⟨_,hsb,rfl,rfl⟩
theorem KZ {l:List Po}(h:fW 0 l) {k:Nat}(hk:k≤dk l):k=0∧(cO l k).1=0∨0<k∧∃e:Sk,(fj l)[k - 1]? =some e∧e.1+1=(cO l k).1:=by
 rcases Nat.eq_zero_or_pos k with rfl|hp
 ·exact .inl ⟨rfl,rfl⟩
 ·obtain⟨j,rfl⟩:∃j,k=j+1:=⟨k - 1,aa⟩
  have:=q9 h (k:=j) (aa)
  exact .inr ⟨hp,_,ka (aa),by show(cO l (j+1)).1 - 1+1=_;omega⟩
theorem Mm {l:List Po}(h:fW 0 l) {k:Nat}(hk:k≤dk l):k=0∧(cO l k).1=0∨0<k∧∃e:Sk,(nt l k)[k - 1]? =some e∧e.1+1=(cO l k).1:=by
 rcases Nat.eq_zero_or_pos k with rfl|hp
 ·exact .inl ⟨rfl,rfl⟩
 ·obtain⟨j,rfl⟩:∃j,k=j+1:=⟨k - 1,aa⟩
  have:=q9 h (k:=j) (aa)
  exact .inr ⟨hp,_,tm (aa),by show(cO l (j+1)).1 - 1+1=_;omega⟩
theorem IN {G:cK}{H:cG}{b k:Nat}{v1 v2:Value}{im sk:SV}{l:List Po} [hg:Glb G H] [cQ H b [im.val,v1,v2,sk.val]] [hs:Sl H sk eSk (fj l)] [hi:Sl H im eB (dx l)] (hok:fW 0 l) (hsm:e8 l) (hn:(dx l).length≤10000000000) (hk:k<dk l):SC G Tryz.prog 193 [.pointer (some ⟨b,0,none⟩), .int .i64 ((k:Nat):Int)] H (fun v H'=> ∃(sl:SV) (zs:List PG),zs.map pgP=de l k∧v=sl.val∧H'=Row sl ePo (zs.map pgV)::Cl pgH zs::H):=by
 have hget:=ka hk
 have hln:=jl l
 obtain⟨hpc,hpl⟩:=ox l hk
 have hb1:=kP hok k
 have hb2:=m7 hsm k
 have hb3:=kQ hk
 have hnb:=(iA hsm k).2.2
 have hlsm:=hsm.1
 have hblk:dk l≤l.length+1:=cp
 haveI hcut:Sl H (im.cut3 1 (iZ l k).2.2.1 ((iZ l k).2.2.1+(iZ l k).2.2.2) ((iZ l k).2.2.1+(iZ l k).2.2.2)) eB (jN (cO l k).1 (de l k)):=by
  have:=Sl.cut3 hi (lo:=kz l k) (hi:=kz l k+fY l k) (aa) hpl
  rw[hpc]at this;exact this
 refine sWk Tryz.func193 Tryz.ntmps193 ?_
 refine ws_ (wr_ (e_ asn (k:=on_ (qn_ (ws_ (ws_ (wr_ (e_ mv (k:=e_ ilt (k:=e_ mv (k:=dN 8 17 (k:=fun h1=>eg_ mv (k:=eg_ mv (k:=eg_ nck (k:=eg_ fla (k:=eg_ ldv (k:=eg_ lnn (k:=eg_ ige (k:=e_ pkf (k:=on_ (edq)))))))))) (q:=on_ (qn_ (?_))))))))))))))
 refine wi_ (k:=fun h2=>?_) (m:=fun h2=>?_)
 ·exact absurd h2 (aa)
 refine wk_ (qn_ (ws_ (?_)))
 refine df cI (fun i=> [14].contains i) (fun k H=> (k=2→cQ H b [im.val,v1,v2,sk.val]∧Sl H sk eSk (fj l)∧Sl H im eB (dx l))∧(k=5→cQ H b [im.val,v1,v2,sk.val]∧Sl H sk eSk (fj l))∧(k=9→cQ H b [im.val,v1,v2,sk.val])∧(k=11→Sl H sk eSk (fj l))∧(k=12→Sl H sk eSk (fj l))∧(k=13→Sl H sk eSk (fj l))) (af_ 0 (q:=cD fun H hH=>mv) (k:=af_ 1 (q:=cD fun H hH=>mv) (k:=?_)))
 refine cE 2 rfl rfl (a8) rfl (fun H hH=> by have hN:=hH.1 rfl;obtain⟨n1,n2,n3⟩:=hN;exact cW (vs:= [_,_]) rfl (Bz (l:=fj l) (e:=iZ l k) hget hpl hn)) (?_)
 refine af_ 3 (q:=cD fun H hH=>mv) (k:=af_ 4 (q:=cD fun H hH=>mv) (k:=?_))
 refine cE 5 rfl rfl (a8) rfl (fun H hH=> by have hN:=hH.2.1 rfl;obtain⟨n1,n2⟩:=hN;exact cW (vs:= [_,_]) rfl (A5 (l:=fj l) (nb:=(cO l k).1) (aa) (KZ hok (aa)))) (?_)
 refine af_ 6 (q:=cD fun H hH=>mv) (k:=af_ 7 (q:=cD fun H hH=>nck) (k:=af_ 8 (q:=cD fun H hH=>fla) (k:=?_)))
 refine cE 9 rfl rfl (a8) rfl (cD fun H hH=>aF) (?_)
 refine af_ 10 (q:=cD fun H hH=>mv) (k:=?_)
 refine cE 11 rfl rfl (a8) rfl (cD fun H hH=>bV) (?_)
 refine cE 12 rfl rfl (a8) rfl (cD fun H hH=>by have hN:=hH.2.2.2.2.1 rfl;exact fle) (?_)
 refine cE 13 rfl rfl (a8) rfl (cD fun H hH=>by have hN:=hH.2.2.2.2.2 rfl;exact lfl (hy:=hget)) (?_)
 refine cN 14 rfl (a8) rfl (fun k hk=> ⟨fun hi=> ah,fun hi=> ah,fun hi=> ah,fun hi=> ah,fun hi=> ah,fun hi=> ah⟩) (cW (vs:= [_,_,_]) rfl (Bt (nb:=(cO l k).1) (l:=de l k) hb1 hb2 (aa) hnb)) ?_
 rintro _ _ ⟨sl,zs,hzs,rfl,rfl⟩
 refine af_ 15 (q:=cD fun H hH=>mv) (k:=af_ 16 (q:=cD fun H hH=>exr) (k:=af_ 17 (q:=cD fun H hH=>exr) (k:=af_ 18 (q:=cD fun H hH=>asn) (k:=af_ 19 (q:=cD fun H hH=>asn) (k:=db (a8) (fun k hk=> ⟨fun hi=> absurd hk (ad),fun hi=> absurd hk (ad),fun hi=> ah,fun hi=> ah,fun hi=> ah,fun hi=> absurd hk (ad)⟩) (qn_ (ws_ (wr_ (e_ mv (k:=e_ asn (k:=on_ (qn_ (wt_ (?_))))))))))))))
 refine rt_ Tryz.results193 (k:=?_)
 exact⟨_,hsb,sl,zs,hzs,rfl,rfl⟩
theorem LX {G:cK}{H R:cG}{b:Nat}{im:SV}{ps:List Po} [hg:Glb G R] [hr:Rem H Vr b [im.val, .int .i64 0, .int .i64 0, .slice none 0 0] R] [hi:Sl R im eB (dx ps)] (hok:fW 0 ps) (hsm:e8 ps) (hn:(dx ps).length≤10000000000):SC G Tryz.prog 121 [.pointer (some ⟨b,0,none⟩)] H (fun v H'=> ∃sk:SV,v= .bool true∧H'=Vr b [im.val, .int .i64 ((ps.length:Nat):Int), .int .i64 ((dg ps:Nat):Int),sk.val]::Row sk eSk (fj ps)::R):=by
 have hb:=z8 hsm
 have hto:=tF hok
 have hte:=Ck ps
 have hpl:=hsm.1
 obtain⟨xs,hxs⟩:∃xs,xs=dx ps:=⟨_,rfl⟩
 have hi2:Sl R im eB xs:=by rw[hxs];exact hi
 clear hi
 rw[←hxs]at hb hte hn
 obtain⟨B,hB⟩:∃B,B=dk ps:=⟨_,rfl⟩
 have hB16:ps.length≤16*B∧16*B≤ps.length+15:=by rw[hB];unfold dk;omega
 obtain⟨A,hA⟩:∃A,A=(uv ps.length).length+(uv (dg ps)).length:=⟨_,rfl⟩
 have hd0:gP 0 (xs.drop 0)= .ok (ps.length,(uv ps.length).length):=by rw[List.drop_zero,hxs,uk];exact wx _ (aa)
 have hd1:gP 0 (xs.drop (0+(uv ps.length).length))= .ok (dg ps,(uv (dg ps)).length):=by rw[Nat.zero_add,hxs,uk,List.drop_left];exact wx _ (aa)
 have hlen:A+(cO ps B).2.1.length≤xs.length:=by rw[hxs,uk,hA,hB];simp only[Ya];omega
 have hoff0:kz ps 0=A+(cO ps B).2.1.length:=by rw[kz,Ca,hA,hB];simp[cO]
 have hoffB:kz ps B=xs.length:=by rw[hB,Ju,hxs]
 refine SC.rem (h:=hr) ?_
 refine sWk Tryz.func121 Tryz.ntmps121 ?_
 refine go ?_
 refine c1_ rfl (iS (xs:=xs) (aa)) (k:=?_)
 rintro _ _ ⟨br,rfl,rfl⟩
 refine go ?_
 refine d1_ rfl (EN (aa) (aa) hb hd0) (k:=e_ mv (k:=e_ exr (k:=e_ exr (k:=e_ asn (k:=e_ asn (k:=on_ (qn_ (ws_ (ws_ (wr_ (e_ mv (k:=?_))))))))))))
 refine e_ (cM rfl) (k:=?_)
 refine e_ mv (k:=eg_ mv (k:=?_))
 refine eg_ (gn rfl rfl _ 16 rfl rfl (aa) (by first|decide|(show _≤(18446744073709551615:Int);omega))) (k:=?_)
 refine eg_ mv (k:=eg_ nck (k:=eg_ fla (k:=eg_ ldv (k:=eg_ lnn (k:=?_)))))
 refine eg_ ((ae)) (k:=?_)
 refine gk (k:=wi_ (k:=fun h1=>?_) (m:=fun h1=>?_))
 ·exact absurd h1 (aa)
 refine go ?_
 refine d1_ rfl (EN (aa) (aa) hb hd1) (k:=?_)
 rw[Nat.zero_add,←hA]
 refine e_ mv (k:=e_ exr (k:=e_ exr (k:=e_ asn (k:=e_ asn (k:=on_ (qn_ (ws_ (ws_ (wr_ (e_ mv (k:=?_)))))))))))
 refine e_ (cM rfl) (k:=?_)
 refine e_ mv (k:=eg_ mv (k:=eg_ mv (k:=eg_ nck (k:=eg_ fla (k:=eg_ ldv (k:=eg_ lnn (k:=?_)))))))
 refine eg_ ((ae)) (k:=?_)
 refine gk (k:=wi_ (k:=fun h2=>?_) (m:=fun h2=>?_))
 ·exact absurd h2 (aa)
 refine wk_ (qn_ (ws_ (wr_ (e_ mv (k:=e_ mv (k:=e_ mv (k:=?_)))))))
 refine e_ (dy rfl (aa)) (k:=?_)
 refine e_ mv (k:=?_)
 refine e_ (dy rfl (aa)) (k:=?_)
 refine e_ nck (k:=e_ fla (k:=sto (k:=e_ nck (k:=e_ fla (k:=sto (k:=on_ (qn_ (ws_ (ws_ (wr_ (?_)))))))))))
 refine du (cJ.nilRow (e:=eSk) cJ.refl) ?_
 rw[show Row SV.nil eSk ([]:List Sk)=Row SV.nil eSk (nt ps 0)from rfl]
 refine gk (k:=dt (Nat×Nat×SV) (fun y=> y.1=16*y.2.1∧y.2.1≤B) (fun y=> [(7, .int .i64 ((y.1:Nat):Int))]) [(0,_),(3,_)] (fun y=> [Vr b [im.val, .int .i64 ((ps.length:Nat):Int), .int .i64 ((dg ps:Nat):Int),y.2.2.val],Row y.2.2 eSk (nt ps y.2.1),Rd br (xs,A+(cO ps y.2.1).2.1.length)]) _ (fun y=> B - y.2.1) ((0,0,SV.nil)) (h0:=?_) (k:=?_))
 ·try dsimp only
  exact⟨rfl,Yl _⟩
 rintro⟨i,k,u⟩ ⟨hi,hk⟩
 try dsimp only[Yd,Ye]at*
 refine gk (k:=wi_ (k:=fun h3=>?_) (m:=fun h3=>?_))
 ·have hkB:k<B:=by omega
  have hkb:k<dk ps:=aa
  have hnb:=q9 hok hkb
  have hnb6:=(iA hsm (k+1)).2.2
  have hnbe:(cO ps (k+1)).1=dS (cO ps k).1 (de ps k):=rfl
  obtain⟨r,hr0⟩:=DI ps hkb
  rw[←hnbe,←hA,←hxs]at hr0
  obtain⟨_,hpl2⟩:=ox ps hkb
  rw[←hxs]at hpl2
  have hbn:=kQ hkb
  obtain⟨gp,hgp⟩:∃gp,gp=(cO ps (k+1)).1 - 1 - (cO ps k).1:=⟨_,rfl⟩
  rw[←hgp]at hr0
  obtain⟨K,hK⟩:∃K,K=A+(cO ps k).2.1.length:=⟨_,rfl⟩
  rw[←hK]at hr0
  have hr1:xs.drop (K+(uv gp).length)=uv (fY ps k)++r:=by rw[←List.drop_drop,hr0,List.drop_left]
  have hr2:=congrArg List.length hr0
  rw[Yo,Ya,Ya]at hr2
  have hu1:=oV gp
  have hrd0:fG 2147483647 (xs.drop K)= .ok (gp,(uv gp).length):=by rw[hr0];exact ey _ (aa) (aa)
  have hrd1:fG xs.length (xs.drop (K+(uv gp).length))= .ok (fY ps k,(uv (fY ps k)).length):=by rw[hr1];exact ey _ (aa) (aa)
  have hskl:=pP ps k
  have hKn:K+(uv gp).length+(uv (fY ps k)).length=A+(cO ps (k+1)).2.1.length:=by
   simp only[cO,Ya];rw[←hnbe,←hgp,hK];simp only[fY];omega
  rw[←hK]
  refine wk_ (qn_ (ws_ (wb_ (ws_ (wr_ (e_ mv (k:=e_ mv (k:=e_ nck (k:=e_ fla (k:=e_ ldv (k:=?_)))))))))))
  refine e_ (evq lnn (congrArg (fun n:Nat=> Value.int .i64 (n:Int)) hskl)) (k:=?_)
  refine d2_ rfl (A5 (l:=nt ps k) (nb:=(cO ps k).1) (aa) (Mm hok (k:=k) (aa))) (k:=go ?_)
  refine d2_ rfl (sj (most:=2147483647) (aa) (aa) hb (aa) hrd0) (k:=e_ mv (k:=e_ exr (k:=e_ exr (k:=e_ asn (k:=e_ asn (k:=on_ (qn_ (ws_ (ws_ (wr_ (e_ mv (k:=?_))))))))))))
  refine e_ (cM rfl) (k:=?_)
  refine gk (k:=wi_ (k:=fun h4=>?_) (m:=fun h4=>?_))
  ·exact absurd h4 (aa)
  refine go ?_
  refine d2_ rfl (sj (most:=xs.length) (aa) (aa) hb (aa) hrd1) (k:=?_)
  rw[hKn]
  refine e_ mv (k:=e_ exr (k:=e_ exr (k:=e_ asn (k:=e_ asn (k:=on_ (qn_ (ws_ (ws_ (wr_ (e_ mv (k:=?_)))))))))))
  refine e_ (cM rfl) (k:=?_)
  refine gk (k:=eg (k:=go ?_))
  refine df cI (fun i=> [18,19,22].contains i) (fun k H=> (k=4→cQ H b [im.val, .int .i64 ((ps.length:Nat):Int), .int .i64 ((dg ps:Nat):Int),u.val])∧(k=12→cQ H b [im.val, .int .i64 ((ps.length:Nat):Int), .int .i64 ((dg ps:Nat):Int),u.val])) (af_ 0 (q:=cD fun H hH=>mv) (k:=af_ 1 (q:=cD fun H hH=>mv) (k:=af_ 2 (q:=cD fun H hH=>nck) (k:=af_ 3 (q:=cD fun H hH=>fla) (k:=?_)))))
  refine cE 4 rfl rfl (a8) rfl (cD fun H hH=>ak) (?_)
  refine af_ 5 (q:=cD fun H hH=>mv) (k:=af_ 6 (q:=cD fun H hH=>mv) (k:=af_ 7 (q:=cD fun H hH=>iad) (k:=?_)))
  refine cE 8 rfl rfl (a8) rfl (cD fun H hH=>evq iad (congrArg (Value.int .i64) (show _=(((cO ps (k+1)).1 - 1:Nat):Int)from aa))) (?_)
  refine af_ 9 (q:=cD fun H hH=>mv) (k:=af_ 10 (q:=cD fun H hH=>nck) (k:=af_ 11 (q:=cD fun H hH=>fla) (k:=?_)))
  refine cE 12 rfl rfl (a8) rfl (cD fun H hH=>aE) (?_)
  refine af_ 13 (q:=cD fun H hH=>mv) (k:=af_ 14 (q:=cD fun H hH=>isb) (k:=?_))
  refine cE 15 rfl rfl (a8) rfl (cD fun H hH=>evq (mN rfl rfl) (congrArg (Value.int .i64) (show _=(((de ps k).length:Nat):Int)from aa))) (?_)
  refine af_ 16 (q:=cD fun H hH=>mv) (k:=af_ 17 (q:=cD fun H hH=>bld [(0,_),(1,_),(3,_)]) (k:=?_))
  refine cN 18 rfl (a8) rfl (fun k hk=> ⟨fun hi=> ab,fun hi=> ab⟩) (ew eSk rfl rfl) ?_
  rintro _ _ ⟨s123,rfl,rfl⟩
  refine cN 19 rfl (a8) rfl (fun k hk=> ⟨fun hi=> ab,fun hi=> ab⟩) (eY rfl rfl rfl rfl (af) (af)) ?_
  rintro _ _ ⟨s124,rfl,rfl⟩
  rw[show nt ps k++ [((cO ps (k+1)).1 - 1,(de ps k).length,0,fY ps k)]=nt ps (k+1)from(D2 ps k).symm]
  refine af_ 20 (q:=cD fun H hH=>nck) (k:=af_ 21 (q:=cD fun H hH=>fla) (k:=?_))
  refine cN 22 rfl (a8) rfl (fun k hk=> ⟨fun hi=> absurd hk (ad),fun hi=> ab⟩) (dM rfl rfl rfl) ?_
  rintro _ _ ⟨rfl,rfl⟩
  refine db (a8) (fun k hk=> ⟨fun hi=> absurd hk (ad),fun hi=> absurd hk (ad)⟩) (go ?_)
  refine ln_ ((i+16,k+1,s124)) (k:=?_)
  try dsimp only
  exact⟨aa,aa⟩
 obtain rfl:k=B:=aa
 have hskl:=pP ps k
 refine go ?_
 refine d1_ rfl (tl) (k:=?_)
 rw[←hoff0,show nt ps k=skM ps 0 from by rw[hB,Od]]
 refine e_ asn (k:=on_ (qn_ (ws_ (ws_ (wr_ (e_ mv (k:=e_ nck (k:=e_ fla (k:=e_ ldv (k:=?_))))))))))
 have hml:=wk (l:=ps) (i:=0) (Yl _)
 refine e_ (evq lnn (congrArg (fun n:Nat=> Value.int .i64 (n:Int)) (hml.trans hB.symm))) (k:=?_)
 refine gk (k:=dt (Nat) (fun y=> y≤k) (fun y=> [(12, .int .i64 ((kz ps y:Nat):Int)),(136, .int .i64 ((y:Nat):Int))]) [(0,_),(135,_)] (fun y=> [Row u eSk (skM ps y)]) _ (fun y=> k - y) (0) (h0:=?_) (k:=?_))
 ·try dsimp only
  exact Yl _
 rintro i hik
 try dsimp only[Yd,Ye]at*
 refine gk (k:=wi_ (k:=fun h5=>?_) (m:=fun h5=>?_))
 ·have hib:i<dk ps:=by omega
  have hml:=wk (l:=ps) (i:=i) (aa)
  have hml1:=wk (l:=ps) (i:=i+1) (aa)
  have hgt:=J5 hib
  have hos:=FQ ps i
  obtain⟨_,hpl2⟩:=ox ps hib
  rw[←hxs]at hpl2
  refine go ?_
  refine go ?_
  refine s_ (rz (o:=2) (a:=iZ ps i) rfl rfl rfl (sk0 ps i) (J6 hib) (ag) rfl) (k:=?_)
  rintro _ _ ⟨rfl,rfl⟩
  rw[J4 hib]
  refine go ?_
  refine cX cI (as_ 0 (q:=mv) (k:=as_ 1 (q:=nck) (k:=as_ 2 (q:=fla) (k:=as_ 3 (q:=ldv) (k:=as_ 4 (q:=mv) (k:=as_ 5 (q:=ixa) (k:=as_ 6 (q:=fle) (k:=as_ 7 (q:=lfl (hy:=hgt)) (k:=as_ 8 (q:=mv) (k:=as_ 9 (q:=nck) (k:=as_ 10 (q:=fla) (k:=as_ 11 (q:=ldv) (k:=as_ 12 (q:=lnn) (k:=?_))))))))))))))
  refine as_ 13 (q:=mv) (k:=as_ 14 (q:=isb) (k:=as_ 15 (q:=igt) (k:=az_ (k:=gk (k:=wi_ (k:=fun h6=>?_) (m:=fun h6=>?_))))))
  ·exact absurd h6 (by show ¬_;simp only[iZ];omega)
  refine wk_ (qn_ (wr_ (e_ mv (k:=e_ mv (k:=e_ nck (k:=e_ fla (k:=e_ ldv (k:=e_ mv (k:=e_ ixa (k:=e_ fle (k:=e_ (lfl (hy:=hgt)) (k:=?_))))))))))))
  refine e_ (evq iad (congrArg (Value.int .i64) (show((kz ps i:Nat):Int)+((fY ps i:Nat):Int)=((kz ps (i+1):Nat):Int)from aa))) (k:=?_)
  refine go ?_
  refine ln_ (i+1) (k:=?_)
  try dsimp only
  omega
 obtain rfl:i=k:=aa
 rw[show skM ps i=fj ps from by rw[hB,J7]]
 refine we_ (qe_ (le_ (bh_ (qn_ (ws_ (wr_ (e_ mv (k:=e_ mv (k:=e_ nck (k:=e_ fla (k:=e_ ldv (k:=e_ lnn (k:=?_)))))))))))))
 refine e_ (evq ieq (congrArg Value.bool (Ys (aa)))) (k:=?_)
 refine gk (k:=rt_ Tryz.results121 (k:=?_))
 exact⟨_,hsb,u,rfl,rfl⟩
theorem EA {ps:List Po}{k:Nat}:dg (ps.take (16*(k+1)))=dg (ps.take (16*k))+dg (de ps k):=by rw[←jt,jz]
theorem zu {l:List Po}(h:fW 0 l) {k:Nat}(hk:k<dk l) {p:Po}(hp:(de l k)[(de l k).length - 1]? =some p):p.1+1=(cO l (k+1)).1:=by
 have h2:=(kQ hk).1
 have:(de l k).getLast? =some p:=by rw[List.getLast?_eq_getElem?];exact hp
 show p.1+1=dS (cO l k).1 (de l k)
 rw[dS,this]
theorem Ow {b:Nat}{ps:List Po}{im sk:SV}{R:cG}:cJ (Vr b [im.val, .int .i64 ((ps.length:Nat):Int), .int .i64 ((dg ps:Nat):Int),sk.val]::Row im eB (dx ps)::Row sk eSk (fj ps)::R) (LPh (some b) im sk ps::R):=cJ.star (F:= [Vr b [im.val, .int .i64 ((ps.length:Nat):Int), .int .i64 ((dg ps:Nat):Int),sk.val],Row im eB (dx ps),Row sk eSk (fj ps)]) cJ.refl
theorem LM {G:cK}{H:cG}{s:SV}{ps:List Po} [hg:Glb G H] [hs:Sl H s eB (dx ps)] (hok:fW 0 ps) (hsm:e8 ps) (hn:(dx ps).length≤10000000000):SC G Tryz.prog 67 [s.val] H (fun v H'=> ∃(b:Nat) (im sk:SV),v= .tuple #[.pointer (some ⟨b,0,none⟩), .nilIface]∧H'=LPh (some b) im sk ps::H):=by
 have hto:=tF hok
 have hte:=Ck ps
 have hsl:=jl ps
 obtain⟨B,hB⟩:∃B,B=dk ps:=⟨_,rfl⟩
 have hB16:ps.length≤16*B∧16*B≤ps.length+15:=by rw[hB];unfold dk;omega
 refine sWk Tryz.func67 Tryz.ntmps67 ?_
 refine gk (k:=gz eSV (k:=fun s13=>?_))
 refine c1_ rfl (sI (xs:=dx ps) (aa)) (k:=?_)
 rintro _ _ ⟨im,rfl,rfl⟩
 refine e_ (bld [(0,_)]) (k:=bxx (k:=fun b16=>?_))
 refine go ?_
 refine c1_ rfl (LX hok hsm hn) (k:=?_)
 rintro _ _ ⟨sk,rfl,rfl⟩
 refine gk (k:=eg (k:=go ?_))
 refine gk (k:=dt (Nat) (fun y=> y≤B) (fun y=> [(5, .int .i64 ((dg (ps.take (16*y)):Nat):Int)),(26, .int .i64 ((y:Nat):Int))]) [(4,_),(24,_),(25,_)] (fun y=> []) _ (fun y=> B - y) (0) (h0:=?_) (k:=?_))
 ·try dsimp only
  exact Yl _
 rintro kb hk
 try dsimp only[Yd,Ye]at*
 refine gk (k:=wi_ (k:=fun h1=>?_) (m:=fun h1=>?_))
 ·have hkb:kb<dk ps:=by omega
  have hget:=ka hkb
  obtain⟨hpc,hpl⟩:=ox ps hkb
  have hb1:=kP hok kb
  have hb2:=m7 hsm kb
  have hb3:=kQ hkb
  have hnb:=(iA hsm kb).2.2
  have hnb1:=(iA hsm (kb+1)).2.2
  have hst:=q9 hok hkb
  have hcut:∀(H2:cG) [Sl H2 im eB (dx ps)],Sl H2 (im.cut3 1 (iZ ps kb).2.2.1 ((iZ ps kb).2.2.1+(iZ ps kb).2.2.2) ((iZ ps kb).2.2.1+(iZ ps kb).2.2.2)) eB (jN (cO ps kb).1 (de ps kb)):=fun H2 hi=> by
   have:=Sl.cut3 hi (lo:=kz ps kb) (hi:=kz ps kb+fY ps kb) (aa) hpl
   rw[hpc]at this;exact this
  have hs1:(iZ ps kb).1=(cO ps (kb+1)).1 - 1:=rfl
  have hs2:(iZ ps kb).2.1=(de ps kb).length:=rfl
  have htb:=EA (ps:=ps) (k:=kb)
  have htl:=jU ps (16*kb)
  have htl1:=jU ps (16*(kb+1))
  refine wk_ (qn_ (ws_ (wb_ (ws_ (wr_ (e_ mv (k:=e_ ixa (k:=e_ (jn (hy:=hget)) (k:=alc (k:=fun b7=>?_))))))))))
  refine go ?_
  refine df cI (fun i=> [8].contains i) (fun k H=> (k=2→cQ H b16 [im.val, .int .i64 ((ps.length:Nat):Int), .int .i64 ((dg ps:Nat):Int),sk.val]∧Sl H sk eSk (fj ps)∧Sl H im eB (dx ps))∧(k=5→cQ H b16 [im.val, .int .i64 ((ps.length:Nat):Int), .int .i64 ((dg ps:Nat):Int),sk.val]∧Sl H sk eSk (fj ps))∧(k=7→cQ H b7 [.int .i64 (((iZ ps kb).1:Nat):Int), .int .i64 (((iZ ps kb).2.1:Nat):Int), .int .i64 (((iZ ps kb).2.2.1:Nat):Int), .int .i64 (((iZ ps kb).2.2.2:Nat):Int)])) (af_ 0 (q:=cD fun H hH=>mv) (k:=af_ 1 (q:=cD fun H hH=>mv) (k:=?_)))
  refine cE 2 rfl rfl (a8) rfl (fun H hH=> by have hN:=hH.1 rfl;obtain⟨n1,n2,n3⟩:=hN;exact cW (vs:= [_,_]) rfl (Bz (l:=fj ps) (e:=iZ ps kb) hget hpl hn)) (?_)
  refine af_ 3 (q:=cD fun H hH=>mv) (k:=af_ 4 (q:=cD fun H hH=>mv) (k:=?_))
  refine cE 5 rfl rfl (a8) rfl (fun H hH=> by have hN:=hH.2.1 rfl;obtain⟨n1,n2⟩:=hN;exact cW (vs:= [_,_]) rfl (A5 (l:=fj ps) (nb:=(cO ps kb).1) (aa) (KZ hok (aa)))) (?_)
  refine af_ 6 (q:=cD fun H hH=>fla) (k:=?_)
  refine cE 7 rfl rfl (a8) rfl (cD fun H hH=>aZ) (?_)
  refine cN 8 rfl (a8) rfl (fun k hk=> ⟨fun hi=> ah,fun hi=> ah,fun hi=> ah⟩) (cW (vs:= [_,_,_]) rfl (Bt (nb:=(cO ps kb).1) (l:=de ps kb) hb1 hb2 (aa) hnb)) ?_
  rintro _ _ ⟨sl,zs,hzs,rfl,rfl⟩
  have hzl:zs.length=(de ps kb).length:=by rw[←hzs,Yh]
  have hzv:(zs.map pgV).length=(de ps kb).length:=by rw[Yh,hzl]
  obtain⟨z,hz⟩:∃z,zs[(de ps kb).length - 1]? =some z:=⟨_,Yi (aa)⟩
  have hzV:(zs.map pgV)[(de ps kb).length - 1]? =some (z.d,z.s):=by rw[Xd,hz];all_goals rfl
  have hzb:(zs.map pgP)[(de ps kb).length - 1]? =some (pgP z):=by rw[Xd,hz];all_goals rfl
  rw[hzs]at hzb
  have hzd:z.d+1=(cO ps (kb+1)).1:=zu hok hkb hzb
  refine af_ 9 (q:=cD fun H hH=>mv) (k:=af_ 10 (q:=cD fun H hH=>exr) (k:=af_ 11 (q:=cD fun H hH=>exr) (k:=af_ 12 (q:=cD fun H hH=>asn) (k:=af_ 13 (q:=cD fun H hH=>asn) (k:=db (a8) (fun k hk=> ⟨fun hi=> absurd hk (ad),fun hi=> absurd hk (ad),fun hi=> absurd hk (ad)⟩) (go ?_))))))
  refine cX cI (as_ 0 (q:=mv) (k:=as_ 1 (q:=k8) (k:=as_ 2 (q:=mv) (k:=at2 3 (q:=mv) (k:=at2 4 (q:=fla) (k:=at2 5 (q:=ldv) (k:=?_)))))))
  refine ld 6 rfl rfl rfl rfl (a8) rfl (dz (evq isb (congrArg (Value.int .i64) (show _=(((de ps kb).length - 1:Nat):Int)from aa)))) (?_)
  refine at2 7 (q:=ixa) (k:=at2 8 (q:=fle) (k:=at2 9 (q:=lfl (hy:=hzV)) (k:=at2 10 (q:=fla) (k:=at2 11 (q:=ldv) (k:=at2 12 (q:=ine) (k:=as_ 13 (q:=pkf) (k:=az_ (k:=gk (k:=wi_ (k:=fun h2=>?_) (m:=fun h2=>?_))))))))))
  ·exact absurd h2 (aa)
  refine gk (k:=dt (Nat) (fun y=> y≤zs.length) (fun y=> [(5, .int .i64 ((dg (ps.take (16*kb))+dg ((de ps kb).take y):Nat):Int)),(60, .int .i64 ((y:Nat):Int))]) [(4,_),(24,_),(25,_),(26,_),(58,_),(59,_)] (fun y=> []) _ (fun y=> zs.length - y) (0) (h0:=?_) (k:=?_))
  ·try dsimp only
   exact Yl _
  rintro j hj
  try dsimp only[Yd,Ye]at*
  refine gk (k:=wi_ (k:=fun h3=>?_) (m:=fun h3=>?_))
  ·obtain⟨y,hy⟩:∃y,zs[j]? =some y:=⟨_,Yi (aa)⟩
   have hyV:(zs.map pgV)[j]? =some (y.d,y.s):=by rw[Xd,hy];all_goals rfl
   have hyP:(de ps kb)[j]? =some (pgP y):=by rw[←hzs,Xd,hy];all_goals rfl
   have hyt:=o9 hyP
   have htj:=jU (de ps kb) (j+1)
   have hys:∀H2:cG,Sl (Cl pgH zs::H2) y.s eI (cV y.pos):=fun H2=> dD (pX hy) inferInstance
   have hyl:=dO y.pos
   have hyp:(pgP y).2=y.pos:=rfl
   rw[hyp]at hyt
   refine wk_ (qn_ (ws_ (wb_ (ws_ (wr_ (e_ ixa (k:=e_ (jn (hy:=hyV)) (k:=alc (k:=fun b11=>?_)))))))))
   refine sto (k:=on_ (qn_ (wr_ (e_ mv (k:=e_ fla (k:=e_ ldv (k:=e_ lnn (k:=?_))))))))
   refine e_ (evq iad (congrArg (Value.int .i64) (show _=((dg (ps.take (16*kb))+dg ((de ps kb).take (j+1)):Nat):Int)from aa))) (k:=?_)
   refine go ?_
   refine ln_ (j+1) (k:=?_)
   try dsimp only
   omega
  obtain rfl:j=zs.length:=aa
  rw[show dg (ps.take (16*kb))+dg ((de ps kb).take zs.length)=dg (ps.take (16*(kb+1)))from by rw[hzl,List.take_length,htb]]
  refine go ?_
  refine ln_ (kb+1) (k:=?_)
  try dsimp only
  omega
 obtain rfl:kb=B:=aa
 rw[show dg (ps.take (16*kb))=dg ps from by rw[hB,n5]]
 refine go ?_
 refine gk (k:=wi_ (k:=fun h4=>?_) (m:=fun h4=>?_))
 ·(first|exact absurd rfl h4|exact(h4).elim|simp at h4)
 refine gk (k:=rt_ Tryz.results67 (k:=?_))
 exact⟨LPh (some b16) im sk ps::H,cJ.trans (H':=Vr b16 [im.val, .int .i64 ((ps.length:Nat):Int), .int .i64 ((dg ps:Nat):Int),sk.val]::Row im eB (dx ps)::Row sk eSk (fj ps)::H) (hsb) Ow,b16,im,sk,rfl,rfl⟩
end Go.Sx
