import Derived.Test.YtjhdcheijnegnaaGreatDoorQ31
set_option linter.all false
set_option maxHeartbeats 0
namespace Go.Sx
open Go Go.Proofs Tryz
set_option maxRecDepth 100000
theorem JZ:∀{l:List Po}{nb:Nat},gJ nb l→∀(i j:Nat) (p q:Po),i<j→l[i]? =some p→l[j]? =some q→p.1<q.1
 | [],_,_,i,j,p,q,_,h,_=>aI
 |a::l,nb,hk,i,j,p,q,hij,hp,hq=>by
  obtain⟨j,rfl⟩:∃k,j=k+1:=⟨j-1,a8⟩;rw[Xc]at hq;cases i with
  |zero=>
   simp at hp;subst hp;have h1:=(iQ hk.2.2.2 hq).1;have h2:a.1+1≤dZ (a.1+1) (l.take j):=by
    rcases Uc j with rfl|hj
    ·simp[lM]
    ·refine Nat.le_of_lt (th (nb:=0) (qz j hk.2.2.2) ?_);intro e;have b:=congrArg List.length e;rw[Yg,Yc]at b;have e3:=(Yk.1 hq).1;omega
   omega
  |succ i=>
   rw[Xc]at hp;exact JZ hk.2.2.2 i j p q a8 hp hq
theorem Nl {G:cJ}{H R:cG}{b q:Nat}{c:CuS} [hg:Glb G R] [hr:Rem H CuH b c R] (t:c.u≤q) (s:q≤c.ps.length):SC G prog 69 [pA b,iN q] H (λv H'=>v=.int .i64 (m5 c.ps (q+1))∧H'=CuH b (goC c q)::R):=by
 refine sWk func69 ?_;refine ws_ (wr_ ?_);refine Fe b λg r p l n f m C B=>?_;have hpl:=m.small.1;have hmv:=m.mvle;have hmg:=Fo t s;have w:=m.go t s;have a:mvG c.ps.length c.u q=if q<c.ps.length∧c.u/16=q/16 then q+1-c.u else if q<c.ps.length then q/16-c.u/16+q%16+1 else if c.u=c.ps.length then 1 else(c.ps.length+15)/16-c.u/16+1:=rfl;refine go ?_;refine cZ cN (as_ 0 (q:=mv) (k:=?_));refine cO 1 rfl rfl aa rfl (gi (vs:= [_]) rfl (Ec C)) ?_;refine as_ 2 (q:=mv) (k:=as_ 3 (q:=nck) (k:=as_ 4 (q:=fla) (k:=as_ 5 (q:=ldv) (k:=?_))));refine cO 6 rfl rfl aa rfl (df (evq iad (congrArg (Value.int .i64) (show _=(c.u:Int)from a8)))) ?_;refine as_ 7 (q:=asn) (k:=as_ 8 (q:=asn) (k:=az_ (k:=qn_ (l4 Nat (λy=>y=c.mv+mvG c.ps.length c.u q) (λy=>[]) [14,15,16,17,18,19,20,21,22,23,24,25,26,27,28,29,30,31,32,33,34,35,36,37,38,39,40,41,42,43,44,45,46,47,48,49,50,51,52,53,54,55,56,57,58,59,60,61,62,63,64,65,66,67,68,69,70,71,72,73,74,75,76,77,78,79,80,81,82,83,84,85,86,87,88,89,90,91] (λy=>[Vr b [.int .i64 (m5 c.ps c.u),iN y,lpV g,.int .i64 (((c.u:Nat):Int)-1),.int .i64 f,l.val,.bool c.told]]) (LPh g r p c.ps::Row l ePo (n.map pgV)::Cl pgH n::R) ?_ ?_))))
 ·refine wb_ (ws_ (wr_ (e_ mv (e_ mv (e_ ilt (e_ mv (cQ 6 41 (k:=λh1=>gk (k:=eg_ (fH rfl rfl c.u 16 rfl rfl ae an) (gk (k:=eg_ (fH rfl rfl q 16 rfl rfl ae an) (gk (k:=edq)))))) (q:=gW (λh2=>?_) (λh2=>?_)))))))))
  ·have e:q<c.ps.length∧c.u/16=q/16:=by obtain⟨a1,a2⟩:=h2;exact⟨a8,a8⟩
   refine wD [15] (λk H=>(k=4→cY H b [.int .i64 (m5 c.ps c.u),iN c.mv,lpV g,.int .i64 (((c.u:Nat):Int)-1),.int .i64 f,l.val,.bool c.told])∧(k=9→cY H b [.int .i64 (m5 c.ps c.u),iN c.mv,lpV g,.int .i64 (((c.u:Nat):Int)-1),.int .i64 f,l.val,.bool c.told])) (aF 0 (k:=aF 1 (k:=aF 2 (k:=aF 3 (k:=?_)))));refine aN 4 rfl (λH hH=>aw) ?_;refine aF 5 (k:=aF 6 (k:=aF 7 (k:=aF 8 (k:=?_))));refine aN 9 rfl (λH hH=>aV) ?_;refine aN 10 rfl (λH hH=>evq isb (congrArg (Value.int .i64) (show _=((q+1-c.u:Nat):Int)from a8))) ?_;refine aN 11 rfl (λH hH=>evq iad (congrArg (Value.int .i64) (show _=((c.mv+(q+1-c.u):Nat):Int)from a8))) (go ?_);refine aS 15 rfl (db rfl rfl rfl) ?_;rintro _ _ ⟨rfl,rfl⟩;refine aZ (gk (k:=jnE (c.mv+(q+1-c.u)) (q:=?_)));rw[a,if_pos e]
  have e:¬(q<c.ps.length∧c.u/16=q/16):=aL;refine gW (λh3=>?_) λh3=>?_
  ·refine wr_ (e_ mv (e_ nck (e_ fla (e_ fla (e_ ldv (e_ mv ?_))))));refine e_ (fH rfl rfl q 16 rfl rfl ae an) ?_;refine e_ mv ?_;refine e_ (fH rfl rfl c.u 16 rfl rfl ae an) ?_;refine e_ isb (e_ mv ?_);refine e_ (kO rfl rfl q 16 rfl rfl ae) ?_;refine e_ iad (e_ iad ?_);refine e_ (evq iad (congrArg (Value.int .i64) (show _=((c.mv+(q/16-c.u/16+q%16+1):Nat):Int)from a8))) ?_;refine gk (k:=jnE (c.mv+(q/16-c.u/16+q%16+1)) (q:=?_));rw[a,if_neg e,if_pos a8]
  refine gW (λh4=>?_) λh4=>?_
  ·refine wr_ (e_ mv (e_ nck (e_ fla (e_ fla (e_ ldv ?_)))));refine e_ (evq iad (congrArg (Value.int .i64) (show _=((c.mv+1:Nat):Int)from a8))) ?_;refine gk (k:=jnE (c.mv+1) (q:=?_));rw[a,if_neg e,if_neg a8,if_pos a8]
  refine wr_ (e_ mv (e_ nck (e_ fla (e_ fla (e_ ldv (e_ mv (e_ iad ?_)))))));refine e_ (evq isb (congrArg (Value.int .i64) (show _=((c.ps.length+15:Nat):Int)from a8))) ?_;refine e_ (fH rfl rfl (c.ps.length+15) 16 rfl rfl ae an) ?_;refine e_ mv ?_;refine e_ (fH rfl rfl c.u 16 rfl rfl ae an) ?_;refine e_ isb (e_ iad ?_);refine e_ (evq iad (congrArg (Value.int .i64) (show _=((c.mv+((c.ps.length+15)/16-c.u/16+1):Nat):Int)from a8))) ?_;refine gk (k:=jnE (c.mv+((c.ps.length+15)/16-c.u/16+1)) (q:=?_));rw[a,if_neg e,if_neg a8,if_neg a8]
 rintro mm u
 try dsimp only[Yd,Ye]at*
 refine go ?_;refine gW (λF=>?_) λF=>?_
 ·refine go ?_;refine c2_ rfl (Nj C B m.ok m.small m.tot a8) ?_;rintro _ _ ⟨j,i,h,z,A,E,hzs,rfl,rfl⟩;have d:m5 c.ps (q+1)=(z.d:Int):=wK E;refine e_ (D4 (ft:=3) (off:=0) underlying190 rfl rfl rfl) (go ?_);refine gR ?_;exact⟨CuH b (goC c q)::R,cH.trans (H':=Vr b [.int .i64 (m5 c.ps (q+1)),iN (c.mv+mvG c.ps.length c.u q),lpV g,.int .i64 (((q+1:Nat):Int)-1),.int .i64 h,j.val,.bool false]::LPh g r p c.ps::Row j ePo (i.map pgV)::Cl pgH i::R) (by rw[d,←u,show(((q+1:Nat):Int)-1)=(q:Int)from a8];exact hsb) (yI (c:=goC c q) (x:=⟨g,r,p,j,i,h⟩) ⟨w,C,A⟩),by rw[d];all_goals rfl,rfl⟩
 obtain rfl:q=c.ps.length:=a8;have d:=yE c.ps;refine gR ?_;exact⟨CuH b (goC c c.ps.length)::R,cH.trans (H':=Vr b [.int .i64 (m5 c.ps (c.ps.length+1)),iN (c.mv+mvG c.ps.length c.u c.ps.length),lpV g,.int .i64 (((c.ps.length+1:Nat):Int)-1),.int .i64 f,l.val,.bool false]::LPh g r p c.ps::Row l ePo (n.map pgV)::Cl pgH n::R) (by rw[d,←u,show(((c.ps.length+1:Nat):Int)-1)=(c.ps.length:Int)from a8];exact hsb) (yI (c:=goC c c.ps.length) (x:=⟨g,r,p,l,n,f⟩) ⟨w,C,B⟩),by rw[d];all_goals rfl,rfl⟩
def oJ (c:CuS):CuS:=if c.u=c.ps.length+1 then c else goC c c.u
theorem KH {G:cJ}{H R:cG}{b:Nat}{c:CuS} [hg:Glb G R] [hr:Rem H CuH b c R]:SC G prog 31 [pA b] H (λv H'=>v=.int .i64 (m5 (oJ c).ps (oJ c).u)∧H'=CuH b (oJ c)::R):=by
 refine sWk func31 ?_
 refine ws_ (wr_ (?_))
 refine Fe b λlp im sk rd zs blk hc hn hbk=>?_
 have hat:=hc.at_
 have hpl:=hc.small.1
 refine e_ asn (k:=on_ (qn_ (ws_ (ws_ (?_)))))
 refine cZ cN (as_ 0 (q:=mv) (k:=as_ 1 (q:=nck) (k:=as_ 2 (q:=fla) (k:=as_ 3 (q:=ldv) (k:=as_ 4 (q:=mv) (k:=?_))))))
 refine cO 5 rfl rfl (aa) rfl (gi (vs:= [_]) rfl (Ec hn)) (?_)
 refine as_ 6 (q:=ieq) (k:=az_ (k:=qn_ (wi_ (k:=λh1=>?_) (m:=λh1=>?_))))
 ·have hnc:oJ c=c:=by
   unfold oJ
   rw[if_pos (az)]
  refine ws_ (wr_ (e_ mv (k:=e_ nck (k:=e_ fla (k:=e_ fla (k:=e_ ldv (k:=e_ asn (k:=on_ (qn_ (wt_ (qr_ (rT (k:=?_)))))))))))))
  exact⟨CuH b (oJ c)::R,by rw[hnc];exact cH.trans (hsb) (yI (c:=c) (x:=⟨lp,im,sk,rd,zs,blk⟩) ⟨hc,hn,hbk⟩),by rw[hnc];all_goals rfl,rfl⟩
 have hnc:oJ c=goC c c.u:=by
  unfold oJ
  rw[if_neg (az)]
 have hu:c.u≤c.ps.length:=az
 refine wk_ (qn_ (ws_ (wr_ (e_ mv (k:=e_ mv (k:=e_ nck (k:=e_ fla (k:=e_ ldv (k:=?_)))))))))
 refine e_ (evq iad (congrArg (Value.int .i64) (show _=(c.u:Int)from a8))) (k:=?_)
 refine eN (H':=CuH b c::R) (cH.trans (hsb) (yI (c:=c) (x:=⟨lp,im,sk,rd,zs,blk⟩) ⟨hc,hn,hbk⟩)) ?_
 refine d2_ rfl (Nl (q:=c.u) (Xj _) hu) (k:=e_ asn (k:=on_ (qn_ (wt_ (rT (k:=?_))))))
 exact⟨_,hsb,by rw[hnc];all_goals rfl,by rw[hnc]⟩
theorem HZ {G:cJ}{H:cG}{b n c:Nat}{s:SV} [cY H b [iN n,iN c,s.val]]:SC G prog 60 [pA b] H (λv H'=>v=iN c∧H'=H):=by
 refine sWk func60 ?_
 refine ws_ (wr_ (e_ asn (k:=on_ (qn_ (ws_ (wr_ (e_ mv (k:=e_ nck (k:=e_ fla (k:=e_ ldv (k:=e_ asn (k:=on_ (qn_ (?_))))))))))))))
 refine wt_ (rT (k:=?_))
 exact⟨_,hsb,rfl,rfl⟩
theorem KU {G:cJ}{H:cG}{a:PtA}{q:PtD} [hp:dT H a q] (hc:a.cnt≤q.ds.length) (hq:q.ds.length≤1048576):SC G prog 27 [pA a.p] H (λv H'=>v=iN (q.ds.length-a.cnt)∧H'=H):=by
 refine sWk func27 ?_
 refine ws_ (wr_ (e_ asn (k:=on_ (qn_ (ws_ (?_))))))
 refine cZ cN (as_ 0 (q:=mv) (k:=as_ 1 (q:=nck) (k:=as_ 2 (q:=fla) (k:=as_ 3 (q:=ldv) (k:=?_)))))
 refine cO 4 rfl rfl (aa) rfl (gi (vs:= [_]) rfl (Eb (a:=a))) (?_)
 refine as_ 5 (q:=mv) (k:=as_ 6 (q:=nck) (k:=as_ 7 (q:=fla) (k:=as_ 8 (q:=ldv) (k:=?_))))
 refine cO 9 rfl rfl (aa) rfl (gi (vs:= [_]) rfl (HZ (n:=q.ds.length) (c:=a.cnt) (s:=a.ws))) (?_)
 refine cO 10 rfl rfl (aa) rfl (df (evq isb (congrArg (Value.int .i64) (show _=((q.ds.length-a.cnt:Nat):Int)from a8)))) (?_)
 refine as_ 11 (q:=asn) (k:=az_ (k:=qn_ (wt_ (rT (k:=?_)))))
 exact⟨_,hsb,rfl,rfl⟩
theorem NC {G:cJ}{H R:cG}{b n c m:Nat}{ws:List Nat} [hg:Glb G R] [hr:Rem H Ds b ⟨n,c,ws⟩ R] (hn:n≤1048576) (hc:c≤1000000000) (hl:ws.length=(n+63)/64) (hw:okW ws) (hm:m<n) (hb:jZ ws m=false):SC G prog 100 [pA b,iN m] H (λv H'=>v=.tuple #[.bool true,.nilIface]∧H'=Ds b ⟨n,c+1,Ao ws m⟩::R):=by
 refine SC.rem (h:=hr) ?_
 refine NK (b:=b) (p:=⟨n,c,ws⟩) (R:=R) inferInstance λs=>?_
 dsimp only
 have hm64:m/64<ws.length:=a8
 have hwi:ws[m/64]? =some (ws.getD (m/64) 0):=by rw[Xm,Yi hm64];all_goals rfl
 have hx:=sZ hw (m/64)
 have hp2:=JY (k:=m%64) (Um _ (ae))
 refine sWk func100 ?_
 refine ws_ (wr_ (e_ asn (k:=e_ asn (k:=on_ (qn_ (ws_ (ws_ (wr_ (e_ mv (k:=e_ mv (k:=?_)))))))))))
 refine d2_ rfl (JP) (k:=e_ jq (k:=on_ (qn_ (wi_ (k:=λh1=>?_) (m:=λh1=>?_)))))
 ·exfalso;have h9:=h1;omega
 refine wk_ (qn_ (ws_ (ws_ (wr_ (e_ mv (k:=e_ mv (k:=?_)))))))
 refine d2_ rfl (KZ hm hn hl hw) (k:=on_ (qn_ (wi_ (k:=λh2=>?_) (m:=λh2=>?_))))
 ·exfalso;have h9:=h2;rw[hb]at h9;exact absurd h9 (ae)
 refine wk_ (qn_ (ws_ (?_)))
 refine wD [13] (λk H=>(k=3→cY H b [iN n,iN c,s.val])∧(k=6→Sl H s eW ws)∧(k=7→Sl H s eW ws)∧(k=12→Sl H s eW ws)) (aF 0 (k:=aF 1 (k:=aF 2 (k:=?_))))
 refine aN 3 rfl (λH hH=>aw) (?_)
 refine aF 4 (k:=?_)
 refine aN 5 rfl (λH hH=>fH rfl rfl m 64 rfl rfl (ae) (an)) (?_)
 refine aN 6 rfl (λH hH=>by have hN:=hH.2.1 rfl;exact ixa) (?_)
 refine aN 7 rfl (λH hH=>by have hN:=hH.2.2.1 rfl;exact lel) (?_)
 refine aF 8 (k:=?_)
 refine aN 9 rfl (λH hH=>kO rfl rfl m 64 rfl rfl (ae)) (?_)
 refine aN 10 rfl (λH hH=>wz 18446744073709551616 rfl rfl rfl rfl 1 (m%64) rfl rfl (a8)) (?_)
 refine aN 11 rfl (λH hH=>fI 18446744073709551616 rfl rfl rfl rfl (ws.getD (m/64) 0) (1*2^(m%64)) rfl rfl (a8) (a8)) (?_)
 refine aN 12 rfl (λH hH=>by have hN:=hH.2.2.2 rfl;exact ixa) (?_)
 refine aS 13 rfl (dc (i:=m/64) rfl rfl rfl (a8)) ?_
 rintro _ _ ⟨rfl,rfl⟩
 rw[Nat.one_mul,show ws.set (m/64) (ws.getD (m/64) 0 ||| 2^(m%64))=Ao ws m from rfl]
 refine aZ (qn_ (ws_ (wr_ (e_ mv (k:=e_ nck (k:=e_ fla (k:=e_ ldv (k:=e_ iad (k:=e_ nck (k:=e_ fla (k:=sto (k:=on_ (qn_ (?_))))))))))))))
 refine ws_ (wr_ (e_ asn (k:=e_ asn (k:=on_ (qn_ (wt_ (rT (k:=?_))))))))
 exact⟨_,Ka,rfl,rfl⟩
theorem HF {G:cJ}{H:cG}{n:Nat}{s:SV}{ks:List Nat} [hg:Glb G H] [hs:Sl H s eI (cP ks)] (hn:n≤1048576) (hk:∀k∈ks,k<n) (hu:ks.Pairwise (· < ·)) (hm:ks.length≤1048576):SC G prog 55 [iN n,s.val] H (λv H'=>∃(b:Nat) (ws:List Nat),v=.tuple #[pA b,.nilIface]∧H'=Ds b ⟨n,ks.length,ws⟩::H∧ws.length=(n+63)/64∧okW ws∧∀k:Nat,k<n→jZ ws k=decide (k∈ks)):=by
 have hil:(cP ks).length=ks.length:=dJ _
 refine sWk func55 ?_
 refine ws_ (wr_ (e_ asn (k:=e_ asn (k:=on_ (qn_ (ws_ (wr_ (e_ mv (k:=?_)))))))))
 refine c1_ rfl (HI hn) (k:=?_)
 rintro _ _ ⟨b,rfl,rfl⟩
 refine e_ mv (k:=e_ exr (k:=e_ exr (k:=e_ asn (k:=e_ asn (k:=on_ (qn_ (ws_ (ws_ (wr_ (e_ mv (k:=?_)))))))))))
 refine e_ (cK rfl) (k:=?_)
 refine on_ (qn_ (iff_ (k:=wk_ (qn_ (ws_ (ws_ (wr_ (e_ mv (k:=e_ lnn (k:=e_ mv (k:=on_ (qn_ (wb_ (?_))))))))))))))
 refine wl2_ (Nat×(List Nat)) (λy=>y.1≤ks.length∧y.2.length=(n+63)/64∧okW y.2∧∀k:Nat,k<n→jZ y.2 k=decide (k∈ks.take y.1)) (λy=>[(22,iN y.1)]) [(6,_),(20,_),(21,_)] (λy=>[Ds b ⟨n,y.1,y.2⟩]) _ (λy=>ks.length-y.1) ((0,List.replicate ((n+63)/64) 0)) (h0:=?_) (k:=?_)
 ·try dsimp only
  exact⟨Yl _,ak,λx hx=>by rw[List.eq_of_mem_replicate hx];decide,λk _=>by rw[Dl];simp⟩
 rintro⟨j,ws⟩ ⟨hj,hwl,hw,hbt⟩
 try dsimp only[Yd,Ye]at*
 refine ws_ (wr_ (e_ ilt (k:=on_ (qn_ (ws_ (wi_ (k:=λh1=>?_) (m:=λh1=>?_)))))))
 ·obtain⟨x,hx⟩:=gE ks j
  have htk:=cL hx
  have hxi:=eu hx
  have hxn:=hk x (Yj hx)
  have hnew:jZ ws x=false:=by
   rw[hbt x hxn]
   refine Yr λhm=>?_
   obtain⟨i,hi⟩:=Uf hm
   have hij:i<j:=by have:=(Yk.1 hi).1;rw[Yg]at this;omega
   rw[Xz hij]at hi
   obtain⟨h1,h2⟩:=Yk.1 hi
   obtain⟨h3,h4⟩:=Yk.1 hx
   have:=R4.1 hu i j h1 h3 hij
   omega
  have hx64:x/64<ws.length:=a8
  refine wk_ (qn_ (ws_ (wb_ (ws_ (wr_ (e_ ixa (k:=e_ (lel (hy:=hxi)) (k:=e_ asn (k:=on_ (qn_ (ws_ (wr_ (e_ mv (k:=?_))))))))))))))
  refine e_ mv (k:=?_)
  refine d2_ rfl (NC hn (a8) hwl hw hxn hnew) (k:=e_ mv (k:=e_ exr (k:=e_ exr (k:=e_ asn (k:=e_ asn (k:=on_ (qn_ (ws_ (wr_ (e_ mv (k:=?_)))))))))))
  refine e_ (cK rfl) (k:=?_)
  refine on_ (qn_ (iff_ (k:=wk_ (bn_ (qn_ (wr_ (e_ iad (k:=e_ mv (k:=on_ (?_))))))))))
  refine ln_ ((j+1,Ao ws x)) (k:=?_)
  try dsimp only
  exact⟨a8,by rw[GV];exact hwl,Js hw x,λk hkn=>by
   rw[GO hx64,hbt k hkn,htk]
   simp[Bool.or_comm]⟩
 obtain rfl:j=ks.length:=a8
 rw[Xk]at hbt
 refine we_ (qe_ (le_ (bh_ (qn_ (ws_ (wr_ (e_ mv (k:=e_ asn (k:=e_ asn (k:=on_ (qn_ (wt_ (rT (k:=?_))))))))))))))
 exact⟨_,hsb,b,ws,rfl,rfl,hwl,hw,hbt⟩
end Go.Sx
