import Derived.Test.YtcokhbglfaakjaaGreatDoorQ16
import Derived.Test.YtcokhbglfaakjaaGreatDoorQ15
import Derived.Test.YtcokhbglfaakjaaGreatDoorQ17
set_option linter.all false
set_option maxHeartbeats 0
namespace Go.Sx
open Go Go.Proofs Tryz
set_option maxRecDepth 100000
section
variable {G:dJ}{H R:dD}{b:Nat}{c:CuS}{l:List Value}{t:Int}
theorem QW:∀{l:List Po}{nb:Nat},j5 nb l→∀(i j:Nat) (p q:Po),i<j→l[i]? =some p→l[j]? =some q→p.1<q.1
 | [],_,_,i,j,p,q,_,h,_=>aK
 |a::l,nb,hk,i,j,p,q,hij,hp,hq=>by
  obtain⟨j,rfl⟩:∃k,j=k+1:=⟨j-1,a8⟩;rw[Xc]at hq;cases i with
  |zero=>
   simp at hp;subst hp;have h1:=(jP hk.2.2.2 hq).1;have h2:a.1+1≤fB (a.1+1) (l.take j):=by
    rcases Un j with rfl|hj
    ·simp[oL]
    ·refine Nat.le_of_lt (xQ (nb:=0) (uW j hk.2.2.2) ?_);intro e;have b:=congrArg List.length e;rw[Yg,Yc]at b;have e3:=(Yk.1 hq).1;omega
   omega
  |succ i=>
   rw[Xc]at hp;exact QW hk.2.2.2 i j p q a8 hp hq
theorem OR {l:List Po}(h:j5 0 l) {j:Nat}{p:Po}(hp:l[j]? =some p):p.1≤(lf l (j/16)).1:=by
 have hj:=(Yk.1 hp).1;obtain⟨a,hb2,hb3⟩:=MO hj;have hbn:=nG a;obtain⟨q,b⟩:∃q,(ei l (j/16))[(ei l (j/16)).length-1]? =some q:=⟨_,Yi a8⟩;have h1:=DJ h a b;have h2:l[16*(j/16)+((ei l (j/16)).length-1)]? =some q:=by rw[←A5 a8];exact b
 show p.1≤(dP l (j/16+1)).1-1;rcases Us j (16*(j/16)+((ei l (j/16)).length-1))with h3|h3
 ·have:=QW h _ _ _ _ h3 hp h2;omega
 ·have:j=16*(j/16)+((ei l (j/16)).length-1):=by omega
  rw[this]at hp;rw[hp]at h2;cases h2;omega
theorem Wo {l:List Po}(h:j5 0 l) (hs:fL l) {i j:Nat}(hij:i≤j) (hj:j<eC l):(lf l i).1≤(lf l j).1:=by
 have a:∀d,i+d<eC l→(dP l (i+1)).1≤(dP l (i+d+1)).1:=by
  intro d
  induction d with
  |zero=>intro _;exact Xl _
  |succ d ih=>
   intro hd;have h1:=ih a8;have h2:=tR h (k:=i+d+1) a8;rw[show i+(d+1)+1=i+d+1+1 from a8];omega
 have h3:=a (j-i) a8;rw[show i+(j-i)+1=j+1 from a8]at h3;show(dP l (i+1)).1-1≤(dP l (j+1)).1-1;omega
theorem QN {d:Int} [hv:dQ H b (.int .i64 d::l)]:SC G prog 99 [pA b] H (λv a=>v=.int .i64 d∧a=H):=by
 refine sWk func99 ?_;refine go ?_;exact gZ
theorem G3 {d m:Int} [hv:dQ H b (.int .i64 d:: .int .i64 m::l)]:SC G prog 51 [pA b] H (λv a=>v=.int .i64 m∧a=H):=by
 refine sWk func51 ?_;refine go ?_;exact gZ
theorem NO {g f r i c:Nat}{lp:Option Nat}{im sk:SV}{ps:List Po}{q n m l j h:Value} [dQ H g [pA b]] [dQ H f [iN c]] [dQ H r [.int .i64 t]] [dQ H b [q,n,lpV lp,m,l,j,h]] [hl:DZ H lp im sk ps] (hn:lp=none→ps= []) (hi:c+i<eC ps) (hs:ps.length≤100000):SC G prog 202 [iN i,pA g,pA f,pA r] H (λv s=>v=.bool (decide (t≤(((lf ps (c+i)).1:Nat):Int)))∧s=H):=by
 have d:ps≠ []:=λe=>by subst e;unfold eC at hi;simp at hi
 obtain⟨p,rfl⟩:∃p,lp=some p:=by cases lp with|none=>exact absurd (hn rfl) d|some p=>exact⟨p,rfl⟩
 obtain⟨hv1,hv2,hv3⟩:=hl.at_ p rfl;have a:=mQ hi;have hbl:eC ps≤ps.length:=by unfold eC;unfold eC at hi;omega
 refine sWk func202 ?_;refine go ?_;refine wD [11,12] (λk H=>(k=0→dQ H g [pA b])∧(k=3→dQ H b [q,n,lpV (some p),m,l,j,h])∧(k=4→dQ H f [iN c])∧(k=7→dQ H p [im.val,iN ps.length,iN (ec ps),sk.val]∧Sl H sk eSk (ic ps))) ?_;refine aN 0 rfl (λH hH=>ah) ?_;refine aF 1 (k:=aF 2 (k:=?_));refine aN 3 rfl (λH hH=>ar) ?_;refine aN 4 rfl (λH hH=>aL) ?_;refine aF 5 (k:=?_);refine aN 6 rfl (λH hH=>evq iad (congrArg (Value.int .i64) (show _=((c+i:Nat):Int)from a8))) ?_;refine dS 7 rfl rfl aa rfl (λH hH=>by have hN:=hH.2.2.2 rfl;obtain⟨h1,h2⟩:=hN;exact v2_ (RF (b:=p) a)) ?_;refine go ?_;refine kg 11 rfl aa rfl (λk hk=>⟨λhi=>aC,λhi=>aC,λhi=>aC,λhi=>aC⟩) m9 ?_;rintro _ _ ⟨b6,rfl,rfl⟩;refine kg 12 rfl aa rfl (λk hk=>⟨λhi=>aC,λhi=>aC,λhi=>aC,λhi=>aC⟩) (ej rfl rfl rfl) ?_;rintro _ _ ⟨rfl,rfl⟩;refine gk (k:=aZ (gR ?_));exact⟨_,hsb,rfl,rfl⟩
theorem Sd [hg:Glb G R] [hr:Rem H CuH b c R] (u:c.u≤c.ps.length):SC G prog 151 [pA b,.int .i64 t] H (λv w=>v=iN (nP c.ps c.u t)∧w=CuH b c::R):=by
 refine sWk func151 ?_;refine ws_ (wr_ ?_);refine AO b λlp im sk rd zs blk hc hn hbk=>?_;have hpl:=hc.small.1;have hfr:c.u/16≤100000:=a8;have hbl:eC c.ps=(c.ps.length+15)/16:=rfl;refine bxx (k:=λs=>?_);refine bxx (k:=λr=>?_);refine e_ asn (on_ (qn_ (ws_ ?_)));refine dX dN (as_ 0 (q:=ldv) (k:=?_));refine dS 1 rfl rfl aa rfl (iR (vs:= [_]) rfl (Ax hn)) ?_;refine as_ 2 (q:=ldv) (k:=as_ 3 (q:=nck) (k:=as_ 4 (q:=fla) (k:=as_ 5 (q:=ldv) (k:=?_))));refine dS 6 rfl rfl aa rfl (ey (evq iad (congrArg (Value.int .i64) (show _=(c.u:Int)from a8)))) ?_;refine as_ 7 (q:=asn) (k:=as_ 8 (q:=asn) (k:=az_ (k:=qn_ (ws_ (wr_ (e_ mv ?_))))));refine e_ (fX rfl rfl c.u 16 rfl rfl ae ai) ?_;refine alc (k:=λl=>?_);refine sto (k:=on_ (qn_ (ws_ (wr_ (e_ mv (e_ iad ?_))))));refine e_ (evq isb (congrArg (Value.int .i64) (show _=((c.ps.length+15:Nat):Int)from a8))) ?_;refine e_ (fX rfl rfl (c.ps.length+15) 16 rfl rfl ae ai) ?_;refine e_ asn (on_ (qn_ (ws_ ?_)));refine wD [6] (λk H=>(k=0→dQ H l [iN (c.u/16)])∧(k=2→dQ H l [iN (c.u/16)])) ?_;refine aN 0 rfl (λH hH=>ah) ?_;refine aF 1 (k:=?_);refine aN 2 rfl (λH hH=>aM) ?_;refine aF 3 (k:=?_);refine aN 4 rfl (λH hH=>evq (nw rfl rfl) (congrArg (Value.int .i64) (show _=(((c.ps.length+15)/16-c.u/16:Nat):Int)from a8))) ?_;refine af_ 5 (q:=ea λH hH=>mkf) (k:=?_);refine aS 6 rfl (lU (vs:= [_,_]) rfl (FZ (n:=(c.ps.length+15)/16-c.u/16) (fi:= []) (ca:= [pA s,pA l,pA r]) (p:=λi=>decide (t≤(((lf c.ps (c.u/16+i)).1:Nat):Int))) a8 (λi hi=>NO (b:=b) (ps:=c.ps) hn a8 a8) (λx y h1 h2 h3=>by
  have h4:=Wo hc.ok hc.small (i:=c.u/16+x) (j:=c.u/16+y) a8 a8;have h5:=Yt h3;exact Ys a8))) ?_
 rintro _ _ ⟨⟨k,rfl,hk1,hk2,hk3⟩,rfl⟩;obtain⟨K,hK⟩:=ex (c.u/16+k);obtain⟨f,hq0⟩:=ex (max c.u (16*K));have a:∀j p,c.u≤j→j<f→c.ps[j]? =some p→(p.1:Int)<t:=λj p h1 h2 h3=>by
  have h4:=OR hc.ok h3;have h5:=hk2 (j/16-c.u/16) a8;have h6:=of_decide_eq_false h5;rw[show c.u/16+(j/16-c.u/16)=j/16 from a8]at h6;omega
 refine aN 7 rfl (λH hH=>evq iad (congrArg (Value.int .i64) (show _=(K:Int)from a8))) ?_;refine aF 8 (k:=aZ (qn_ (ws_ (ws_ (wr_ (e_ mv (e_ mv ?_)))))));refine e_ (evq iml (congrArg (Value.int .i64) (show _=((16*K:Nat):Int)from a8))) ?_;refine e_ (evq (nw rfl rfl) (congrArg (Value.int .i64) (show _=(f:Int)from a8))) ?_;refine e_ asn (on_ (qn_ (wb_ (e8 (Nat×SV×(List PG)×Int) (λy=>c.u≤y.1∧yI c.ps y.2.2.1 y.2.2.2∧y.1≤f+c.ps.length∧∀j p,c.u≤j→j<y.1→c.ps[j]? =some p→(p.1:Int)<t) (λy=>[(10,iN y.1)]) [(2,_),(3,_),(5,_)] (λy=>[Vr b [.int .i64 (gz c.ps c.u),iN c.mv,lpV lp,.int .i64 (((c.u:Nat):Int)-1),.int .i64 y.2.2.2,y.2.1.val,.bool c.told],Row y.2.1 ePo (y.2.2.1.map pgV),Cl pgH y.2.2.1]) _ (λy=>c.ps.length-y.1) ((f,rd,zs,blk)) (h0:=?_) (k:=?_)))))
 ·exact⟨a8,hbk,a8,a⟩
 rintro⟨q,rd,zs,blk⟩ ⟨g,hbk,hqn,a⟩
 try dsimp only[Yd,Ye]at*
 refine ws_ (ws_ (wr_ (e_ mv (e_ mv (e_ ilt (on_ (qn_ (wi_ (k:=λh1=>?_) (m:=λh1=>?_)))))))))
 ·refine wk_ (qn_ (ws_ (wb_ (ws_ ?_))));refine wD [2] (λk H=>(k=0→dQ H s [pA b])∧(k=4→dQ H r [.int .i64 t])) ?_;refine aN 0 rfl (λH hH=>ah) ?_;refine aF 1 (k:=?_);refine aN 4 rfl (λH hH=>aM) ?_;refine aS 2 rfl (lU (vs:= [_,_]) rfl (BZ hn hbk hc.ok hc.small hc.tot a8)) ?_;rintro _ _ ⟨rd2,zs2,blk2,z,hbk2,d,hzs,rfl,rfl⟩;refine aN 3 rfl (λH hH=>jz (ft:=3) (off:=0) underlying203 rfl rfl rfl) ?_;refine aF 5 (k:=aZ (qn_ (wi_ (k:=λh2=>?_) (m:=λh2=>?_))))
  ·have h:t≤(z.d:Int):=h2;have e:nP c.ps c.u t=q:=Fj g a8 a (λp hp=>by rw[d]at hp;cases hp;exact h);refine ws_ (wr_ (e_ mv (e_ asn (on_ (qn_ (wt_ (br_ (qr_ (lr_ (br_ (qr_ (rT (k:=?_)))))))))))));exact⟨CuH b c::R,dH.trans hsb (oZ (c:=c) (x:=⟨lp,im,sk,rd2,zs2,blk2⟩) ⟨hc,hn,hbk2⟩),by rw[e];all_goals rfl,rfl⟩
  refine wk_ (bn_ (qn_ (wr_ (e_ mv (e_ iad (e_ asn (on_ ?_)))))));refine lN ((q+1,rd2,zs2,blk2)) ?_
  try dsimp only
  refine⟨a8,hbk2,a8,λj p h1 h2 h3=>?_⟩;rcases Us j q with h4|h4
  ·exact a j p h1 h4 h3
  ·obtain rfl:j=q:=by omega
   rw[d]at h3;cases h3;show(z.d:Int)<t;omega
 refine we_ (qe_ (le_ (bh_ (qn_ (ws_ (wr_ (e_ mv (e_ asn (on_ (qn_ (wt_ (rT (k:=?_)))))))))))));exact⟨CuH b c::R,dH.trans hsb (oZ (c:=c) (x:=⟨lp,im,sk,rd,zs,blk⟩) ⟨hc,hn,hbk⟩),congrArg (λn:Nat=>iN n) (Fj u (Xl _) (λj p h1 h2 h3=>a j p h1 a8 h3) (λp hp=>by simp at hp)).symm,rfl⟩
theorem Wf {q:Nat} [hg:Glb G R] [hr:Rem H CuH b c R] (g:c.u≤q) (f:q≤c.ps.length):SC G prog 150 [pA b,iN q] H (λv H'=>v=.int .i64 (gz c.ps (q+1))∧H'=CuH b (goC c q)::R):=by
 refine sWk func150 ?_;refine ws_ (wr_ ?_);refine AO b λlp im sk rd zs blk hc hn hbk=>?_;have hpl:=hc.small.1;have hmv:=hc.mvle;have hmg:=EM g f;have i:=hc.go g f;have a:mvG c.ps.length c.u q=if q<c.ps.length∧c.u/16=q/16 then q+1-c.u else if q<c.ps.length then q/16-c.u/16+q%16+1 else if c.u=c.ps.length then 1 else(c.ps.length+15)/16-c.u/16+1:=rfl;refine go ?_;refine dX dN (as_ 0 (q:=mv) (k:=?_));refine dS 1 rfl rfl aa rfl (iR (vs:= [_]) rfl (Ax hn)) ?_;refine as_ 2 (q:=mv) (k:=as_ 3 (q:=nck) (k:=as_ 4 (q:=fla) (k:=as_ 5 (q:=ldv) (k:=?_))));refine dS 6 rfl rfl aa rfl (ey (evq iad (congrArg (Value.int .i64) (show _=(c.u:Int)from a8)))) ?_;refine as_ 7 (q:=asn) (k:=as_ 8 (q:=asn) (k:=az_ (k:=qn_ (ru Nat (λy=>y=c.mv+mvG c.ps.length c.u q) (λy=>[]) [14,15,16,17,18,19,20,21,22,23,24,25,26,27,28,29,30,31,32,33,34,35,36,37,38,39,40,41,42,43,44,45,46,47,48,49,50,51,52,53,54,55,56,57,58,59,60,61,62,63,64,65,66,67,68,69,70,71,72,73,74,75,76,77,78,79,80,81,82,83,84,85,86,87,88,89,90,91] (λy=>[Vr b [.int .i64 (gz c.ps c.u),iN y,lpV lp,.int .i64 (((c.u:Nat):Int)-1),.int .i64 blk,rd.val,.bool c.told]]) (LPh lp im sk c.ps::Row rd ePo (zs.map pgV)::Cl pgH zs::R) ?_ ?_))))
 ·refine wb_ (ws_ (wr_ (e_ mv (e_ mv (e_ ilt (e_ mv (dV 6 41 (k:=λh1=>gk (k:=eg_ (fX rfl rfl c.u 16 rfl rfl ae ai) (gk (k:=eg_ (fX rfl rfl q 16 rfl rfl ae ai) (gk (k:=edq)))))) (q:=gW (λh2=>?_) (λh2=>?_)))))))))
  ·have e:q<c.ps.length∧c.u/16=q/16:=by obtain⟨a1,a2⟩:=h2;exact⟨a8,a8⟩
   refine wD [15] (λk H=>(k=4→dQ H b [.int .i64 (gz c.ps c.u),iN c.mv,lpV lp,.int .i64 (((c.u:Nat):Int)-1),.int .i64 blk,rd.val,.bool c.told])∧(k=9→dQ H b [.int .i64 (gz c.ps c.u),iN c.mv,lpV lp,.int .i64 (((c.u:Nat):Int)-1),.int .i64 blk,rd.val,.bool c.told])) (aF 0 (k:=aF 1 (k:=aF 2 (k:=aF 3 (k:=?_)))));refine aN 4 rfl (λH hH=>ah) ?_;refine aF 5 (k:=aF 6 (k:=aF 7 (k:=aF 8 (k:=?_))));refine aN 9 rfl (λH hH=>aM) ?_;refine aN 10 rfl (λH hH=>evq isb (congrArg (Value.int .i64) (show _=((q+1-c.u:Nat):Int)from a8))) ?_;refine aN 11 rfl (λH hH=>evq iad (congrArg (Value.int .i64) (show _=((c.mv+(q+1-c.u):Nat):Int)from a8))) (go ?_);refine aS 15 rfl (ej rfl rfl rfl) ?_;rintro _ _ ⟨rfl,rfl⟩;refine aZ (gk (k:=jnE (c.mv+(q+1-c.u)) (q:=?_)));rw[a,if_pos e]
  have e:¬(q<c.ps.length∧c.u/16=q/16):=aw;refine gW (λh3=>?_) λh3=>?_
  ·refine wr_ (e_ mv (e_ nck (e_ fla (e_ fla (e_ ldv (e_ mv ?_))))));refine e_ (fX rfl rfl q 16 rfl rfl ae ai) ?_;refine e_ mv ?_;refine e_ (fX rfl rfl c.u 16 rfl rfl ae ai) ?_;refine e_ isb (e_ mv ?_);refine e_ (mw rfl rfl q 16 rfl rfl ae) ?_;refine e_ iad (e_ iad ?_);refine e_ (evq iad (congrArg (Value.int .i64) (show _=((c.mv+(q/16-c.u/16+q%16+1):Nat):Int)from a8))) ?_;refine gk (k:=jnE (c.mv+(q/16-c.u/16+q%16+1)) (q:=?_));rw[a,if_neg e,if_pos a8]
  refine gW (λh4=>?_) λh4=>?_
  ·refine wr_ (e_ mv (e_ nck (e_ fla (e_ fla (e_ ldv ?_)))));refine e_ (evq iad (congrArg (Value.int .i64) (show _=((c.mv+1:Nat):Int)from a8))) ?_;refine gk (k:=jnE (c.mv+1) (q:=?_));rw[a,if_neg e,if_neg a8,if_pos a8]
  refine wr_ (e_ mv (e_ nck (e_ fla (e_ fla (e_ ldv (e_ mv (e_ iad ?_)))))));refine e_ (evq isb (congrArg (Value.int .i64) (show _=((c.ps.length+15:Nat):Int)from a8))) ?_;refine e_ (fX rfl rfl (c.ps.length+15) 16 rfl rfl ae ai) ?_;refine e_ mv ?_;refine e_ (fX rfl rfl c.u 16 rfl rfl ae ai) ?_;refine e_ isb (e_ iad ?_);refine e_ (evq iad (congrArg (Value.int .i64) (show _=((c.mv+((c.ps.length+15)/16-c.u/16+1):Nat):Int)from a8))) ?_;refine gk (k:=jnE (c.mv+((c.ps.length+15)/16-c.u/16+1)) (q:=?_));rw[a,if_neg e,if_neg a8,if_neg a8]
 rintro mm h
 try dsimp only[Yd,Ye]at*
 refine go ?_;refine gW (λh5=>?_) λh5=>?_
 ·refine go ?_;refine c2_ rfl (BZ hn hbk hc.ok hc.small hc.tot a8) ?_;rintro _ _ ⟨rd2,zs2,blk2,z,hbk2,j,hzs,rfl,rfl⟩;have d:gz c.ps (q+1)=(z.d:Int):=Hf j;refine e_ (jz (ft:=3) (off:=0) underlying203 rfl rfl rfl) (go ?_);refine gR ?_;exact⟨CuH b (goC c q)::R,dH.trans (H':=Vr b [.int .i64 (gz c.ps (q+1)),iN (c.mv+mvG c.ps.length c.u q),lpV lp,.int .i64 (((q+1:Nat):Int)-1),.int .i64 blk2,rd2.val,.bool false]::LPh lp im sk c.ps::Row rd2 ePo (zs2.map pgV)::Cl pgH zs2::R) (by rw[d,←h,show(((q+1:Nat):Int)-1)=(q:Int)from a8];exact hsb) (oZ (c:=goC c q) (x:=⟨lp,im,sk,rd2,zs2,blk2⟩) ⟨i,hn,hbk2⟩),by rw[d];all_goals rfl,rfl⟩
 obtain rfl:q=c.ps.length:=a8;have d:=yq c.ps;refine gR ?_;exact⟨CuH b (goC c c.ps.length)::R,dH.trans (H':=Vr b [.int .i64 (gz c.ps (c.ps.length+1)),iN (c.mv+mvG c.ps.length c.u c.ps.length),lpV lp,.int .i64 (((c.ps.length+1:Nat):Int)-1),.int .i64 blk,rd.val,.bool false]::LPh lp im sk c.ps::Row rd ePo (zs.map pgV)::Cl pgH zs::R) (by rw[d,←h,show(((c.ps.length+1:Nat):Int)-1)=(c.ps.length:Int)from a8];exact hsb) (oZ (c:=goC c c.ps.length) (x:=⟨lp,im,sk,rd,zs,blk⟩) ⟨i,hn,hbk⟩),by rw[d];all_goals rfl,rfl⟩
theorem Wl [hg:Glb G R] [hr:Rem H CuH b c R] (hc0:jU c):SC G prog 100 [pA b,.int .i64 t] H (λv H'=>v=.int .i64 (gz (jK c t).ps (jK c t).u)∧H'=CuH b (jK c t)::R):=by
 refine sWk func100 ?_;refine ws_ (wr_ ?_);refine AO b λlp im sk rd zs blk hc hn hbk=>?_;have hpl:=hc.small.1;have hat:=hc.at_;refine go ?_;refine dX dN (as_ 0 (q:=mv) (k:=as_ 1 (q:=nck) (k:=as_ 2 (q:=fla) (k:=as_ 3 (q:=fla) (k:=as_ 4 (q:=ldv) (k:=as_ 5 (q:=mv) (k:=as_ 6 (q:=ige) (k:=?_))))))));refine fH 7 rfl rfl aa rfl (ey mv) (λh1=>?_) (λh1=>?_)
 ·replace h1:=nrm h1;have had:jK c t=c:=by
   unfold jK;rw[if_pos (.inl ao)]
  refine gk (k:=ift (k:=go ?_));refine gR ?_;exact⟨CuH b (jK c t)::R,cN,by rw[had];all_goals rfl,rfl⟩
 replace h1:=nrm h1;have hlt:¬t≤gz c.ps c.u:=ao;refine go ?_;refine lH 13 rfl rfl rfl rfl aa rfl (iR (vs:= [_]) rfl (Ax hn)) ?_;refine gW (λh2=>?_) λh2=>?_
 ·have had:jK c t=c:=by
   unfold jK;rw[if_pos (.inr aw)]
  refine gR ?_;exact⟨CuH b (jK c t)::R,cN,by rw[had];all_goals rfl,rfl⟩
 have a:c.u≤c.ps.length:=aw;obtain⟨e,d,_⟩:=ya (t:=t) a;have had:jK c t=goC c (nP c.ps c.u t):=by
  unfold jK;rw[if_neg];rintro(h9|h9) <;> omega
 refine go ?_;refine eu (H':=CuH b c::R) (dH.trans hsb (oZ (c:=c) (x:=⟨lp,im,sk,rd,zs,blk⟩) ⟨hc,hn,hbk⟩)) ?_;refine go ?_;refine d2_ rfl (Sd a) ?_;refine d2_ rfl (Wf e d) (gR ?_);exact⟨_,hsb,by rw[had];all_goals rfl,by rw[had]⟩
theorem Ef [hg:Glb G R] [hr:Rem H CuH b c R] (l:jU c):SC G prog 134 [pA b] H (λv y=>∃s:SV,v=s.val∧y=Row s eI (dT (fj c))::CuH b (jD c)::R):=by
 refine sWk func134 ?_;refine go ?_;refine d1_ rfl QL (gW (λh1=>?_) (λh1=>?_))
 ·have f:fj c= []:=Uc ao;have hpc:jD c=c:=by unfold jD;rw[if_pos (.inr f)]
  refine gR ?_;exact⟨Row SV.nil eI (dT (fj c))::CuH b (jD c)::R,by rw[f,hpc];exact dH.nilRow (e:=eI) dH.refl,SV.nil,rfl,rfl⟩
 have j:fj c≠ []:=λe=>by have h9:=h1;rw[e]at h9;exact h9 rfl
 obtain⟨u,t,p,hp⟩:∃u,c.u=u+1∧∃p,c.ps[u]? =some p:=by
  rcases hcu:c.u with _|u
  ·exact absurd (pW (.inl hcu)) j
  ·cases hp:c.ps[u]? with
   |none=>exact absurd (pW (.inr (by rw[List.getElem?_eq_none_iff]at hp;omega))) j
   |some p=>exact⟨u,rfl,p,hp⟩
 have n:fj c=p.2:=r8 t hp;have m:=(Yk.1 hp).1;have d:=(l.small.2 p (Yj hp)).2.1;have hpo:=l.pos;have hhl:(fj c).length≤100000000:=by rw[n];exact d
 have hmv:=l.mvle;refine go ?_;refine AO b λlp im sk rd zs blk hc hn hbk=>?_;refine gW (λh2=>?_) λh2=>?_
 ·have i:c.told=false:=by have h9:=h2;simpa using h9
  have hpc:jD c=⟨c.ps,c.u,c.mv+(fj c).length,true⟩:=by unfold jD;rw[if_neg (by rintro(h9|h9);exact absurd h9 (by rw[i];decide);exact j h9)]
  refine go ?_;refine wD [6,11] (λk H=>(k=4→∃(x:Value) (w:Value),dQ H b [.int .i64 (gz c.ps c.u),iN c.mv,lpV lp,.int .i64 (((c.u:Nat):Int)-1),x,w,.bool c.told])) (aF 0 (k:=aF 1 (k:=aF 2 (k:=aF 3 (k:=?_)))));refine aN 4 rfl (λH hH=>by have hN:=hH rfl;exact(by obtain⟨x,w,hN2⟩:=hN;exact ldv)) (go ?_);refine kg 6 rfl aa rfl (λk hk=>λhi=>by subst hi;exact⟨_,_,inferInstance⟩) (v1_ (JT (c:=c) hn hbk hc)) ?_;rintro _ _ ⟨rfl,rd1,zs1,blk1,g,rfl⟩;refine aN 7 rfl (λH hH=>evq iad (congrArg (Value.int .i64) (show _=((c.mv+(fj c).length:Nat):Int)from a8))) (go ?_);refine kg 11 rfl aa rfl (λk hk=>λhi=>by subst hi;exact⟨_,_,inferInstance⟩) (ej rfl rfl rfl) ?_;rintro _ _ ⟨rfl,rfl⟩;refine aZ (go ?_);refine s_ (fk eI rfl) ?_;rintro _ _ ⟨q,rfl,rfl⟩;refine e_ mv (e_ mv (e_ nck (e_ fla ?_)));refine e_ (evq ldv (congrArg (Value.int .i64) (show(((c.u:Nat):Int)-1)=((u:Nat):Int)from a8))) ?_;refine c2_ rfl (BZ hn (by first|exact g|exact hbk) hc.ok hc.small hc.tot m) ?_;rintro _ _ ⟨rd2,zs2,blk2,z,hbk2,h,hzs,rfl,rfl⟩;have r:=eJ z.pos;have hzp:z.pos=fj c:=by rw[n];rw[h]at hp;cases hp;rfl
  have hzl:z.pos.length≤100000000:=by rw[hzp,n];exact d
  refine e_ (jz (ft:=28) (off:=1) underlying203 rfl rfl rfl) ?_;refine app (k:=λa=>?_);refine gR ?_;have hpo2:=hpo;rw[hpc]at hpo2
  (try rw[←hzp]at hpo2)
  exact⟨Row a eI (dT (fj c))::CuH b (jD c)::R,cv,a,rfl,rfl⟩
 have i:c.told=true:=aO;have hpc:jD c=c:=by unfold jD;rw[if_pos (.inl i)]
 refine go ?_;refine s_ (fk eI rfl) ?_;rintro _ _ ⟨q,rfl,rfl⟩;refine e_ mv (e_ mv (e_ nck (e_ fla ?_)));refine e_ (evq ldv (congrArg (Value.int .i64) (show(((c.u:Nat):Int)-1)=((u:Nat):Int)from a8))) ?_;refine c2_ rfl (BZ hn (by first|exact g|exact hbk) hc.ok hc.small hc.tot m) ?_;rintro _ _ ⟨rd2,zs2,blk2,z,hbk2,h,hzs,rfl,rfl⟩;have r:=eJ z.pos;have hzp:z.pos=fj c:=by rw[n];rw[h]at hp;cases hp;rfl
 have hzl:z.pos.length≤100000000:=by rw[hzp,n];exact d
 refine e_ (jz (ft:=28) (off:=1) underlying203 rfl rfl rfl) ?_;refine app (k:=λa=>?_);refine gR ?_;have hpo2:=hpo;rw[hpc]at hpo2
 (try rw[←hzp]at hpo2)
 exact⟨Row a eI (dT (fj c))::CuH b (jD c)::R,cv,a,rfl,rfl⟩
end
def dM (p:PrG) (q:PtD) (ins:List Ins):Cfg:=⟨ins,p,(List.range q.fs.length).map (eL q.fs q.ds),q.ds.map (·.1),l8 q.dw⟩
theorem AU {q:PtD}{f d:Nat}(hf:f<q.fs.length):qo ((List.range q.fs.length).map (eL q.fs q.ds)) f d=(eL q.fs q.ds f).getD d 0:=by
 rw[qo,Xj (l:=List.map _ _),Xd,Ur hf];all_goals rfl
theorem z8 {G:dJ}{H R:dD}{b:Nat}{c:CuS} [hr:Rem H CuH b c R]:SC G prog 99 [pA b] H (λv a=>v=.int .i64 (gz c.ps c.u)∧a=CuH b c::R):=
 ⟨(QN (G:=G) (H:= [Vr b [.int .i64 0]]) (b:=b) (d:=0) (l:= [])).enter,λw e=>by
   obtain⟨x,hx,f⟩:=AE hr e;exact(SC.out ((QN (G:=G) (b:=b)).mono (λv a h=>⟨_,by rw[h.2];exact oZ hx,h.1,rfl⟩))).call w f⟩
section
variable {G:dJ}{H R R2:dD}{m op A B b d:Nat}{x:MX}{y:MY}{p:PrG}{q:PtD}{c:CuS}{ins:List Ins}{s:SV}
theorem Wd [hr:Rem H Mo m (x,y) R] [hp:eN R x.pt q] (hpl:y.pl=(d:Int)) (hA:A<q.fs.length) (e:FJ q) (hd:d<q.ds.length) (hl:y.stk.length≤1000000000):SC G prog 58 [pA m,oN op A B] H (λv H'=>v=.tuple #[]∧H'=Mo m (x,{y with stk:=y.stk++ [if 0<qo (dM p q ins).lens A d then(true,262144)else(false,0)]})::R):=by
 have hqf:=e.f;have c:qo (dM p q ins).lens A d=(eL q.fs q.ds A).getD d 0:=AU hA;rw[c];refine qQ hr (λs=>?_);refine sWk func58 ?_;refine gk (k:=bxx (k:=λf=>?_));refine go ?_;refine wD [14] (λk H=>(k=3→dQ H m (mV x s y))∧(k=6→dQ H x.pt.p [pA x.pt.g,pA x.pt.d])∧(k=8→dQ H f [iN op,uN A,uN B])∧(k=13→dQ H m (mV x s y))) (aF 0 (k:=aF 1 (k:=aF 2 (k:=?_))));refine aN 3 rfl (λH hH=>ah) ?_;refine aF 4 (k:=aF 5 (k:=?_));refine aN 6 rfl (λH hH=>ar) ?_;refine aF 7 (k:=?_);refine aN 8 rfl (λH hH=>aL) ?_;refine aN 9 rfl (λH hH=>ew rfl a8) ?_;refine aF 10 (k:=aF 11 (k:=aF 12 (k:=?_)));refine aN 13 rfl (λH hH=>by have hN:=hH.2.2.2 rfl;exact evq ldv (congrArg (Value.int .i64) hpl)) ?_;refine aS 14 rfl (v3_ (QJ (a:=x.pt) hA hd)) ?_;rintro _ _ ⟨rfl,rfl⟩;refine gk (k:=aZ (gW (λh1=>?_) (λh1=>?_)))
 ·have hv:0<(eL q.fs q.ds A).getD d 0:=by have h9:=h1;omega
  refine wr_ ?_;refine eu (H':=Mo m (x,y)::R) (dH.trans (H':=Vr m (mV x s y)::Row s eVV y.stk::R) hsb mc) ?_;refine e_ mv (e_ (bld [(0,_),(1,_)]) ?_);refine d2_ rfl (qG (a:=true) (b:=262144) hl) (gR ?_);rw[if_pos hv];exact⟨_,hsb,rfl,rfl⟩
 have hv:¬0<(eL q.fs q.ds A).getD d 0:=ao;refine wr_ ?_;refine eu (H':=Mo m (x,y)::R) (dH.trans (H':=Vr m (mV x s y)::Row s eVV y.stk::R) hsb mc) ?_;refine e_ mv (e_ (bld []) ?_);refine d2_ rfl (qG (a:=false) (b:=0) hl) (gR ?_);rw[if_neg hv];exact⟨_,hsb,rfl,rfl⟩
theorem FX [hg:Glb G R] [hm:dQ R m (mV x s y)] [hc:Rem H CuH b c R] (hpl:y.pl=(d:Int)) (f:jU c):SC G prog 131 [pA m,pA b] H (λv g=>v=.bool (pT d (fJ d c))∧g=CuH b (fJ d c)::R):=by
 refine SC.less (dH.rem hc dH.refl) ?_;refine sWk func131 ?_;refine go ?_;refine wD [3] (λk H=>(k=7→dQ H m (mV x s y))) (aF 0 (k:=aF 1 (k:=aF 2 (k:=aF 4 (k:=aF 5 (k:=aF 6 (k:=?_)))))));refine aN 7 rfl (λH hH=>bY) ?_;refine aS 3 rfl (v1_ (z8 (c:=c))) ?_;rintro _ _ ⟨rfl,rfl⟩;refine gk (k:=aZ (gW (λh1=>?_) (λh1=>?_)))
 ·have e:gz c.ps c.u<(d:Int):=h1;have a:fJ d c=jK c d:=by rw[fJ,if_pos e]
  rw[a];refine wr_ (e_ mv (e_ mv (e_ nck (e_ fla ?_))));refine e_ (evq ldv (congrArg (Value.int .i64) hpl)) ?_;refine d2_ rfl (Wl f) (go ?_);refine wD [3] (λk H=>(k=7→dQ H m (mV x s y))) (aF 0 (k:=aF 1 (k:=aF 2 (k:=aF 4 (k:=aF 5 (k:=aF 6 (k:=?_)))))));refine aN 7 rfl (λH hH=>bY) ?_;refine aS 3 rfl (v1_ z8) ?_;rintro _ _ ⟨rfl,rfl⟩;refine gk (k:=aZ (gR ?_));exact⟨_,hsb,rfl,rfl⟩
 have e:¬gz c.ps c.u<(d:Int):=h1;have a:fJ d c=c:=by rw[fJ,if_neg e]
 rw[a];refine go ?_;refine wD [3] (λk H=>(k=7→dQ H m (mV x s y))) (aF 0 (k:=aF 1 (k:=aF 2 (k:=aF 4 (k:=aF 5 (k:=aF 6 (k:=?_)))))));refine aN 7 rfl (λH hH=>bY) ?_;refine aS 3 rfl (v1_ z8) ?_;rintro _ _ ⟨rfl,rfl⟩;refine gk (k:=aZ (gR ?_));exact⟨_,hsb,rfl,rfl⟩
theorem G0 [hr:dQ H m (mV x s y)] [hp:eN H x.pt q] [hpr:il H x.pa p] {w f k:Nat}(hpl:y.pl=(d:Int)) (hk:k<q.fs.length) (hk2:k<p.avgs.length) (hd:d<q.ds.length) (ha:∀a∈p.avgs,0≤a) (hw:w<18446744073709551616):SC G prog 132 [pA m,uN w,iN f,iN k] H (λv g=>v=vvV (sS (dM p q ins) d w f ((k:Nat):Int))∧g=H):=by
 obtain⟨e,b⟩:=gE p.avgs k;have c:p.avgs.getD k 0=e:=by rw[Xj,b];all_goals rfl
 refine sWk func132 ?_;refine gk (k:=alc (k:=λb8=>?_));refine go ?_;refine wD [14,23,26] (λk H=>(k=5→dQ H m (mV x s y))∧(k=8→dQ H x.pt.p [pA x.pt.g,pA x.pt.d])∧(k=13→dQ H m (mV x s y))∧(k=19→dQ H m (mV x s y))∧(k=21→Sl H x.pa.av eI p.avgs)∧(k=22→Sl H x.pa.av eI p.avgs)) (aF 0 (k:=aF 1 (k:=aF 2 (k:=aF 3 (k:=aF 4 (k:=?_))))));refine aN 5 rfl (λH hH=>ah) ?_;refine aF 6 (k:=aF 7 (k:=?_));refine aN 8 rfl (λH hH=>ar) ?_;refine aF 9 (k:=aF 10 (k:=aF 11 (k:=aF 12 (k:=?_))));refine aN 13 rfl (λH hH=>by have hN:=hH.2.2.1 rfl;exact evq ldv (congrArg (Value.int .i64) hpl)) ?_;refine aF 15 (k:=aF 16 (k:=aF 17 (k:=aF 18 (k:=?_))));refine aN 19 rfl (λH hH=>by have hN:=hH.2.2.2.1 rfl;exact ldv) ?_;refine aF 20 (k:=?_);refine aN 21 rfl (λH hH=>by have hN:=hH.2.2.2.2.1 rfl;exact ixa) ?_;refine aN 22 rfl (λH hH=>by have hN:=hH.2.2.2.2.2 rfl;exact lel (hy:=b)) ?_;refine aS 14 rfl (v3_ (QJ (a:=x.pt) hk hd)) ?_;rintro _ _ ⟨rfl,rfl⟩;refine aS 23 rfl (v3_ Z7) ?_;rintro _ _ ⟨rfl,rfl⟩;refine aN 24 rfl (λH hH=>nZ 18446744073709551616 rfl rfl rfl rfl w (Co f ((eL q.fs q.ds k).getD d 0) e.toNat) rfl aq) ?_;refine af_ 25 (q:=ea λH hH=>bld [(0,_),(1,_)]) (k:=?_);refine aS 26 rfl (ej rfl rfl rfl) ?_;rintro _ _ ⟨rfl,rfl⟩;refine aZ (gR ?_);exact⟨_,hsb,by rw[sS,Ve];show _=vvV (true,w64 (w*Co f (qo ((List.range q.fs.length).map (eL q.fs q.ds)) k d) (p.avgs.getD k 0).toNat));rw[AU hk,c];all_goals rfl,rfl⟩
end
section
variable {i:Nat}{l:List (Nat×CuS)}
def cuZ (z:Nat×CuS):dD:= [CuH z.1 z.2]
theorem uq {b:Nat}{c:CuS}{H:dD}(h:l[i]? =some (b,c)):dH (Cl cuZ l::H) (CuH b c::Cl cuZ (l.take i)::Cl cuZ (l.drop (i+1))::H):=lY (f:=cuZ) h
theorem mf {b:Nat}{c:CuS}{H:dD}(hi:i<l.length):dH (CuH b c::Cl cuZ (l.take i)::Cl cuZ (l.drop (i+1))::H) (Cl cuZ (l.set i (b,c))::H):=ur (f:=cuZ) (b,c) hi
theorem ow {bs:List Nat}{cs:List CuS}{b:Nat}{c:CuS}(h1:bs[i]? =some b) (h2:cs[i]? =some c):(bs.zip cs)[i]? =some (b,c):=by rw[List.getElem?_zip_eq_some];exact⟨h1,h2⟩
theorem m5 {bs:List Nat}{cs:List CuS}{b:Nat}{c:CuS}(h1:bs[i]? =some b):(bs.zip cs).set i (b,c)=bs.zip (cs.set i c):=by
 apply Vz;intro j;rw[Vf]
 by_cases hij:i=j
 ·subst hij;rw[if_pos rfl]
  by_cases hl:i<cs.length
  ·rw[if_pos (by rw[S4];have:=(Yk.1 h1).1;omega),ow h1 (Ue hl)]
  ·rw[if_neg dx,Xz (by rw[S4,Ub];omega)]
 ·rw[if_neg hij];simp only[List.zip,List.getElem?_zipWith,Vf,if_neg hij]
class MoP (H:dD) (m:Nat) (x:MX):Prop where
 out:∀(G:dJ) (w:World),Sat G w H→∃(s:SV) (y:MY) (R:dD),Sat G w (Vr m (mV x s y)::R)
instance MoP.ofMo {H R:dD}{m:Nat}{x:MX}{y:MY} [hr:Rem H Mo m (x,y) R]:MoP H m x:=⟨λG w hw=>let ⟨s,hs⟩:=pI (K:=Mo) rfl hr hw;⟨s,y,_,hs⟩⟩
instance MoP.ofVr {H R:dD}{m:Nat}{x:MX}{y:MY}{s:SV} [hr:Rem H Vr m (mV x s y) R]:MoP H m x:=⟨λG w hw=>⟨s,y,R,hr.sat hw⟩⟩
theorem Fq {G:dJ}{P:Program}{t:Tm}{H:dD}{o:Oper}{v:Value}{x:MX}(m:Nat) [h:MoP H m x] (hk:∀(s:SV) (y:MY) (R:dD),Ev G P o t (Vr m (mV x s y)::R) v):Ev G P o t H v:=fun ρ hρ w hw=>by
 obtain⟨s,y,R,a⟩:=h.out G w hw;exact hk s y R ρ hρ w a
section
variable {G:dJ}{H R R1 R2:dD}{m op A B b d:Nat}{x:MX}{y:MY}{p:PrG}{q:PtD}{c:CuS}{ins:List Ins}{s:SV}{cs:List CuS}
theorem sO {a:Bool}{v:Nat} [h1:Rem H Vr m (mV x s y) R1] [h2:mh R1 s eVV y.stk R] (hl:y.stk.length≤1000000000):SC G prog 56 [pA m,.agg #[.bool a,uN v]] H (λb c=>b=.tuple #[]∧c=Mo m (x,{y with stk:=y.stk++ [(a,v)]})::R):=
 SC.less ((dH.rem h1 (gi h2 dH.refl).keep).trans mc) (qG (x:=x) (y:=y) hl)
structure MOk (x:MX) (p:PrG) (q:PtD) (cs:List CuS):Prop where
 cl:x.cs.length=cs.length
 ok:∀c∈cs,jU c
 cu:p.curs.length=cs.length
 fd:∀c∈p.curs,0≤c.1∧c.1<((q.fs.length:Nat):Int)
 av:p.avgs.length=q.fs.length
 ap:∀a∈p.avgs,0≤a
 n:cs.length≤100000000
theorem Rz [hr:Rem H Mo m (x,y) R] [hc:Rem R Cl cuZ (x.cs.zip cs) R2] [hsc:Sl R2 x.cu ePt (x.cs.map λb=>(b,0))] [hg:Glb G R2] [hpt:eN R2 x.pt q] [hpr:il R2 x.pa p] (hk:MOk x p q cs) (hpl:y.pl=(d:Int)) (hA:A<cs.length) (L:B<18446744073709551616) (hd:d<q.ds.length) (hl:y.stk.length≤1000000000):
 SC G prog 59 [pA m,oN op A B] H (λv H'=>v=.tuple #[]∧H'=Mo m (x,{y with stk:=y.stk++ [(qE (dM p q ins) d A B cs).1]})::Cl cuZ (x.cs.zip (qE (dM p q ins) d A B cs).2)::R2):=by
 have C:=hk.cl;have hcn:=hk.n;have hcu:=hk.cu;have hav:=hk.av;obtain⟨b,j⟩:=gE x.cs A;obtain⟨c,e⟩:∃c,cs[A]? =some c:=⟨_,Yi hA⟩;obtain⟨⟨K,ky⟩,hfk⟩:∃z,p.curs[A]? =some z:=⟨_,Yi a8⟩;obtain⟨u,t⟩:=hk.fd _ (Yj hfk);simp only at u t;obtain⟨F,rfl⟩:∃n:Nat,K=(n:Int):=⟨K.toNat,a8⟩;have E:(x.cs.map λb=>(b,0))[A]? =some ((b,0):Nat×Nat):=by rw[Xd,j];all_goals rfl
 have l:cs.getD A fo=c:=by rw[Xj,e];all_goals rfl
 have h:=hk.ok c (Yj e);have J:=ow j e;have hzl:=(Yk.1 J).1;have r:lX (dM p q ins) A=(F:Int):=df;have hlm:(x.cs.map λb=>((b,0):Nat×Nat)).length=cs.length:=by rw[Yh,C]
 rw[qE,l,r];refine SC.less (dH.rem hr (dH.rem hc dH.refl).keep) ?_;refine qQ (m:=m) (x:=x) (y:=y) (R:=Cl cuZ (x.cs.zip cs)::R2) inferInstance (λs=>?_);refine sWk func59 ?_;refine gk (k:=bxx (k:=λi=>?_));refine go ?_;refine wD [] (λk H=>(k=3→dQ H m (mV x s y))∧(k=5→dQ H i [iN op,uN A,uN B])∧(k=6→Sl H x.cu ePt (x.cs.map λb=>(b,0)))∧(k=7→Sl H x.cu ePt (x.cs.map λb=>(b,0)))) (aF 0 (k:=aF 1 (k:=aF 2 (k:=?_))));refine aN 3 rfl (λH hH=>ah) ?_;refine aF 4 (k:=?_);refine aN 5 rfl (λH hH=>ar) ?_;refine aN 6 rfl (λH hH=>aG) ?_;refine aN 7 rfl (λH hH=>by have hN:=hH.2.2.2 rfl;exact lel (hy:=E)) ?_;refine gk (k:=aZ (go ?_));refine eu (H':=CuH b c::Cl cuZ ((x.cs.zip cs).take A)::Cl cuZ ((x.cs.zip cs).drop (A+1))::Vr i [iN op,uN A,uN B]::Vr m (mV x s y)::Row s eVV y.stk::R2) (dH.trans (H':=Cl cuZ (x.cs.zip cs)::Vr i [iN op,uN A,uN B]::Vr m (mV x s y)::Row s eVV y.stk::R2) hsb (uq J)) ?_;refine go ?_;refine d2_ rfl (FX (x:=x) (y:=y) (s:=s) (c:=c) (d:=d) hpl h) (gW (λh1=>?_) (λh1=>?_))
 ·have g:¬pT d (fJ d c)=true:=by have h9:=h1;simpa using h9
  rw[if_neg g];refine ws_ (wr_ (e_ mv (e_ (bld []) ?_)));refine d2_ rfl (sO (x:=x) (y:=y) (s:=s) (a:=false) (v:=0) hl) (gR ?_);dsimp only;rw[←m5 j];exact⟨_,dH.trans (H':=CuH b (fJ d c)::Cl cuZ ((x.cs.zip cs).take A)::Cl cuZ ((x.cs.zip cs).drop (A+1))::Mo m (x,{y with stk:=y.stk++ [(false,0)]})::R2) hsb ((mf hzl).trans hsb),rfl,rfl⟩
 have g:pT d (fJ d c)=true:=bg;rw[if_pos g];refine go ?_;refine wD [5,16,17] (λk H=>(k=3→dQ H i [iN op,uN A,uN B])∧(k=10→MoP H m x)∧(k=12→dQ H i [iN op,uN A,uN B])∧(k=13→Sl H x.pa.cu eLf p.curs)∧(k=14→Sl H x.pa.cu eLf p.curs)∧(k=15→Sl H x.pa.cu eLf p.curs)) (aF 0 (k:=aF 1 (k:=aF 2 (k:=?_))));refine aN 3 rfl (λH hH=>ah) ?_;refine aF 4 (k:=aF 6 (k:=aF 7 (k:=aF 8 (k:=aF 9 (k:=?_)))));refine aN 10 rfl (λH hH=>by have hN:=hH.2.1 rfl;exact Fq (x:=x) m λs y R=>ldv) ?_;refine aF 11 (k:=?_);refine aN 12 rfl (λH hH=>aL) ?_;refine aN 13 rfl (λH hH=>bu) ?_;refine aN 14 rfl (λH hH=>by have hN:=hH.2.2.2.2.1 rfl;exact fle) ?_;refine aN 15 rfl (λH hH=>by have hN:=hH.2.2.2.2.2 rfl;exact lfl (hy:=hfk)) ?_;refine aS 5 rfl (v1_ (QL (c:=fJ d c))) ?_;rintro _ _ ⟨rfl,rfl⟩;refine aS 16 rfl (lU (vs:= [_,_,_,_]) rfl (G0 (x:=x) (y:=y) (s:=s) (p:=p) (q:=q) (ins:=ins) (w:=B) (f:=(fj (fJ d c)).length) (k:=F) hpl a8 a8 hd hk.ap L)) ?_;rintro _ _ ⟨rfl,rfl⟩;refine aS 17 rfl (v2_ (sO (x:=x) (y:=y) (s:=s) hl)) ?_;rintro _ _ ⟨rfl,rfl⟩;refine aZ (rT (k:=?_));dsimp only;rw[←m5 j];exact⟨_,dH.trans (H':=CuH b (fJ d c)::Cl cuZ ((x.cs.zip cs).take A)::Cl cuZ ((x.cs.zip cs).drop (A+1))::Mo m (x,{y with stk:=y.stk++ [sS (dM p q ins) d B (fj (fJ d c)).length (F:Int)]})::R2) hsb ((mf hzl).trans hsb),rfl,rfl⟩
end
end
section
variable {L:List VV}{j:Nat}{v:VV}
theorem zC (h:L[j]? =some v):qq (L.take (j+1))=qq (L.take j)+if v.1=true then 1 else 0:=by
 rw[dK h,qq,qq,List.filter_append,Ya];cases hv:v.1 <;> simp[hv]
theorem C6 (h:L[j]? =some v):yK (L.take (j+1))=if v.1=true then w64 (yK (L.take j)+v.2)else yK (L.take j):=by
 rw[dK h,yK,List.foldl_append];all_goals rfl
section
variable {G:dJ}{H R:dD}{m op A B:Nat}{x:MX}{y:MY}
theorem RU [hr:Rem H Mo m (x,y) R] (hA:A≤y.stk.length) (hB:B<18446744073709551616) (hl:y.stk.length≤1000000000):SC G prog 76 [pA m,oN op A B] H (λv H'=>v=.tuple #[]∧H'=Mo m (x,{y with stk:=y.stk.take (y.stk.length-A)++ [if B≤qq (y.stk.drop (y.stk.length-A))then(true,yK (y.stk.drop (y.stk.length-A)))else(false,0)]})::R):=by
 refine qQ hr (λs=>?_);obtain⟨L,hL⟩:=ex (y.stk.drop (y.stk.length-A));have hLl:L.length=A:=by rw[hL,Yo];omega
 have d:(y.stk.take (y.stk.length-A)).length≤1000000000:=az;rw[←hL];refine sWk func76 ?_;refine gk (k:=bxx (k:=λl=>?_));refine go ?_;refine wD [] (λk H=>(k=3→dQ H m (mV x s y))∧(k=4→Sl H s eVV y.stk)∧(k=6→dQ H l [iN op,uN A,uN B])) (aF 0 (k:=aF 1 (k:=aF 2 (k:=?_))));refine aN 3 rfl (λH hH=>ah) ?_;refine aN 4 rfl (λH hH=>by have hN:=hH.2.1 rfl;exact lnn) ?_;refine aF 5 (k:=?_);refine aN 6 rfl (λH hH=>by have hN:=hH.2.2 rfl;exact ldv) ?_;refine aN 7 rfl (λH hH=>ew rfl a8) ?_;refine aN 8 rfl (λH hH=>evq isb (congrArg (Value.int .i64) (show _=((y.stk.length-A:Nat):Int)from a8))) ?_;refine gk (k:=aZ (go ?_));refine go ?_;refine kJ (Row s eVV y.stk::R) rfl (y.stk.length-A) y.stk.length ⟨_,_,rfl,(aT)⟩ rfl a8 aP rfl (λs23 g=>?_);rw[Xn,←hL]at g;refine gk (k:=e8 (Nat×Nat×Nat) (λy=>y.1≤L.length∧y.2.1=qq (L.take y.1)∧y.2.2=yK (L.take y.1)∧y.2.1≤y.1) (λy=>[(5,uN y.2.1),(6,uN y.2.2),(25,iN y.1)]) [(0,_),(3,_),(4,_),(23,_),(24,_)] (λy=>[]) _ (λy=>L.length-y.1) ((0,0,0)) (h0:=?_) (k:=?_))
 ·exact⟨Yl _,rfl,rfl,Xl _⟩
 rintro⟨j,n,w⟩ ⟨hj,hn,f,hnj⟩
 try dsimp only[Yd,Ye]at*
 refine gW (λh1=>?_) λh1=>?_
 ·obtain⟨v,hv⟩:=gE L j;have e:=zC hv;have b:=C6 hv;refine wk_ (qn_ (ws_ (wb_ (ws_ (wr_ (e_ ixa (e_ (gr (hy:=hv)) (alc (k:=λb8=>?_)))))))));refine gW (λh2=>?_) λh2=>?_
  ·have h:v.1=true:=h2;rw[if_pos h]at e b;refine ws_ (wr_ (e_ mv ?_));refine e_ (jo 18446744073709551616 rfl rfl rfl rfl n 1 rfl rfl a8) ?_;refine e_ asn (on_ (qn_ (wr_ (e_ mv (e_ fla (e_ ldv ?_))))));refine e_ (lk 18446744073709551616 rfl rfl rfl rfl w v.2 rfl rfl) (go ?_);refine lN ((j+1,n+1,(w+v.2)%18446744073709551616)) ?_
   try dsimp only
   exact⟨a8,a8,by rw[b,←f];all_goals rfl,a8⟩
  have i:¬v.1=true:=aO;rw[if_neg i]at e b;refine go ?_;refine lN ((j+1,n,w)) ?_
  try dsimp only
  exact⟨a8,a8,by rw[b,←f],a8⟩
 obtain rfl:j=L.length:=a8;rw[Xn]at hn f;refine we_ (qe_ (le_ (bh_ (qn_ (ws_ (wr_ (e_ mv (e_ mv (e_ nck (e_ fla (e_ ldv (e_ mv ?_))))))))))));refine e_ (fV rfl bH 0 (y.stk.length-A) rfl ⟨_,_,rfl,a8⟩ a8 a8) ?_;refine e_ nck (e_ fla (sto (k:=on_ (qn_ (ws_ (wr_ ?_))))));refine eu (H':=Row (s.cut 2 0 (y.stk.length-A)) eVV (y.stk.take (y.stk.length-A))::Vr m (mV x (s.cut 2 0 (y.stk.length-A)) y)::Vr l [iN op,uN A,uN B]::R) (dH.trans (H':=Row s eVV y.stk::Vr m (mV x (s.cut 2 0 (y.stk.length-A)) y)::Vr l [iN op,uN A,uN B]::R) hsb (xk a8)) ?_;refine gW (λh3=>?_) λh3=>?_
 ·have c:B≤qq L:=by have h9:=h3;omega
  refine wr_ (e_ mv (e_ mv (e_ (bld [(0,_),(1,_)]) ?_)));refine d2_ rfl (sO (x:=x) (y:={y with stk:=y.stk.take (y.stk.length-A)}) (s:=s.cut 2 0 (y.stk.length-A)) (a:=true) (v:=w) d) (gR ?_);rw[if_pos c,←f];exact⟨_,hsb,rfl,rfl⟩
 have c:¬B≤qq L:=aD;refine wr_ (e_ mv (e_ (bld []) ?_));refine d2_ rfl (sO (x:=x) (y:={y with stk:=y.stk.take (y.stk.length-A)}) (s:=s.cut 2 0 (y.stk.length-A)) (a:=false) (v:=0) d) (gR ?_);rw[if_neg c];exact⟨_,hsb,rfl,rfl⟩
end
end
section
variable {c:CuS}{i:Nat}
theorem xT {x:Int}{n:Nat}(h:fw x n=true):0≤x∧x<(n:Int):=by simpa [fw] using h
theorem vU {p:PrG}{n:lI}:∀{l os:List Int},l.length=os.length→sF p n l os=true→(∀k∈l,0≤k∧k<(p.curs.length:Int))∧∀o∈os,0≤o∧o≤2147483646
 | [], [],_,_=>⟨aq,aq⟩
 | [],_::_,h,_=>aK
 |_::_, [],h,_=>aK
 |k::l,o::os,h,hc=>by
  rw[sF]at hc;simp only[List.headD_cons,List.tail_cons,Xu]at hc;obtain⟨⟨⟨h1,h2⟩,h3⟩,h4⟩:=hc;replace h1:=xT h1;replace h2:=xT h2;obtain⟨b,a⟩:=vU bA h4;exact⟨λx hx=>by rcases Xo.1 hx with rfl|hx;exact h1;exact b x hx,λx hx=>by rcases Xo.1 hx with rfl|hx;(have:=h2.2;exact⟨h2.1,a8⟩);exact a x hx⟩
theorem xK {p:PrG}{n:lI}(h:fQ p n=true):1≤n.cs.length∧n.cs.length=n.offs.length∧0≤n.slop∧n.slop≤2147483646∧(∀k∈n.cs,0≤k∧k<(p.curs.length:Int))∧∀o∈n.offs,0≤o∧o≤2147483646:=by
 rw[fQ]at h;simp only[Xu,fw,Xq]at h;obtain⟨⟨⟨h1,h2⟩,h3⟩,h4⟩:=h;obtain⟨b,a⟩:=vU h2.symm h4;exact⟨h1,h2.symm,h3.1,by have:=h3.2;omega,b,a⟩
def GdC (T:Nat) (c:CuS):Prop:=jU c∧ec c.ps≤T
theorem Mc {T:Nat}{l:List CuS}(h:∀c∈l,GdC T c) (hc:GdC T c):∀x∈l.set i c,GdC T x:=λx hx=>by
 rcases R6 hx with h1|h1
 ·exact h x h1
 ·rw[h1];exact hc
theorem Mb {T:Nat}{d:Int}(h:GdC T c):GdC T (fJ d c):=⟨qL h.1,by rw[qK];exact h.2⟩
theorem TU {T:Nat}(h:GdC T c):GdC T (jD c):=⟨h.1.pos,by rw[xy];exact h.2⟩
theorem Nw {l:List Po}{q:Po}(h:q∈l):q.2.length≤ec l:=by
 induction l with
 |nil=>cases h
 |cons a r ih=>
  have hs:ec (a::r)=a.2.length+ec r:=by simp[ec]
  rcases Xo.1 h with rfl|h
  ·omega
  ·have:=ih h;omega
theorem B4 (c:CuS):(fj c).length≤ec c.ps:=by
 unfold fj
 split
 ·exact Yl _
 ·split
  ·rename_i q a;exact Nw (Yj a)
  ·exact Yl _
theorem Lo {H:dD}{zs:List (SV×List Nat)}{s:SV}{l:List Nat}(h1:(zs.map (·.1))[i]? =some s) (h2:(zs.map (·.2))[i]? =some l) (h:∀z∈zs,Sl H z.1 eI (dT z.2)):Sl H s eI (dT l):=by
 rw[Xd]at h1 h2;cases hz:zs[i]? with
 |none=>rw[hz]at h1;cases h1
 |some z=>
  rw[hz]at h1 h2;obtain rfl:=Xk h1;obtain rfl:=Xk h2;exact h z (Yj hz)
section
variable {G:dJ}{H R R2:dD}{m op A B d T:Nat}{x:MX}{y:MY}{p:PrG}{q:PtD}{ins:List Ins}{cs:List CuS}{n:lI}
theorem JP [hr:Rem H Mo m (x,y) R] [hc:Rem R Cl cuZ (x.cs.zip cs) R2] [hsc:Sl R2 x.cu ePt (x.cs.map λb=>(b,0))] [hg:Glb G R2] [hpt:eN R2 x.pt q] [b9:il R2 x.pa p] (hS:ph) (hC:jf) (hk:MOk x p q cs) (hpl:y.pl=(d:Int)) (hn:p.nears[A]? =some n) (a1:fQ p n=true) (hT:∀c∈cs,ec c.ps≤T) (hTn:n.cs.length*T≤1000000000000) (hnl:n.cs.length≤100000000) (hnn:p.nears.length≤1000000000) (hB:B<18446744073709551616) (hd:d<q.ds.length) (hl:y.stk.length≤1000000000):
 SC G prog 60 [pA m,oN op A B] H (λv H'=>v=.tuple #[]∧H'=Mo m (x,{y with stk:=y.stk++ [(jm (dM p q ins) d A B cs).1]})::Cl cuZ (x.cs.zip (jm (dM p q ins) d A B cs).2)::R2):=by
 have c7:=hk.cl;have hcn:=hk.n;have hcu:=hk.cu;have hav:=hk.av;obtain⟨hn1,hno,a0,hsl2,hkb,c0⟩:=xK a1;have c9:=(Yk.1 hn).1;obtain⟨z,n',hz,c2,b8,b7,b0⟩:=b9.nr.get c9;obtain rfl:n=n':=Xk (hn.symm.trans c2);obtain⟨F,N,z3⟩:=z;simp only at b8 b7 b0;subst b0;have hzl:=(Yk.1 hz).1;have a2:∀c∈cs,GdC T c:=λc b1=>⟨hk.ok c b1,hT c b1⟩;have c1:(dM p q ins).p.nears.getD A CO=n:=by show p.nears.getD A CO=n;rw[Xj,hn];all_goals rfl
 have hlm:(x.cs.map λb=>((b,0):Nat×Nat)).length=cs.length:=by rw[Yh,c7]
 rw[jm,c1];refine SC.less (dH.rem hr (dH.rem hc dH.refl).keep) ?_;refine qQ (m:=m) (x:=x) (y:=y) (R:=Cl cuZ (x.cs.zip cs)::R2) inferInstance (λs=>?_);refine sWk func60 ?_;refine gk (k:=bxx (k:=λM=>?_));refine go ?_;refine wD [9,10] (λk H=>(k=4→dQ H m (mV x s y))∧(k=6→dQ H M [iN op,uN A,uN B])∧(k=7→Sl H x.pa.ne eNr x.pa.nz)∧(k=8→Sl H x.pa.ne eNr x.pa.nz)) (aF 0 (k:=aF 1 (k:=aF 2 (k:=aF 3 (k:=?_)))));refine aN 4 rfl (λH hH=>ah) ?_;refine aF 5 (k:=?_);refine aN 6 rfl (λH hH=>ar) ?_;refine aN 7 rfl (λH hH=>aG) ?_;refine aN 8 rfl (λH hH=>by have hN:=hH.2.2.2 rfl;exact gr (hy:=hz)) ?_;refine aS 9 rfl m9 ?_;rintro _ _ ⟨U,rfl,rfl⟩;refine aS 10 rfl (ej rfl rfl rfl) ?_;rintro _ _ ⟨rfl,rfl⟩;refine aZ (qn_ (ws_ (ws_ (wr_ ?_))));dsimp only;refine gk (k:=e8 (Nat×(List CuS)) (λy=>y.1≤n.cs.length∧y.2.length=cs.length∧(∀c∈y.2,GdC T c)∧qt d n.cs cs=qt d (n.cs.drop y.1) y.2) (λy=>[(23,iN y.1)]) [(0,_),(3,_),(4,_),(21,_),(22,_)] (λy=>[Cl cuZ (x.cs.zip y.2)]) _ (λy=>n.cs.length-y.1) ((0,cs)) (h0:=?_) (k:=?_))
 ·exact⟨Yl _,rfl,a2,bC⟩
 rintro⟨i,E⟩ ⟨hi,b5,a6,h⟩
 try dsimp only[Yd,Ye]at*
 refine gW (λh1=>?_) λh1=>?_
 ·obtain⟨J,g⟩:=gE n.cs i;obtain⟨a9,a7⟩:=hkb J (Yj g);obtain⟨e,rfl⟩:∃e:Nat,J=(e:Int):=⟨J.toNat,a8⟩;obtain⟨b,Z⟩:=gE x.cs e;obtain⟨c,t⟩:=gE E e;have a4:(x.cs.map λb=>((b,0):Nat×Nat))[e]? =some ((b,0):Nat×Nat):=by rw[Xd,Z];all_goals rfl
  have C:=a6 c (Yj t);have L:E.getD (e:Int).toNat fo=c:=by rw[Ve,Xj,t];all_goals rfl
  have K:=ow Z t;have u:=(Yk.1 K).1;rw[eh g,qt,L,Ve]at h;refine wk_ (qn_ (ws_ (wb_ (ws_ (wr_ (e_ ixa (e_ (lel (hy:=g)) (e_ asn (on_ (qn_ (ws_ (wr_ (e_ mv ?_)))))))))))));refine e_ mv (e_ nck (e_ fla (e_ ldv (e_ mv (e_ ixa (e_ (lel (hy:=a4)) ?_))))));refine eu (H':=CuH b c::Cl cuZ ((x.cs.zip E).take e)::Cl cuZ ((x.cs.zip E).drop (e+1))::Vr U [F.val,N.val,.int .i64 n.slop]::Vr M [iN op,uN A,uN B]::Vr m (mV x s y)::Row s eVV y.stk::R2) (dH.trans (H':=Cl cuZ (x.cs.zip E)::Vr U [F.val,N.val,.int .i64 n.slop]::Vr M [iN op,uN A,uN B]::Vr m (mV x s y)::Row s eVV y.stk::R2) hsb (uq K)) ?_;refine d2_ rfl (FX (x:=x) (y:=y) (s:=s) (c:=c) (d:=d) hpl C.1) (gW (λh2=>?_) (λh2=>?_))
  ·have a5:¬pT d (fJ d c)=true:=by have h9:=h2;simpa using h9
   rw[if_neg a5]at h;refine ws_ (wr_ (e_ mv (e_ (bld []) ?_)));refine d2_ rfl (sO (x:=x) (y:=y) (s:=s) (a:=false) (v:=0) hl) (gR ?_);rw[h];dsimp only;rw[if_pos rfl];dsimp only;rw[←m5 Z];exact⟨_,dH.trans (H':=CuH b (fJ d c)::Cl cuZ ((x.cs.zip E).take e)::Cl cuZ ((x.cs.zip E).drop (e+1))::Mo m (x,{y with stk:=y.stk++ [(false,0)]})::R2) hsb ((mf u).trans hsb),rfl,rfl⟩
  have a5:pT d (fJ d c)=true:=aO;rw[if_pos a5]at h;refine wk_ (bn_ (qn_ (wr_ ?_)));refine eu (H':=Cl cuZ (x.cs.zip (E.set e (fJ d c)))::Vr U [F.val,N.val,.int .i64 n.slop]::Vr M [iN op,uN A,uN B]::Vr m (mV x s y)::Row s eVV y.stk::R2) (by rw[←m5 Z];exact dH.trans (H':=CuH b (fJ d c)::Cl cuZ ((x.cs.zip E).take e)::Cl cuZ ((x.cs.zip E).drop (e+1))::Vr U [F.val,N.val,.int .i64 n.slop]::Vr M [iN op,uN A,uN B]::Vr m (mV x s y)::Row s eVV y.stk::R2) hsb (mf u)) ?_;refine go ?_;refine lN ((i+1,E.set e (fJ d c))) ?_
  try dsimp only
  exact⟨a8,by rw[Ub];exact b5,Mc a6 (Mb C),h⟩
 obtain rfl:i=n.cs.length:=a8;rw[Vi,qt]at h;rw[h];dsimp only;rw[if_neg ae];refine go ?_;refine s_ (fk eSV rfl) ?_;rintro _ _ ⟨b6,rfl,rfl⟩;refine e_ asn (on_ (qn_ (ws_ (ws_ (wr_ ?_)))));refine eu (ga (f:=lnH) dH.refl) ?_;refine gk (k:=e8 (Nat×(List CuS)×(List (SV×List Nat))×SV×(List SV)) (λy=>y.1≤n.cs.length∧y.2.1.length=cs.length∧(∀c∈y.2.1,GdC T c)∧y.2.2.1.length=y.1∧y.2.2.2.2=y.2.2.1.map (·.1)∧((y.2.2.1.map (·.2)).map List.length).sum≤y.1*T∧jE n.cs E=(y.2.2.1.map (·.2)++(jE (n.cs.drop y.1) y.2.1).1,(jE (n.cs.drop y.1) y.2.1).2)) (λy=>[(7,y.2.2.2.1.val),(45,iN y.1)]) [(0,_),(3,_),(4,_),(43,_),(44,_)] (λy=>[Cl cuZ (x.cs.zip y.2.1),Row y.2.2.2.1 eSV y.2.2.2.2,Cl lnH y.2.2.1]) _ (λy=>n.cs.length-y.1) ((0,E, [],b6, [])) (h0:=?_) (k:=?_))
 ·try dsimp only
  exact⟨Yl _,b5,a6,rfl,rfl,Yl _,by rw[Va];all_goals rfl⟩
 rintro⟨i2,S,zs,sv,rw⟩ ⟨hi2,c8,b2,Y,X,hsum,r⟩
 try dsimp only[Yd,Ye]at*
 refine gW (λh3=>?_) λh3=>?_
 ·obtain⟨J,g⟩:=gE n.cs i2;obtain⟨a9,a7⟩:=hkb J (Yj g);obtain⟨e,rfl⟩:∃e:Nat,J=(e:Int):=⟨J.toNat,a8⟩;obtain⟨b,Z⟩:=gE x.cs e;obtain⟨c,t⟩:=gE S e;have a4:(x.cs.map λb=>((b,0):Nat×Nat))[e]? =some ((b,0):Nat×Nat):=by rw[Xd,Z];all_goals rfl
  have C:=b2 c (Yj t);have L:S.getD (e:Int).toNat fo=c:=by rw[Ve,Xj,t];all_goals rfl
  have K:=ow Z t;have u:=(Yk.1 K).1;rw[eh g,jE,L,Ve]at r;have hrwl:rw.length=i2:=by rw[X,Yh];exact Y
  have hhl:=Xi (B4 c) C.2;refine wk_ (qn_ (ws_ (wb_ (ws_ (wr_ (e_ ixa (e_ (lel (hy:=g)) (e_ asn (on_ (qn_ (wr_ (e_ mv (e_ mv ?_)))))))))))));refine e_ nck (e_ fla (e_ ldv (e_ mv (e_ ixa (e_ (lel (hy:=a4)) ?_)))));refine eu (H':=CuH b c::Cl cuZ ((x.cs.zip S).take e)::Cl cuZ ((x.cs.zip S).drop (e+1))::Row sv eSV rw::Cl lnH zs::Vr U [F.val,N.val,.int .i64 n.slop]::Vr M [iN op,uN A,uN B]::Vr m (mV x s y)::Row s eVV y.stk::R2) (dH.trans (H':=Cl cuZ (x.cs.zip S)::Row sv eSV rw::Cl lnH zs::Vr U [F.val,N.val,.int .i64 n.slop]::Vr M [iN op,uN A,uN B]::Vr m (mV x s y)::Row s eVV y.stk::R2) hsb (uq K)) ?_;refine c1_ rfl (Ef (c:=c) C.1) ?_;rintro _ _ ⟨j,rfl,rfl⟩;refine fS eSV (k:=λs58=>?_);refine app (k:=λV=>?_);refine e_ asn (on_ (bn_ (qn_ (wr_ ?_))));refine eu (H':=Cl cuZ (x.cs.zip (S.set e (jD c)))::Row V eSV (rw++ [j])::Cl lnH (zs++ [(j,fj c)])::Vr U [F.val,N.val,.int .i64 n.slop]::Vr M [iN op,uN A,uN B]::Vr m (mV x s y)::Row s eVV y.stk::R2) (by rw[←m5 Z];exact dH.trans (H':=CuH b (jD c)::Cl cuZ ((x.cs.zip S).take e)::Cl cuZ ((x.cs.zip S).drop (e+1))::Row j eI (dT (fj c))::Cl lnH zs::Row V eSV (rw++ [j])::Vr U [F.val,N.val,.int .i64 n.slop]::Vr M [iN op,uN A,uN B]::Vr m (mV x s y)::Row s eVV y.stk::R2) hsb ((mf u).trans (dH.trans (H':=Row j eI (dT (fj c))::Cl lnH zs::Cl cuZ ((x.cs.zip S).set e (b,jD c))::Row V eSV (rw++ [j])::Vr U [F.val,N.val,.int .i64 n.slop]::Vr M [iN op,uN A,uN B]::Vr m (mV x s y)::Row s eVV y.stk::R2) hsb ((AS (j,fj c)).trans hsb)))) ?_;refine go ?_;refine lN ((i2+1,S.set e (jD c),zs++ [(j,fj c)],V,rw++ [j])) ?_
  try dsimp only
  exact⟨a8,by rw[Ub];exact c8,Mc b2 (TU C),by rw[Ya,Y];all_goals rfl,by rw[Xp,X];all_goals rfl,by rw[Xp,Xp,S3,Vy];simp only[Xs,Ud,Vv,List.sum_nil];omega,by rw[r];simp⟩
 obtain rfl:i2=n.cs.length:=a8;rw[Vi,jE,Ym]at r;rw[r];dsimp only;refine go ?_;refine d3_ rfl (BV (ss:=rw) (lists:=zs.map (·.2)) (offs:=n.offs) (slop:=n.slop) hS hC (by rw[X,Yh,Yh]) (λi s l h1 h2=>Lo (X ▸ h1) h2 (λz hz=>by haveI:∀R,Sl (Cl lnH zs::R) z.1 eI (dT z.2):=λR=>MK (Vh.1 hz).choose_spec (λR=>(inferInstance:Sl (Row z.1 eI (dT z.2)::R) z.1 eI (dT z.2)));infer_instance)) bV bV bV c0 a0 a8 a8) (gW (λh4=>?_) (λh4=>?_))
 ·have a3:jF (zs.map (·.2)) n.offs n.slop=0:=by have h9:=h4;omega
  rw[if_pos a3];refine ws_ (wr_ (e_ mv (e_ (bld []) ?_)));refine d2_ rfl (sO (x:=x) (y:=y) (s:=s) (a:=false) (v:=0) hl) (gR ?_);exact⟨_,hsb,rfl,rfl⟩
 have a3:¬jF (zs.map (·.2)) n.offs n.slop=0:=aJ;rw[if_neg a3];obtain⟨J,g⟩:=gE n.cs 0;obtain⟨a9,a7⟩:=hkb J (Yj g);obtain⟨e,rfl⟩:∃e:Nat,J=(e:Int):=⟨J.toNat,a8⟩;obtain⟨⟨fd,ky⟩,hfk⟩:∃z,p.curs[e]? =some z:=⟨_,Yi a8⟩;obtain⟨c6,c5⟩:=hk.fd _ (Yj hfk);simp only at c6 c5;obtain⟨fn,rfl⟩:∃n:Nat,fd=(n:Int):=⟨fd.toNat,a8⟩;have c3:n.cs.headD 0=(e:Int):=by rw[Q3,List.head?_eq_getElem?,g];all_goals rfl
 have c4:lX (dM p q ins) (n.cs.headD 0).toNat=(fn:Int):=by rw[c3,Ve,lX];show(match p.curs[e]? with|some x=>x.1|none=>0)=_;rw[hfk]
 rw[c4];refine go ?_;refine wD [17,18] (λk H=>(k=3→dQ H M [iN op,uN A,uN B])∧(k=9→MoP H m x)∧(k=11→dQ H U [F.val,N.val,.int .i64 n.slop])∧(k=12→Sl H F eI n.cs)∧(k=13→Sl H F eI n.cs)∧(k=14→Sl H x.pa.cu eLf p.curs)∧(k=15→Sl H x.pa.cu eLf p.curs)∧(k=16→Sl H x.pa.cu eLf p.curs)) (aF 0 (k:=aF 1 (k:=aF 2 (k:=?_))));refine aN 3 rfl (λH hH=>ah) ?_;refine aF 4 (k:=aF 5 (k:=aF 6 (k:=aF 7 (k:=aF 8 (k:=?_)))));refine aN 9 rfl (λH hH=>by have hN:=hH.2.1 rfl;exact Fq (x:=x) m λs y R=>ldv) ?_;refine aF 10 (k:=?_);refine aN 11 rfl (λH hH=>aL) ?_;refine aN 12 rfl (λH hH=>by have hN:=hH.2.2.2.1 rfl;exact ixa (i:=0)) ?_;refine aN 13 rfl (λH hH=>by have hN:=hH.2.2.2.2.1 rfl;exact lel (hy:=g)) ?_;refine aN 14 rfl (λH hH=>by have hN:=hH.2.2.2.2.2.1 rfl;exact ixa) ?_;refine aN 15 rfl (λH hH=>by have hN:=hH.2.2.2.2.2.2.1 rfl;exact fle) ?_;refine aN 16 rfl (λH hH=>by have hN:=hH.2.2.2.2.2.2.2 rfl;exact lfl (hy:=hfk)) ?_;refine aS 17 rfl (lU (vs:= [_,_,_,_]) rfl (G0 (x:=x) (y:=y) (s:=s) (p:=p) (q:=q) (ins:=ins) (w:=B) (f:=jF (zs.map (·.2)) n.offs n.slop) (k:=fn) hpl a8 a8 hd hk.ap hB)) ?_;rintro _ _ ⟨rfl,rfl⟩;refine aS 18 rfl (v2_ (sO (x:=x) (y:=y) (s:=s) hl)) ?_;rintro _ _ ⟨rfl,rfl⟩;refine aZ (rT (k:=?_));exact⟨_,hsb,rfl,rfl⟩
end
end
def Ta:List Nat:= [54,55,57,58,59,60,61,64,66,68,70,72,74,75,76,77,80]
section
variable {G:dJ}{H R R2:dD}{m op A B d T:Nat}{x:MX}{y:MY}{p:PrG}{q:PtD}{ins:List Ins}{cs:List CuS}
structure Ah (p:PrG) (op A B h:Nat):Prop where
 opl:op≤16
 eff:∃h',jw (op,A,B) h=some h'
 oper:ng p (op,A,B)=true
 a:A<18446744073709551616
 b:B<18446744073709551616
 jmp:op=15∨op=16→A≤1000000000
structure N7 (p:PrG) (q:PtD) (T:Nat) (cs:List CuS):Prop where
 q:FJ q
 tot:∀c∈cs,ec c.ps≤T
 near:∀n∈p.nears,fQ p n=true∧n.cs.length*T≤1000000000000∧n.cs.length≤100000000
 nn:p.nears.length≤1000000000
theorem tOp [hr:Rem H Mo m (x,y) R] [hc:Rem R Cl cuZ (x.cs.zip cs) R2] [hsc:Sl R2 x.cu ePt (x.cs.map λb=>(b,0))] [hg:Glb G R2] [hpt:eN R2 x.pt q] [hpr:il R2 x.pa p] (g:ph) (h:jf) (hk:MOk x p q cs) (a:N7 p q T cs) (hi:Ah p op A B y.stk.length) (hpl:y.pl=(d:Int)) (hd:d<q.ds.length) (hl:y.stk.length≤1000000000) (hpc:y.pc≤1000000000):
 SC G prog (Ta.getD op 0) [pA m,oN op A B] H (λv i=>v=.tuple #[]∧i=Mo m (x,{y with stk:=(opV (dM p q ins) d (op,A,B) y.pc y.stk cs).2.1,pc:=(opV (dM p q ins) d (op,A,B) y.pc y.stk cs).1})::Cl cuZ (x.cs.zip (opV (dM p q ins) d (op,A,B) y.pc y.stk cs).2.2)::R2):=by
 refine SC.less (dH.rem hr (dH.rem hc dH.refl).keep) ?_;obtain⟨e,⟨h',he⟩,hoo,hA,f,hj⟩:=hi;have hav:=hk.av;have hcu:=hk.cu
 match op,e with
 | 0,_=>exact tO1
 | 1,_=>exact tO2 hl
 | 2,_=>exact tO3 hl
 | 3,_=>exact Wd hpl bD a.q hd hl
 | 4,_=>exact Rz hk hpl bD f hd hl
 | 5,_=>
  have c:A<p.nears.length:=Yt hoo;obtain⟨h1,h2,h3⟩:=a.near _ (List.getElem_mem c);exact JP g h hk hpl (Yi c) h1 a.tot h2 h3 a.nn f hd hl
 | 6,_=>exact tO6 aY hl
 | 7,_=>exact tO7 aY hl
 | 8,_=>exact tO8 aY hl
 | 9,_=>exact tO9 aY hl
 | 10,_=>exact Zm aY hl
 | 11,_=>exact Zl bf hl
 | 12,_=>exact Zk bf hl
 | 13,_=>exact Zo bf hl
 | 14,_=>exact RU (by simp only[jw]at he;split at he;cases he;omega) f hl
 | 15,_=>exact Zj bf hl (hj (.inl rfl)) hpc
 | 16,_=>exact Zi bf hl (hj (.inr rfl)) hpc
 |k+17,hk9=>exact absurd hk9 a8
end
theorem NL {G:dJ}{H R:dD}{b:Nat}{c:CuS} [hr:Rem H CuH b c R]:SC G prog 51 [pA b] H (λv a=>v=iN c.mv∧a=CuH b c::R):=
 ⟨(G3 (G:=G) (H:= [Vr b [.int .i64 0,.int .i64 0]]) (b:=b) (d:=0) (m:=0) (l:= [])).enter,λw e=>by
   obtain⟨x,hx,f⟩:=AE hr e;exact(SC.out ((G3 (G:=G) (b:=b)).mono (λv a h=>⟨_,by rw[h.2];exact oZ hx,h.1,rfl⟩))).call w f⟩
section
variable {G:dJ}{H R R2:dD}{m:Nat}{x:MX}{y:MY}{p:PrG}{q:PtD}{cs:List CuS}
theorem NV [hr:Rem H Mo m (x,y) R] [hc:Rem R Cl cuZ (x.cs.zip cs) R2] [hsc:Sl R2 x.cu ePt (x.cs.map λb=>(b,0))] (hk:MOk x p q cs):SC G prog 20 [pA m] H (λv H'=>v=.tuple #[iN y.st,iN ((cs.map (·.mv)).sum),iN y.vi]∧H'=Mo m (x,y)::Cl cuZ (x.cs.zip cs)::R2):=by
 have hcl:=hk.cl;have hcn:=hk.n;refine SC.less (dH.rem hr (dH.rem hc dH.refl).keep) ?_;refine qQ (m:=m) (x:=x) (y:=y) (R:=Cl cuZ (x.cs.zip cs)::R2) inferInstance (λs=>?_);have hlm:(x.cs.map λb=>((b,0):Nat×Nat)).length=cs.length:=by rw[Yh,hcl]
 refine sWk func20 ?_;refine go ?_;refine gk (k:=e8 (Nat×Nat) (λy=>y.1≤cs.length∧y.2=((cs.take y.1).map (·.mv)).sum∧y.2≤y.1*100100001) (λy=>[(5,iN y.2),(13,iN y.1)]) [(0,_),(11,_),(12,_)] (λy=>[]) _ (λy=>cs.length-y.1) ((0,0)) (h0:=?_) (k:=?_))
 ·try dsimp only
  exact⟨Yl _,rfl,Yl _⟩
 rintro⟨i,w⟩ ⟨hi,hw,hwb⟩
 try dsimp only[Yd,Ye]at*
 refine gW (λh1=>?_) (λh1=>?_)
 ·obtain⟨b,hb⟩:=gE x.cs i;obtain⟨c,hcA⟩:=gE cs i;have hbp:(x.cs.map λb=>((b,0):Nat×Nat))[i]? =some ((b,0):Nat×Nat):=by rw[Xd,hb];all_goals rfl
  have hmv:=(hk.ok c (Yj hcA)).mvle;have hzc:=ow hb hcA;have hzcl:=(Yk.1 hzc).1;have hset:cs.set i c=cs:=by rw[←(Yk.1 hcA).2,List.set_getElem_self]
  refine wk_ (qn_ (ws_ (wb_ (ws_ (wr_ (e_ ixa (k:=e_ (lel (hy:=hbp)) (k:=go ?_))))))));refine go ?_;refine eu (H':=CuH b c::Cl cuZ ((x.cs.zip cs).take i)::Cl cuZ ((x.cs.zip cs).drop (i+1))::Vr m (mV x s y)::Row s eVV y.stk::R2) (dH.trans (H':=Cl cuZ (x.cs.zip cs)::Vr m (mV x s y)::Row s eVV y.stk::R2) (hsb) (uq hzc)) ?_;refine d1_ rfl (NL (c:=c)) (k:=e_ iad (k:=e_ asn (k:=on_ (bn_ (qn_ (wr_ (?_)))))));refine eu (H':=Cl cuZ (x.cs.zip cs)::Vr m (mV x s y)::Row s eVV y.stk::R2) ((mf hzcl).trans (by rw[m5 hb,hset];exact hsb)) ?_;refine go ?_;refine ln_ ((i+1,w+c.mv)) (k:=?_)
  try dsimp only
  exact⟨a8,by rw[dK hcA,Xp,S3,←hw];simp,bt⟩
 obtain rfl:i=cs.length:=a8;rw[Xn]at hw;refine go ?_;refine wD [] (λk H=>(k=3→dQ H m (mV x s y))∧(k=8→dQ H m (mV x s y))) (aF 0 (k:=aF 1 (k:=aF 2 (k:=?_))));refine aN 3 rfl (λH hH=>ah) (?_);refine aF 4 (k:=aF 5 (k:=aF 6 (k:=aF 7 (k:=?_))));refine aN 8 rfl (λH hH=>aM) (?_);refine gk (k:=aZ (gR ?_));rw[←hw];exact⟨_,dH.trans (H':=Vr m (mV x s y)::Row s eVV y.stk::Cl cuZ (x.cs.zip cs)::R2) (hsb) mc,rfl,rfl⟩
end
section
variable {x:MX}{y:MY}
abbrev XG:List Value:= [.func (.func 54) #[] #[],.func (.func 55) #[] #[],.func (.func 57) #[] #[],.func (.func 58) #[] #[],.func (.func 59) #[] #[],.func (.func 60) #[] #[],.func (.func 61) #[] #[],.func (.func 64) #[] #[],.func (.func 66) #[] #[],.func (.func 68) #[] #[],.func (.func 70) #[] #[],.func (.func 72) #[] #[],.func (.func 74) #[] #[],.func (.func 75) #[] #[],.func (.func 76) #[] #[],.func (.func 77) #[] #[],.func (.func 80) #[] #[]]
theorem BW {G:dJ}{H:dD}:SC G prog 29 [] H (λv a=>v=.agg XG.toArray∧a=H):=by
 refine sWk func29 ?_;refine gk (k:=alc (k:=λb0=>?_));refine on_ (qn_ (ws_ (wr_ ?_)));refine e_ (zM XG rfl rfl) ?_;exact gZ
theorem MU {op k:Nat}(h:nI op=some k):op≤16:=by
 unfold nI at h;have:=(Yk.1 h).1;simp at this;omega
theorem Hh:∀(n:Nat) (l:List Nat) (xs:List Ins),lA n l=some xs→∀x∈xs,x.1≤16
 | 0,l,xs,h=>by cases h;simp
 |n+1, [],xs,h=>by cases h;simp
 |n+1,op::l,xs,h=>by
  rw[lA]at h
  split at h
  ·cases h
  ·rename_i k hk
   split at h
   ·cases h
   ·rename_i vs r hv
    split at h
    ·cases h
    ·rename_i ys hy;cases h;intro x hx;rcases Xo.1 hx with rfl|hx
     ·exact MU hk
     ·exact Hh n _ _ hy x hx
section
variable {G:dJ}{P:Program}{N:Nat}{Q:Go.Sx.Post}{t:Tm}{H:dD}{c:Code}
theorem Ro {R:dD}(m:Nat) [hr:Rem H Mo m (x,y) R] (h:∀s,W G P N c Q t (Vr m (mV x s y)::Row s eVV y.stk::R)):W G P N c Q t H:=
 ⟨λa w ha b=>let ⟨s,hs⟩:=pI (K:=Mo) rfl hr b;(h s).go a w ha hs⟩
end
theorem XO {s:SV}:∀(op:Nat),op≤16→(mV x s y)[9+op]? =some (.func (.func (Ta.getD op 0)) #[] #[])
 | 0,_=>rfl
 | 1,_=>rfl
 | 2,_=>rfl
 | 3,_=>rfl
 | 4,_=>rfl
 | 5,_=>rfl
 | 6,_=>rfl
 | 7,_=>rfl
 | 8,_=>rfl
 | 9,_=>rfl
 | 10,_=>rfl
 | 11,_=>rfl
 | 12,_=>rfl
 | 13,_=>rfl
 | 14,_=>rfl
 | 15,_=>rfl
 | 16,_=>rfl
 |k+17,h=>absurd h a8
theorem Qb {l:List Value}{i:Nat}{v:Value}(h:l[i]? =some v):Cut l i 1 [v]:=⟨λj w a=>by
 cases j with
 |zero=>rw[←a];simpa using h
 |succ j=>simp at a,rfl⟩
end
section
variable {T:Nat}{cs:List CuS}{ins:List Ins}{p:PrG}{pss:List (List Po)}{q:PtD}{x:MX}
structure SOk (x:MX) (p:PrG) (q:PtD) (pss:List (List Po)) (T:Nat) (ins:List Ins):Prop where
 cl:x.cs.length=pss.length
 cu:p.curs.length=pss.length
 fd:∀c∈p.curs,0≤c.1∧c.1<((q.fs.length:Nat):Int)
 av:p.avgs.length=q.fs.length
 ap:∀a∈p.avgs,0≤a
 n:pss.length≤100000000
 q:FJ q
 tot:∀ps∈pss,ec ps≤T
 near:∀n∈p.nears,fQ p n=true∧n.cs.length*T≤1000000000000∧n.cs.length≤100000000
 nn:p.nears.length≤1000000000
 dec:∀z∈ins,z.1≤16∧z.2.1<18446744073709551616∧z.2.2<18446744073709551616
 len:ins.length≤100000000
theorem SOk.mok (h:SOk x p q pss T ins) (hc:iq pss cs):MOk x p q cs:=
 ⟨by rw[h.cl,hc.len],hc.ok,by rw[h.cu,hc.len],h.fd,h.av,h.ap,by rw[hc.len];exact h.n⟩
theorem SOk.rok (h:SOk x p q pss T ins) (hc:iq pss cs):N7 p q T cs:=
 ⟨h.q,λc a=>h.tot _ (by rw[←hc.same];exact Vj a),h.near,h.nn⟩
theorem G9 {pc:Nat}{d:Hs}{a:List VV}{op A B:Nat}(h:SOk x p q pss T ins) (l:yG p ins d) (hpc:pc<ins.length) (hx:ins[pc]? =some (op,A,B)) (b:d.getD pc none=some a.length):Ah p op A B a.length:=by
 have c:ins.getD pc (0,0,0)=(op,A,B):=by rw[Xj,hx];all_goals rfl
 obtain⟨h0,m,k,j,i,g,f⟩:=(l.step pc hpc).ex;rw[b]at k;obtain rfl:=Xk k;rw[c]at j i g f;obtain⟨s,r,n⟩:=h.dec _ (Yj hx);refine⟨s,⟨m,j⟩,g,r,n,λhj=>?_⟩;have hne:¬pc+1=ins.length:=λe=>by have:=i.1 e;simp only at this;omega
 have:=(f a8).2 (ET hj);have hl:=h.len;have h1:=this.1;simp only at h1;omega
end
section
variable {G:dJ}{P:Program}{N:Nat}{Q:Go.Sx.Post}{t:Tm}{H:dD}{ops:Array Oper}{l:List Oper}
theorem Tb {R:dD}(m:Nat) {x:MX}{y:MY} [hr:Rem H Mo m (x,y) R] (h:∀s,O G P N ops l Q t (Vr m (mV x s y)::Row s eVV y.stk::R)):O G P N ops l Q t H:=
 ⟨λa w ha b=>let ⟨s,hs⟩:=pI (K:=Mo) rfl hr b;(h s).go a w ha hs⟩
end
theorem Gx {c:Cfg}{d op A B pc:Nat}{st:List VV}{cs:List CuS}(a:op≤16):(opV c d (op,A,B) pc st cs).2.1.length≤st.length+1:=by
 match op,a with
 | 0,_| 1,_| 2,_| 3,_| 4,_| 5,_| 6,_| 7,_| 8,_| 9,_| 10,_| 11,_| 12,_| 13,_| 14,_| 15,_| 16,_=>simp only[opV,mi,qy,Ya,X1,Yg,Yb,Yc];omega
 |k+17,h=>exact absurd h a8
section
variable {G:dJ}{H R R1 R2 R3:dD}{m op A B d T:Nat}{x:MX}{y yy:MY}{s:SV}{p:PrG}{q:PtD}{ins:List Ins}{cs:List CuS}{pss:List (List Po)}{tb:Hs}
theorem Z9 [h1:Rem H Vr m (mV x s y) R1] [h2:mh R1 s eVV y.stk R] [hc:Rem R Cl cuZ (x.cs.zip cs) R2] [hsc:Sl R2 x.cu ePt (x.cs.map λb=>(b,0))] [hg:Glb G R2] [hpt:eN R2 x.pt q] [hpr:il R2 x.pa p] (c:ph) (e:jf) (hk:MOk x p q cs) (a:N7 p q T cs) (hi:Ah p op A B y.stk.length) (hpl:y.pl=(d:Int)) (hd:d<q.ds.length) (hl:y.stk.length≤1000000000) (hpc:y.pc≤1000000000):
 SC G prog (Ta.getD op 0) [pA m,oN op A B] H (λv f=>v=.tuple #[]∧f=Mo m (x,{y with stk:=(opV (dM p q ins) d (op,A,B) y.pc y.stk cs).2.1,pc:=(opV (dM p q ins) d (op,A,B) y.pc y.stk cs).1})::Cl cuZ (x.cs.zip (opV (dM p q ins) d (op,A,B) y.pc y.stk cs).2.2)::R2):=
 SC.less ((dH.rem h1 (gi h2 dH.refl).keep).trans mc) (tOp (x:=x) (y:=y) (ins:=ins) c e hk a hi hpl hd hl hpc)
theorem Rx [hr:Rem H Mo m (x,yy) R] [hc:Rem R Cl cuZ (x.cs.zip cs) R2] [hsc:Sl R2 x.cu ePt (x.cs.map λb=>(b,0))] [hsi:Sl R2 x.co l7 ins] [hg:Glb G R2] [hpt:eN R2 x.pt q] [hpr:il R2 x.pa p] (hS:ph) (hC:jf) (i:SOk x p q pss T ins) (j:yG p ins tb) (S:iq pss cs) (hpl:yy.pl=(d:Int)) (hd:d<q.ds.length) (hst:yy.st≤1000000000000000000) (hvi:yy.vi≤1000000000000000000):
 SC G prog 39 [pA m] H (λv H'=>v=vvV (mF (dM p q ins) d ins.length 0 [] cs yy.st).1∧∃U:MY,U.pl=yy.pl∧U.st=(mF (dM p q ins) d ins.length 0 [] cs yy.st).2.2∧U.vi=yy.vi+1∧H'=Mo m (x,U)::Cl cuZ (x.cs.zip (mF (dM p q ins) d ins.length 0 [] cs yy.st).2.1)::R2):=by
 have hil:=i.len;have Z:=j.ne;have hrun:=(AG (c:=dM p q ins) (d:=d) ins.length 0 [] cs yy.st S).2.2;refine SC.less (dH.rem hr (dH.rem hc dH.refl).keep) ?_;refine qQ (m:=m) (x:=x) (y:=yy) (R:=Cl cuZ (x.cs.zip cs)::R2) inferInstance (λs=>?_);refine sWk func39 ?_;refine gk (k:=alc (k:=λV=>?_));refine gk (k:=BK 0 rfl (SV×(List VV)×Nat×Nat×(List CuS)×Nat) (λy=>y.2.2.1<ins.length∧tb.getD y.2.2.1 none=some y.2.1.length∧y.2.1.length≤y.2.2.1∧iq pss y.2.2.2.2.1∧ins.length≤y.2.2.2.2.2+y.2.2.1∧y.2.2.2.1≤yy.st+y.2.2.1∧mF (dM p q ins) d ins.length 0 [] cs yy.st=mF (dM p q ins) d y.2.2.2.2.2 y.2.2.1 y.2.1 y.2.2.2.2.1 y.2.2.2.1) (λy=>[(0,pA m),(2,pA V)]) (λy=>Vr m (mV x y.1 ⟨y.2.1,yy.pl,y.2.2.1,y.2.2.2.1,yy.vi+1⟩)::Row y.1 eVV y.2.1::Cl cuZ (x.cs.zip y.2.2.2.2.1)::Vr V [.bool false,.int .u64 0]::R2) (λy=>ins.length-y.2.2.1) (pass:=?_) (first:=λN=>?_))
 ·rintro⟨C,a,pc,e,ca,f⟩ ⟨hpc,J,hsl,u,hf,hk1,h⟩
  try dsimp only at*
  obtain⟨z,X⟩:∃z,ins[pc]? =some z:=⟨_,Yi hpc⟩;obtain⟨op,A,B⟩:=z;have r:=G9 i j hpc X J;have M:=r.opl;have t:lD (dM p q ins) pc=(op,A,B):=by show ins.getD pc (0,0,0)=_;rw[Xj,X];all_goals rfl
  obtain⟨f9,rfl⟩:∃g,f=g+1:=⟨f-1,a8⟩;rw[mF,t]at h;have l:a.length≤1000000000:=a8;refine go ?_;refine wD [10,11] (λk H=>(k=3→dQ H m (mV x C ⟨a,yy.pl,pc,e,yy.vi+1⟩))∧(k=7→dQ H m (mV x C ⟨a,yy.pl,pc,e,yy.vi+1⟩))∧(k=8→Sl H x.co l7 ins)∧(k=9→Sl H x.co l7 ins)) (aF 0 (k:=aF 1 (k:=aF 2 (k:=?_))));refine aN 3 rfl (λH hH=>ah) ?_;refine aF 4 (k:=aF 5 (k:=aF 6 (k:=?_)));refine aN 7 rfl (λH hH=>ar) ?_;refine aN 8 rfl (λH hH=>aG) ?_;refine aN 9 rfl (λH hH=>by have hN:=hH.2.2.2 rfl;exact gr (hy:=X)) ?_;refine aS 10 rfl m9 ?_;rintro _ _ ⟨b3,rfl,rfl⟩;refine aS 11 rfl (ej rfl rfl rfl) ?_;rintro _ _ ⟨rfl,rfl⟩;refine aZ (qn_ (ws_ (wr_ (e_ mv (e_ nck (e_ fla (e_ ldv ?_)))))));refine e_ (evq (Bg rfl rfl bO) (congrArg (Value.int .i64) (show _=((pc+1:Nat):Int)from bO))) ?_;refine e_ nck (e_ fla (sto (k:=on_ (qn_ (ws_ (wr_ (e_ mv (e_ nck (e_ fla (e_ ldv ?_))))))))));refine e_ (evq (Bg rfl rfl bO) (congrArg (Value.int .i64) (show _=((e+1:Nat):Int)from bO))) (go ?_);refine wD [9] (λk H=>(k=2→dQ H b3 [iN op,uN A,uN B])∧(k=6→MoP H m x)∧(k=8→dQ H b3 [iN op,uN A,uN B])) ?_;haveI hmop:∀(A:Hp) (R:dD),MoP (A::Vr m (mV x C ⟨a,yy.pl,pc+1,e+1,yy.vi+1⟩)::R) m x:=λA R=>MoP.ofVr (s:=C) (y:=⟨a,yy.pl,pc+1,e+1,yy.vi+1⟩);refine aF 0 (k:=aF 1 (k:=?_));refine aN 2 rfl (λH hH=>ah) ?_;refine aF 3 (k:=aF 4 (k:=?_));refine aN 5 rfl (λH hH=>evq (gI rfl rfl op rfl a8) (congrArg (λn=>Value.pointer (some ⟨m,n,none⟩)) (show _=9+op from a8))) ?_;refine aN 6 rfl (λH hH=>by have hN:=hH.2.1 rfl;exact Fq (x:=x) m λs yy R=>by haveI:=Qb (XO (x:=x) (s:=s) (y:=yy) op M);exact ldv) ?_;refine aF 7 (k:=?_);refine go ?_;refine aS 9 rfl (qM (fi:= []) (ca:= []) (vs:= [_,_]) rfl rfl (Z9 (x:=x) (y:=⟨a,yy.pl,pc+1,e+1,yy.vi+1⟩) (s:=C) (ins:=ins) hS hC (i.mok u) (i.rok u) r hpl hd l (by show pc+1≤_;omega))) ?_;rintro _ _ ⟨rfl,rfl⟩;refine aZ (qn_ (ws_ (ws_ (wr_ ?_))));refine Tb m (λw=>?_);refine gW (λh1=>?_) λh1=>?_
  ·have h0:¬op=0:=by have h9:=h1;omega
   rw[if_neg h0]at h;obtain⟨Y,F,E⟩:=CG (c:=dM p q ins) (d:=d) (st:=a) (cs:=ca) (j.step pc hpc) hpc J (by rw[t];exact h0);rw[t]at Y F E;have hln:=Gx (c:=dM p q ins) (d:=d) (A:=A) (B:=B) (pc:=pc+1) (st:=a) (cs:=ca) M;have L:=h;refine Ji (qg_ ?_);refine jg_ ((w,(opV (dM p q ins) d (op,A,B) (pc+1) a ca).2.1,(opV (dM p q ins) d (op,A,B) (pc+1) a ca).1,e+1,(opV (dM p q ins) d (op,A,B) (pc+1) a ca).2.2,f9)) (hI:=?_) (hm:=by(try dsimp only);omega) (hs:=by(try dsimp only);exact sbt) (hh:=by(try dsimp only);exact hsb)
   exact⟨F,E,a8,EI u,a8,a8,L⟩
  obtain rfl:op=0:=ao;rw[if_pos rfl]at h;rw[h];have K:0<a.length:=by
   obtain⟨h',he⟩:=r.eff;simp only[jw]at he
   split at he
   ·omega
   ·cases he
  refine go ?_;refine eu (H':=Vr m (mV x w ⟨a,yy.pl,pc+1,e+1,yy.vi+1⟩)::Row w eVV a::Cl cuZ (x.cs.zip ca)::_::_::R2) dH.refl ?_;refine go ?_;refine d1_ rfl (Ry (x:=x) (y:=⟨a,yy.pl,pc+1,e+1,yy.vi+1⟩) (s:=w) K l) (gk (k:=jt_ (rT (k:=?_))));exact⟨_,dH.trans (H':=Vr m (mV x w ⟨a,yy.pl,pc+1,e+1,yy.vi+1⟩)::Row w eVV a::Cl cuZ (x.cs.zip ca)::R2) hsb mc,rfl,⟨a,yy.pl,pc+1,e+1,yy.vi+1⟩,rfl,rfl,rfl,rfl⟩
 refine ws_ (wr_ (e_ mv (e_ nck (e_ fla (e_ ldv ?_)))));refine e_ (evq iad (congrArg (Value.int .i64) (show _=((yy.vi+1:Nat):Int)from a8))) ?_;refine e_ nck (e_ fla (sto (k:=on_ (qn_ (ws_ (wr_ (e_ mv (e_ mv (e_ nck (e_ fla (e_ ldv ?_)))))))))));refine e_ (fV rfl bH 0 0 rfl ⟨_,_,rfl,rfl⟩ a8 a8) ?_;refine e_ nck (e_ fla (sto (k:=on_ (qn_ (ws_ (wr_ ?_))))));refine eu (H':=Row (s.cut 2 0 0) eVV []::Vr m (mV x (s.cut 2 0 0) ⟨yy.stk,yy.pl,yy.pc,yy.st,yy.vi+1⟩)::Cl cuZ (x.cs.zip cs)::Vr V [.bool false,.int .u64 0]::R2) (dH.trans (H':=Row s eVV yy.stk::Vr m (mV x (s.cut 2 0 0) ⟨yy.stk,yy.pl,yy.pc,yy.st,yy.vi+1⟩)::Cl cuZ (x.cs.zip cs)::Vr V [.bool false,.int .u64 0]::R2) hsb (xk (k:=0) a8)) ?_;refine e_ mv (e_ nck (e_ fla (sto (k:=on_ (qn_ (N ((s.cut 2 0 0, [],0,yy.st,cs,ins.length)) _ _ ?_ (by(try dsimp only);exact sbt) (by(try dsimp only);exact hsb)))))))
 exact⟨Z,j.at0,Xl _,S,a8,a8,rfl⟩
end
section
variable {G:dJ}{H R R2:dD}{m T:Nat}{x:MX}{yy:MY}{p:PrG}{q:PtD}{ins:List Ins}{cs:List CuS}{pss:List (List Po)}
theorem RP [hr:Rem H Mo m (x,yy) R] [hc:Rem R Cl cuZ (x.cs.zip cs) R2] [hsc:Sl R2 x.cu ePt (x.cs.map λb=>(b,0))] [hg:Glb G R2] [hpt:eN R2 x.pt q] [hpr:il R2 x.pa p] (u:SOk x p q pss T ins) (a4:iq pss cs) (U:x.all=p.all) (X: -1≤yy.pl) (V:yy.pl<2147483647) (a3:∀k∈p.drive,0≤k∧k<(pss.length:Int)) (hdl:p.drive.length≤1000000000):
 SC G prog 38 [pA m] H (λv H'=>v=.bool (eQ (dM p q ins) ⟨cs,yy.pl,yy.st,yy.vi⟩).1∧H'=Mo m (x,{yy with pl:=(eQ (dM p q ins) ⟨cs,yy.pl,yy.st,yy.vi⟩).2.pl})::Cl cuZ (x.cs.zip (eQ (dM p q ins) ⟨cs,yy.pl,yy.st,yy.vi⟩).2.cs)::R2):=by
 have hlm:(x.cs.map λb=>((b,0):Nat×Nat)).length=pss.length:=by rw[Yh,u.cl]
 have B:(dM p q ins).ids.length=q.ds.length:=by show(q.ds.map (·.1)).length=_;rw[Yh]
 obtain⟨sr,F⟩:=ex (fE (dM p q ins) 2147483648 yy.pl cs);refine SC.less (dH.rem hr (dH.rem hc dH.refl).keep) ?_;refine qQ (m:=m) (x:=x) (y:=yy) (R:=Cl cuZ (x.cs.zip cs)::R2) inferInstance (λs=>?_);refine sWk func38 ?_;refine gk (k:=BK 0 rfl (Int×(List CuS)×Nat) (λy=>¬p.all=true∧ -1≤y.1∧y.1<2147483647∧iq pss y.2.1∧2147483647≤((y.2.2:Nat):Int)+y.1∧sr=fE (dM p q ins) y.2.2 y.1 y.2.1) (λy=>[(0,pA m)]) (λy=>Vr m (mV x s ⟨yy.stk,y.1,yy.pc,yy.st,yy.vi⟩)::Row s eVV yy.stk::Cl cuZ (x.cs.zip y.2.1)::R2) (λy=>(2147483647-y.1).toNat) (pass:=?_) (first:=λY=>?_))
 ·rintro⟨pl,ca,f⟩ ⟨J,hp1,a1,a5,hf,hsm⟩
  try dsimp only at*
  obtain⟨f9,rfl⟩:∃g,f=g+1:=⟨f-1,a8⟩;rw[fE]at hsm;refine go ?_;refine gk (k:=e8 (Nat×(List CuS)×Int) (λy=>y.1≤p.drive.length∧iq pss y.2.1∧y.2.2≤2147483647∧pl<y.2.2∧jJ pl p.drive ca 2147483647=jJ pl (p.drive.drop y.1) y.2.1 y.2.2) (λy=>[(5,.int .i64 y.2.2),(39,iN y.1)]) [(0,_),(37,_),(38,_)] (λy=>[Cl cuZ (x.cs.zip y.2.1)]) _ (λy=>p.drive.length-y.1) ((0,ca,2147483647)) (h0:=?_) (k:=?_))
  ·exact⟨Yl _,a5,a8,a1,bC⟩
  rintro⟨i,r,j⟩ ⟨hi,w,hle,hlp,l⟩
  try dsimp only[Yd,Ye]at*
  refine gW (λh1=>?_) λh1=>?_
  ·obtain⟨k0,K⟩:=gE p.drive i;obtain⟨kb1,kb2⟩:=a3 k0 (Yj K);obtain⟨n,rfl⟩:∃n:Nat,k0=(n:Int):=⟨k0.toNat,a8⟩;have hbl:=w.len;have hxl:=u.cl;obtain⟨b,hb⟩:=gE x.cs n;obtain⟨c,z⟩:=gE r n;have a6:(x.cs.map λb=>((b,0):Nat×Nat))[n]? =some ((b,0):Nat×Nat):=by rw[Xd,hb];all_goals rfl
   have C:=w.get z;have a0:r.getD (n:Int).toNat fo=c:=by rw[Ve,Xj,z];all_goals rfl
   have S:=ow hb z;have A:=(Yk.1 S).1;have e:=w.set (f:=fR pl) n (λc hc=>rf hc) (λc=>oY pl c);rw[show r.getD n fo=c from by rw[Xj,z];all_goals rfl]at e;have Z:=ym (pl:=pl) C a8;rw[eh K,jJ,a0,Ve]at l;refine wk_ (qn_ (ws_ (wb_ (ws_ (wr_ (e_ ixa (e_ (lel (hy:=K)) (e_ asn (on_ (qn_ (ws_ (wr_ (e_ mv ?_)))))))))))));refine e_ nck (e_ fla (e_ ldv (e_ mv (e_ ixa (e_ (lel (hy:=a6)) ?_)))));refine eu (H':=CuH b c::Cl cuZ ((x.cs.zip r).take n)::Cl cuZ ((x.cs.zip r).drop (n+1))::Vr m (mV x s ⟨yy.stk,pl,yy.pc,yy.st,yy.vi⟩)::Row s eVV yy.stk::R2) (dH.trans (H':=Cl cuZ (x.cs.zip r)::Vr m (mV x s ⟨yy.stk,pl,yy.pc,yy.st,yy.vi⟩)::Row s eVV yy.stk::R2) hsb (uq S)) ?_;refine go ?_;refine wD [3] (λk H=>(k=7→dQ H m (mV x s ⟨yy.stk,pl,yy.pc,yy.st,yy.vi⟩))) (aF 0 (k:=aF 1 (k:=aF 2 (k:=aF 4 (k:=aF 5 (k:=aF 6 (k:=?_)))))));refine aN 7 rfl (λH hH=>by have hN:=hH rfl;exact ldv) ?_;refine aS 3 rfl (v1_ (z8 (c:=c))) ?_;rintro _ _ ⟨rfl,rfl⟩;refine gk (k:=aZ (gW (λh2=>?_) (λh2=>?_)))
   ·have M:fR pl c=jK c (pl+1):=by rw[fR,if_pos h2]
    rw[M]at l e Z;refine wr_ (e_ mv (e_ mv (e_ nck (e_ fla (e_ ldv ?_)))));refine e_ (evq (Bg rfl rfl bO) (congrArg (Value.int .i64) (show _=pl+1 from rfl))) ?_;refine d2_ rfl (Wl C) (go ?_);refine d1_ rfl z8 ?_;refine e_ (oh rfl rfl) ?_;refine e_ asn (on_ (bn_ (qn_ (wr_ ?_))));refine eu (H':=Cl cuZ (x.cs.zip (r.set n (jK c (pl+1))))::Vr m (mV x s ⟨yy.stk,pl,yy.pc,yy.st,yy.vi⟩)::Row s eVV yy.stk::R2) (by rw[←m5 hb];exact dH.trans hsb (mf A)) ?_;refine go ?_;refine lN ((i+1,r.set n (jK c (pl+1)),min j (gz (jK c (pl+1)).ps (jK c (pl+1)).u))) ?_
    exact⟨a8,e,a8,a8,l⟩
   have M:fR pl c=c:=by rw[fR,if_neg h2]
   rw[M]at l e Z;refine go ?_;refine d1_ rfl z8 ?_;refine e_ (oh rfl rfl) ?_;refine e_ asn (on_ (bn_ (qn_ (wr_ ?_))));refine eu (H':=Cl cuZ (x.cs.zip (r.set n c))::Vr m (mV x s ⟨yy.stk,pl,yy.pc,yy.st,yy.vi⟩)::Row s eVV yy.stk::R2) (by rw[←m5 hb];exact dH.trans hsb (mf A)) ?_;refine go ?_;refine lN ((i+1,r.set n c,min j (gz c.ps c.u))) ?_
   exact⟨a8,e,a8,a8,l⟩
  obtain rfl:i=p.drive.length:=a8;rw[Vi,jJ]at l;rw[show jJ pl (dM p q ins).p.drive ca 2147483647=(r,j)from l]at hsm;simp only at hsm;refine gW (λh3=>?_) λh3=>?_
  ·rw[if_pos h3]at hsm;refine gk (k:=jt_ (rT (k:=?_)));rw[eQ,show(dM p q ins).p.all=p.all from rfl,if_neg J,←F,hsm];exact⟨_,dH.trans (H':=Vr m (mV x s ⟨yy.stk,pl,yy.pc,yy.st,yy.vi⟩)::Row s eVV yy.stk::Cl cuZ (x.cs.zip r)::R2) hsb mc,rfl,rfl⟩
  rw[if_neg h3]at hsm;have a2:j<2147483647:=aD;have a7:kU (dM p q ins) j=(decide (0≤j)&&decide (j<(q.ds.length:Int))&&!l8 q.dw j.toNat):=by
   rw[kU,B,show decide (j.toNat<q.ds.length)=decide (j<(q.ds.length:Int))from Vm.2 a8];all_goals rfl
  rw[a7]at hsm;obtain⟨av,E⟩:=ex (decide (0≤j)&&decide (j<(q.ds.length:Int))&&!l8 q.dw j.toNat);rw[←E]at hsm;refine go ?_;refine d2_ rfl ((Sp (a:=x.pt) u.q).mono (K':=λv H'=>v=.bool av∧H'=_) (λv H' h=>⟨h.1.trans (by rw[E]),h.2⟩)) (gW (λh4=>?_) (λh4=>?_))
  ·have N:¬av=true:=by have h9:=h4;simpa using h9
   rw[if_neg N]at hsm;refine Ji (qg_ ?_);refine jg_ ((j,r,f9)) (hI:=?_) (hm:=by(try dsimp only);omega) (hs:=by(try dsimp only);exact sbt) (hh:=by(try dsimp only);exact hsb)
   exact⟨J,a8,a2,w,a8,hsm⟩
  have N:av=true:=cZ;rw[if_pos N]at hsm;refine gk (k:=jt_ (rT (k:=?_)));rw[eQ,show(dM p q ins).p.all=p.all from rfl,if_neg J,←F,hsm];exact⟨_,dH.trans (H':=Vr m (mV x s ⟨yy.stk,j,yy.pc,yy.st,yy.vi⟩)::Row s eVV yy.stk::Cl cuZ (x.cs.zip r)::R2) hsb mc,rfl,rfl⟩
 refine gW (λh5=>?_) λh5=>?_
 ·have t:p.all=true:=by rw[←U];exact h5
  rw[eQ,show(dM p q ins).p.all=true from t,if_pos rfl,lj,B];refine go ?_;refine wD [9] (λk H=>(k=3→dQ H m (mV x s yy))∧(k=7→dQ H m (mV x s yy))) (aF 0 (k:=aF 1 (k:=aF 2 (k:=?_))));refine aN 3 rfl (λH hH=>ah) ?_;refine aF 4 (k:=aF 5 (k:=aF 6 (k:=?_)));refine aN 7 rfl (λH hH=>aM) (go ?_);refine aS 9 rfl (lU (vs:= [_,_]) rfl (Eg (a:=x.pt) u.q a8)) ?_;rintro _ _ ⟨(⟨dd,L,rfl⟩|⟨L,rfl⟩),rfl⟩
  ·rw[show((List.range q.ds.length).drop (yy.pl+1).toNat).find? (λd=>!(dM p q ins).dead d)=some dd from L];refine gk (k:=aZ (gk (k:=ift (k:=?_))));refine go ?_;refine gk (k:=ft_ (rT (k:=?_)));exact⟨_,dH.trans (H':=Vr m (mV x s {yy with pl:=(dd:Int)})::Row s eVV yy.stk::Cl cuZ (x.cs.zip cs)::R2) hsb mc,rfl,rfl⟩
  rw[show((List.range q.ds.length).drop (yy.pl+1).toNat).find? (λd=>!(dM p q ins).dead d)=none from L];refine gk (k:=aZ (gk (k:=fM (k:=?_))));refine gk (k:=ft_ (rT (k:=?_)));exact⟨_,dH.trans (H':=Vr m (mV x s yy)::Row s eVV yy.stk::Cl cuZ (x.cs.zip cs)::R2) hsb mc,rfl,rfl⟩
 have t:¬p.all=true:=by rw[←U];have h9:=h5;simpa using h9
 refine wk_ (qn_ (Y ((yy.pl,cs,2147483648)) _ _ ?_ (by(try dsimp only);exact sbt) (by(try dsimp only);exact hsb)))
 exact⟨t,X,V,a4,a8,F⟩
end
class qz (H:dD) (x:MX) (p:outParam PrG) (ins:outParam (List Ins)):Prop where
 pr:il H x.pa p
 co:Sl H x.co l7 ins
 cu:Sl H x.cu ePt (x.cs.map λb=>(b,0))
section
variable {H:dD}{x:MX}{p:PrG}{ins:List Ins}
theorem qz.less {H':dD}(hs:dH H' H) (h:qz H x p ins):qz H' x p ins:=⟨h.pr.less hs,ee hs h.co,ee hs h.cu⟩
instance qz.tail {A:Hp} [h:qz H x p ins]:qz (A::H) x p ins:=h.less (dH.drop dH.refl)
instance [h:qz H x p ins]:il H x.pa p:=h.pr
instance [h:qz H x p ins]:Sl H x.co l7 ins:=h.co
instance [h:qz H x p ins]:Sl H x.cu ePt (x.cs.map λb=>(b,0)):=h.cu
theorem za {F H:dD}:dH (eU F::H) F:=λL hL=>by
 obtain⟨L1,L2,rfl,h1,_⟩:=tA hL;exact⟨L1,L2,h1,List.Perm.refl _⟩
instance qz.star {F:dD} [h:qz F x p ins]:qz (eU F::H) x p ins:=h.less za
end
def Ma (m:Nat) (z:MX×MS):Hp:=Ex λy:List VV×Nat=>[Mo m (z.1,⟨y.1,z.2.pl,y.2,z.2.steps,z.2.visits⟩),Cl cuZ (z.1.cs.zip z.2.cs)]
theorem CT {m:Nat}{x:MX}{y:MY}{cs:List CuS}{R:dD}:dH (Mo m (x,y)::Cl cuZ (x.cs.zip cs)::R) (Ma m (x,⟨cs,y.pl,y.st,y.vi⟩)::R):=wx (K:=Ma) (i:=m) (a:=(x,⟨cs,y.pl,y.st,y.vi⟩)) rfl (y.stk,y.pc)
theorem Kh {G:dJ}{P:Program}{H:dD}{f:FuncId}{args:List Value}{K:Value→dD→Prop}{R:dD}{m:Nat}{x:MX}{s:MS}(hr:Rem H Ma m (x,s) R) (h:∀(st:List VV) (pc:Nat),SC G P f args (Mo m (x,⟨st,s.pl,pc,s.steps,s.visits⟩)::Cl cuZ (x.cs.zip s.cs)::R) K):SC G P f args H K:=
 ⟨(h [] 0).enter,λw a=>let ⟨y,hs⟩:=pI (K:=Ma) rfl hr a;(h y.1 y.2).call w hs⟩
structure tl (x:MX) (p:PrG) (q:PtD) (pss:List (List Po)) (T:Nat) (ins:List Ins) (tb:Hs):Prop where
 so:SOk x p q pss T ins
 gp:yG p ins tb
 all:x.all=p.all
 drl:p.drive.length≤1000000000
theorem Dq {p:PrG}:∀{l:List Int}{b:Option Int},jq p b l=true→∀k∈l,0≤k∧k<(p.curs.length:Int)
 | [],_,_,k,hk=>by cases hk
 |a::r,b,h,k,hk=>by
  rw[yk,fw]at h;simp only[Xu,Xq]at h;rcases Xo.1 hk with rfl|hk
  ·omega
  ·exact Dq h.2 k hk
theorem rz {p:PrG}(h:iP p=true):p.avgs.length≤16∧(∀a∈p.avgs,0≤a)∧(∀c∈p.curs,0≤c.1∧c.1<(p.avgs.length:Int)∧c.2.size≤64)∧(∀n∈p.nears,fQ p n=true)∧jq p none p.drive=true:=by
 rw[iP]at h;simp only[Xu,X5,Xq,fw]at h;obtain⟨⟨⟨⟨⟨⟨h1,h2⟩,h3⟩,h4⟩,h5⟩,h6⟩,b⟩:=h;exact⟨h2,h3,λc hc=>⟨(h4 c hc).1.1,(h4 c hc).1.2,(h4 c hc).2⟩,h5,b⟩
section
variable {x:MX}{p:PrG}{q:PtD}{pss:List (List Po)}{T:Nat}{ins:List Ins}{tb:Hs}
theorem tl.dr (h:tl x p q pss T ins tb):lq (dM p q ins) pss.length:=λk hk=>by
 have:=Dq (rz h.gp.tab).2.2.2.2 k hk;rw[h.so.cu]at this;exact this
theorem tl.ids (h:tl x p q pss T ins tb):(dM p q ins).ids.length=q.ds.length:=by show(q.ds.map (·.1)).length=_;rw[Yh]
theorem tl.few (h:tl x p q pss T ins tb):(dM p q ins).ids.length≤2147483647:=by have:=h.so.q.n;rw[h.ids];omega
theorem tT (h:tl x p q pss T ins tb) {s:MS}(hm:lT (dM p q ins) pss s):s.steps≤300000000000000000∧s.visits≤2147483647:=by
 have h1:=hm.vis;have h2:=hm.hi;have h3:=hm.stp;have h4:=h.so.len;have h5:s.visits*(dM p q ins).ins.length≤2147483647*100000000:=Uv a8 h4;omega
end
def Y4 (o:Option Hit):Value:=match o with
 |none=>.tuple #[.agg [.int .i64 0,.int .u64 0].toArray,.bool false]
 |some h=>.tuple #[.agg [.int .i64 h.1,.int .u64 ((h.2:Nat):Int)].toArray,.bool true]
section
variable {G:dJ}{H R:dD}{m T:Nat}{x:MX}{s:MS}{p:PrG}{q:PtD}{ins:List Ins}{pss:List (List Po)}{tb:Hs}
theorem RR [hr:Rem H Ma m (x,s) R] [hg:Glb G R] [hpt:eN R x.pt q] [hmf:qz R x p ins] (b:tl x p q pss T ins tb) (d:lT (dM p q ins) pss s):SC G prog 38 [pA m] H (λv i=>v=.bool (eQ (dM p q ins) s).1∧i=Ma m (x,(eQ (dM p q ins) s).2)::R):=by
 obtain⟨cs,c,k,a⟩:=s;refine Kh hr (λf g=>?_);obtain⟨_,h2,h3,_⟩:=qV b.dr b.few d;refine SC.out ((RP (yy:=⟨f,c,g,k,a⟩) (cs:=cs) (ins:=ins) (p:=p) (q:=q) (x:=x) (R2:=R) b.so d.cs b.all d.lo d.hi b.dr b.drl).mono (λv i h=>⟨_,?_,h.1,rfl⟩));have e:(eQ (dM p q ins) ⟨cs,c,k,a⟩).2=⟨(eQ (dM p q ins) ⟨cs,c,k,a⟩).2.cs,(eQ (dM p q ins) ⟨cs,c,k,a⟩).2.pl,k,a⟩:=by
  have j:∀z:MS,z.steps=k→z.visits=a→z=⟨z.cs,z.pl,k,a⟩:=λz h4 h5=>by subst h4;subst h5;rfl
  exact j _ h2 h3
 have h9:dH (Mo m (x,⟨f,(eQ (dM p q ins) ⟨cs,c,k,a⟩).2.pl,g,k,a⟩)::Cl cuZ (x.cs.zip (eQ (dM p q ins) ⟨cs,c,k,a⟩).2.cs)::R) (Ma m (x,⟨(eQ (dM p q ins) ⟨cs,c,k,a⟩).2.cs,(eQ (dM p q ins) ⟨cs,c,k,a⟩).2.pl,k,a⟩)::R):=CT (y:=⟨f,(eQ (dM p q ins) ⟨cs,c,k,a⟩).2.pl,g,k,a⟩);rw[←e]at h9;rw[h.2];exact h9
theorem NB {d:Nat} [hr:Rem H Ma m (x,s) R] [hg:Glb G R] [hpt:eN R x.pt q] [hmf:qz R x p ins] (j:ph) (l:jf) (a:tl x p q pss T ins tb) (b:lT (dM p q ins) pss s) (hpl:s.pl=(d:Int)) (hd:d<q.ds.length):SC G prog 39 [pA m] H (λv e=>v=vvV (jh (dM p q ins) s).1∧e=Ma m (x,(jh (dM p q ins) s).2)::R):=by
 obtain⟨cs,pl,k,c⟩:=s;obtain⟨h1,h2⟩:=tT a b;simp only at h1 h2 hpl;subst hpl;refine Kh hr (λg i=>?_);refine SC.out ((Rx (yy:=⟨g,(d:Int),i,k,c⟩) (cs:=cs) (ins:=ins) (p:=p) (q:=q) (x:=x) (R2:=R) (d:=d) j l a.so a.gp b.cs rfl hd (by show k≤_;omega) (by show c≤_;omega)).mono (λv e h=>⟨_,?_,h.1,rfl⟩));obtain⟨_,f,t,r,n,rfl⟩:=h;have h9:=CT (m:=m) (x:=x) (y:=f) (cs:=(mF (dM p q ins) d ins.length 0 [] cs k).2.1) (R:=R);rw[t,r,n]at h9;exact h9
theorem C3 [hr:Rem H Ma m (x,s) R] [hmf:qz R x p ins] (a:tl x p q pss T ins tb) (b:lT (dM p q ins) pss s):SC G prog 20 [pA m] H (λv g=>v=.tuple #[iN s.steps,iN (rF s),iN s.visits]∧g=Ma m (x,s)::R):=by
 obtain⟨cs,e,k,c⟩:=s;refine Kh hr (λd f=>?_);refine SC.out ((NV (y:=⟨d,e,f,k,c⟩) (cs:=cs) (p:=p) (q:=q) (x:=x) (R2:=R) (a.so.mok b.cs)).mono (λv g h=>⟨_,?_,h.1,rfl⟩));rw[h.2];exact CT (y:=⟨d,e,f,k,c⟩)
end
section
variable {G:dJ}{P:Program}{N:Nat}{Q:Go.Sx.Post}{t:Tm}{H:dD}{ops:Array Oper}{l:List Oper}
end
section
variable {G:dJ}{P:Program}{N:Nat}{Q:Go.Sx.Post}{t:Tm}{H:dD}{c:Code}
theorem Rp {R:dD}(m:Nat) {x:MX}{s:MS} [hr:Rem H Ma m (x,s) R] (h:∀(st:List VV) (pc:Nat),W G P N c Q t (Mo m (x,⟨st,s.pl,pc,s.steps,s.visits⟩)::Cl cuZ (x.cs.zip s.cs)::R)):W G P N c Q t H:=
 ⟨λa w ha b=>let ⟨y,hs⟩:=pI (K:=Ma) rfl hr b;(h y.1 y.2).go a w ha hs⟩
end
section
variable {G:dJ}{H R:dD}{m T:Nat}{x:MX}{s:MS}{p:PrG}{q:PtD}{ins:List Ins}{pss:List (List Po)}{tb:Hs}
theorem RO [hr:Rem H Ma m (x,s) R] [hg:Glb G R] [hpt:eN R x.pt q] [hmf:qz R x p ins] (Y:ph) (Z:jf) (c:tl x p q pss T ins tb) (E:lT (dM p q ins) pss s):SC G prog 15 [pA m] H (λv H'=>v=Y4 (fh (dM p q ins) s).1∧H'=Ma m (x,(fh (dM p q ins) s).2)::R):=by
 have l:=c.ids;have hlo:=E.lo;refine SC.less (dH.rem hr dH.refl) ?_;refine sWk func15 ?_;refine gk (k:=alc (k:=λb2=>?_));refine gk (k:=e8 (MS×Nat) (λy=>1≤y.2∧(q.ds.length:Int)≤((y.2:Nat):Int)+y.1.pl∧lT (dM p q ins) pss y.1∧fh (dM p q ins) s=qZ (dM p q ins) y.2 y.1) (λy=>[]) [(0,_),(2,_)] (λy=>[Ma m (x,y.1)]) _ (λy=>y.2) ((s,q.ds.length+1)) (h0:=?_) (k:=?_))
 ·try dsimp only
  exact⟨a8,a8,E,by rw[fh,l]⟩
 rintro⟨L,n⟩ ⟨hn1,hn2,w,b⟩
 try dsimp only[Yd,Ye]at*
 obtain⟨n,rfl⟩:∃g,n=g+1:=⟨n-1,a8⟩;rw[qZ]at b;refine go ?_;refine d1_ rfl (RR c w) (gW (λh1=>?_) (λh1=>?_))
 ·have hy:(eQ (dM p q ins) L).1=true:=h1;rw[if_neg (by rw[hy];decide)]at b;obtain⟨B,_,_,_,V⟩:=qV c.dr c.few w;obtain⟨U,J⟩:=V hy;obtain⟨N,C⟩:=yC J;obtain⟨u,_,r,_⟩:=wT c.dr c.few w hy;rw[l]at C;obtain⟨z,j⟩:=ex ((eQ (dM p q ins) L).2);rw[←j]at b B U N C u r;obtain⟨d,hd⟩:∃d:Nat,z.pl=(d:Int):=⟨z.pl.toNat,a8⟩;have hdl:d<q.ds.length:=a8;obtain⟨K,F⟩:∃K,q.ds[d]? =some K:=⟨_,Yi hdl⟩;have S:(dM p q ins).ids.getD z.pl.toNat 0=K.1:=by rw[hd,Ve];show(q.ds.map (·.1)).getD d 0=K.1;rw[Xj,Xd,F];all_goals rfl
  obtain⟨e,i⟩:=ex (jh (dM p q ins) z);have M:e.2.pl=(d:Int):=by rw[i];exact hd
  rw[←i]at b u r;rw[←j];refine go ?_;refine d1_ rfl ((NB Y Z c B hd hdl).mono (K':=λv H'=>v=vvV e.1∧H'=_) (λv H' h=>⟨by rw[i];exact h.1,by rw[h.2,←i]⟩)) (alc (k:=λb4=>?_));refine gW (λh2=>?_) λh2=>?_
  ·have f:e.1.1=true:=h2;rw[if_pos f]at b;rw[b];refine Rp m (λt A=>?_);refine Ro m (λX=>?_);refine go ?_;refine dX dN (as_ 0 (q:=mv) (k:=as_ 1 (q:=nck) (k:=as_ 2 (q:=fla) (k:=as_ 3 (q:=ldv) (k:=as_ 4 (q:=nck) (k:=as_ 5 (q:=fla) (k:=as_ 6 (q:=ldv) (k:=as_ 7 (q:=mv) (k:=as_ 8 (q:=nck) (k:=as_ 9 (q:=fla) (k:=?_)))))))))));refine dS 10 rfl rfl aa rfl (ey (evq ldv (congrArg (Value.int .i64) M))) ?_;refine dS 11 rfl rfl aa rfl (iR (vs:= [_,_]) rfl (Zn (a:=x.pt) F)) ?_;refine as_ 12 (q:=mv) (k:=as_ 13 (q:=exr) (k:=as_ 14 (q:=exr) (k:=as_ 15 (q:=asn) (k:=as_ 16 (q:=asn) (k:=az_ (k:=qn_ (ws_ (wr_ (e_ mv (e_ fla (e_ ldv (e_ (bld [(0,_),(1,_)]) (go ?_)))))))))))));refine gR ?_;exact⟨_,dH.trans (H':=Vr m (mV x X ⟨t,e.2.pl,A,e.2.steps,e.2.visits⟩)::Row X eVV t::Cl cuZ (x.cs.zip e.2.cs)::R) hsb (mc.trans (CT (y:=⟨t,e.2.pl,A,e.2.steps,e.2.visits⟩))),by show _=Y4 (some ((dM p q ins).ids.getD z.pl.toNat 0,e.1.2));rw[S];all_goals rfl,rfl⟩
  have f:¬e.1.1=true:=aO;rw[if_neg f]at b;refine go ?_;refine lN ((e.2,n)) ?_
  exact⟨a8,a8,u,b⟩
 have hy:(eQ (dM p q ins) L).1=false:=bg;rw[if_pos hy]at b;rw[b];refine we_ (qe_ (le_ (bh_ (qn_ (ws_ (wr_ (e_ (bld []) (gR ?_))))))));exact⟨_,hsb,rfl,rfl⟩
end
section
variable {c:Cfg}{n:Nat}{pl:Int}{pss:List (List Po)}{s:MS}{st:List VV}
theorem xg (cs:List CuS) (k:Nat):cs.set k (cs.getD k fo)=cs:=by
 apply Vz;intro j;rw[Vf]
 by_cases h:k=j
 ·subst h;rw[if_pos rfl]
  split
  ·rename_i hl;rw[Xj,Yi hl];all_goals rfl
  ·rename_i hl;rw[Xz a8]
 ·rw[if_neg h]
theorem yl {c:CuS}(h:pl<gz c.ps c.u):fR pl c=c:=by unfold fR;rw[if_neg a8]
theorem Dn:∀{ks:List Int}{cs:List CuS}{le:Int}{j:Nat},pl<gz (cs.getD j fo).ps (cs.getD j fo).u→(jJ pl ks cs le).1.getD j fo=cs.getD j fo
 | [],_,_,_,_=>rfl
 |k::r,cs,le,j,h=>by
  rw[jJ];have e:(cs.set k.toNat (fR pl (cs.getD k.toNat fo))).getD j fo=cs.getD j fo:=by
   by_cases hk:k.toNat=j
   ·subst hk;rw[yl h,xg]
   ·rw[Xj,Vf,if_neg hk,←Xj]
  rw[Dn (by rw[e];exact h),e]
theorem He (hp:pl<2147483647):∀{ks:List Int}{cs:List CuS}{le:Int},(∀k∈ks,k.toNat<cs.length)→2147483647≤(jJ pl ks cs le).2→∀k∈ks,2147483647≤gz ((jJ pl ks cs le).1.getD k.toNat fo).ps ((jJ pl ks cs le).1.getD k.toNat fo).u
 | [],_,_,_,_,k,h=>bx
 |k::r,cs,le,hin,hM,k',hk'=>by
  rw[jJ]at hM⊢;have hk:=hin k Yz;rcases Xo.1 hk' with rfl|hr
  ·have e:(cs.set k'.toNat (fR pl (cs.getD k'.toNat fo))).getD k'.toNat fo=fR pl (cs.getD k'.toNat fo):=by
    rw[Xj,Vf,if_pos rfl,if_pos hk];all_goals rfl
   have h1:=wE (pl:=pl) (ks:=r) (cs:=cs.set k'.toNat (fR pl (cs.getD k'.toNat fo))) (le:=min le (gz (fR pl (cs.getD k'.toNat fo)).ps (fR pl (cs.getD k'.toNat fo)).u));have h2:2147483647≤gz (fR pl (cs.getD k'.toNat fo)).ps (fR pl (cs.getD k'.toNat fo)).u:=a8;rw[Dn (by rw[e];omega),e];exact h2
  ·exact He hp (λq a=>by rw[Ub];exact hin q (Xa _ a)) hM k' hr
theorem Hd (hp:pl<2147483647):∀{ks:List Int}{cs:List CuS},(∀k∈ks,2147483647≤gz (cs.getD k.toNat fo).ps (cs.getD k.toNat fo).u)→jJ pl ks cs 2147483647=(cs,2147483647)
 | [],_,_=>rfl
 |k::r,cs,h=>by
  have hk:=h k Yz;rw[jJ,yl a8,xg,show min (2147483647:Int) (gz (cs.getD k.toNat fo).ps (cs.getD k.toNat fo).u)=2147483647 from a8];exact Hd hp λq a=>h q (Xa _ a)
theorem vN (a:lq c pss.length):∀(n:Nat) (pl:Int) (cs:List CuS), -1≤pl→pl<2147483647→2147483647≤(n:Int)+pl→iq pss cs→(fE c n pl cs).1=false→
 jJ (fE c n pl cs).2.1 c.p.drive (fE c n pl cs).2.2 2147483647=((fE c n pl cs).2.2,2147483647)
 | 0,pl,cs,h1,h2,h3,h,hf=>a8
 |n+1,pl,cs,h1,h2,h3,h,hf=>by
  have hc:=Bn (pl:=pl) (ks:=c.p.drive) (le:=2147483647) h;have hg:=Bo (pl:=pl) a8 (le:=2147483647) h a a8;have hl:=wE (pl:=pl) (ks:=c.p.drive) (cs:=cs) (le:=2147483647);have hcl:=h.len;rw[fE]at hf⊢
  split
  ·rename_i hM;exact Hd h2 (He h2 (λk hk=>by have:=a k hk;omega) a8)
  ·rename_i b;rw[if_neg b]at hf
   split
   ·rename_i ha;rw[if_pos ha]at hf;cases hf
   ·rename_i ha;rw[if_neg ha]at hf;exact vN a n _ _ a8 a8 a8 hc hf
theorem Il (a:lq c pss.length) (h:lT c pss s) (hf:(eQ c s).1=false):eQ c (eQ c s).2=(false,(eQ c s).2):=by
 have h1:=h.lo;have h2:=h.hi;unfold eQ at hf⊢
 by_cases ha:c.p.all=true
 ·rw[if_pos ha]at hf⊢;cases hn:lj c (s.pl+1).toNat with
  |some d=>rw[hn]at hf;cases hf
  |none=>dsimp only;rw[if_pos ha,hn]
 ·rw[if_neg ha]at hf⊢;rw[if_neg ha];have h3:=vN a 2147483648 s.pl s.cs h1 h2 a8 h.cs hf;dsimp only at hf⊢;generalize fE c 2147483648 s.pl s.cs=r at h3 hf⊢;obtain⟨b,pl,cs⟩:=r;dsimp only at h3 hf⊢;rw[show(2147483648:Nat)=2147483647+1 from rfl,fE,h3,if_pos rfl]
theorem EL (h:eQ c s=(false,s)):fh c s=(none,s):=by
 rw[fh,qZ,h,if_pos rfl]
theorem Fz {ps:List Po}(h:∀p∈ps,p.1<n) (u:Nat):gz ps u=2147483647∨gz ps u<(n:Int):=by
 cases u with
 |zero=>right;show(-1:Int)<_;omega
 |succ k=>
  rw[gz];split
  ·rename_i p hp;right;have:=h p (Yj hp);omega
  ·left;rfl
theorem zR (hp:∀ps∈pss,∀p∈ps,p.1<n):∀{ks:List Int}{cs:List CuS}{le:Int},iq pss cs→(le=2147483647∨le<(n:Int))→((jJ pl ks cs le).2=2147483647∨(jJ pl ks cs le).2<(n:Int))
 | [],_,_,_,h=>h
 |k::r,cs,le,hc,h=>by
  rw[jJ];refine zR hp (hc.set (f:=fR pl) k.toNat (λc hc=>rf hc) λc=>oY pl c) ?_;have h1:∀p∈(fR pl (cs.getD k.toNat fo)).ps,p.1<n:=λp a=>by
   rw[oY,Xj]at a;cases hk:cs[k.toNat]? with
   |none=>rw[hk]at a;cases a
   |some c=>
    rw[hk]at a;exact hp c.ps (by rw[←hc.same];exact Vj (Yj hk)) p a
  rcases Fz h1 (fR pl (cs.getD k.toNat fo)).u with h2|h2 <;> rcases h with h|h <;> omega
def StZ (st:List VV):Prop:=∀v∈st,v.1=false→v.2=0
theorem StZ.top (h:StZ st):(eX st).1=false→(eX st).2=0:=by
 unfold eX;cases e:st.getLast? with
 |none=>exact λ_=>rfl
 |some v=>exact h v (Q0 e)
theorem StZ.drop (h:StZ st):StZ st.dropLast:=λv hv=>h v ((List.dropLast_sublist st).subset hv)
theorem StZ.snoc (h:StZ st){v:VV}(hv:v.1=false→v.2=0):StZ (st++ [v]):=λu hu=>by
 rcases Xm.1 hu with hu|hu
 ·exact h u hu
 ·rw[Vb.1 hu];exact hv
theorem StZ.two (h:StZ st) (f:VV→VV→VV):StZ (mi st f):=h.drop.drop.snoc λe=>by
 dsimp only at e⊢;rw[e];all_goals rfl
theorem XH {d pc:Nat}{x:Ins}{cs:List CuS}(h:StZ st):StZ (opV c d x pc st cs).2.1:=by
 obtain⟨o,A,C⟩:=x;have g:∀{v:VV},v.1=true→v.1=false→v.2=0:=λh1 h2=>by rw[h1]at h2;cases h2
 have f:∀{q:Prop} [Decidable q] {n:Nat},(if q then((true,n):VV)else(false,0)).1=false→(if q then((true,n):VV)else(false,0)).2=0:=fun{q} _ {n} e=>by
  by_cases hq:q
  ·rw[if_pos hq]at e;cases e
  ·rw[if_neg hq]
 match o with
 | 0=>exact h
 | 1=>exact h.snoc λ_=>rfl
 | 2=>exact h.snoc (g rfl)
 | 3=>exact h.snoc f
 | 4=>exact h.snoc f
 | 5=>
  refine h.snoc ?_;show(jm c d A C cs).1.1=false→(jm c d A C cs).1.2=0;unfold jm;dsimp only
  split
  ·exact λ_=>rfl
  ·dsimp only
   split
   ·exact λ_=>rfl
   ·exact g rfl
 | 6=>exact StZ.two h λa b=>(a.1&&b.1,w64 (a.2+b.2))
 | 7=>exact StZ.two h λa b=>(a.1 ||b.1,w64 (a.2+b.2))
 | 8=>exact StZ.two h λa b=>(a.1 ||b.1,max a.2 b.2)
 | 9=>exact StZ.two h λa b=>(a.1,w64 (a.2+b.2))
 | 10=>exact StZ.two h λa b=>(a.1&&!b.1,a.2)
 | 11=>exact h.drop.snoc λ_=>rfl
 | 12=>
  refine h.drop.snoc λe=>?_;have i:(eX st).2=0:=h.top e;show w64 ((eX st).2*A)=0;rw[i,Nat.zero_mul];all_goals rfl
 | 13=>exact h.drop.snoc f
 | 14=>exact StZ.snoc (λv hv=>h v (Yq hv)) f
 | 15=>exact h
 | 16=>exact h
 |n+17=>exact h
end
end Go.Sx
