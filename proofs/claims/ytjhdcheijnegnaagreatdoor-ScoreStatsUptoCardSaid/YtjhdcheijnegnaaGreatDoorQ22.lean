import Derived.Test.YtjhdcheijnegnaaGreatDoorQ19
import Derived.Test.YtjhdcheijnegnaaGreatDoorQ20
import Derived.Test.YtjhdcheijnegnaaGreatDoorQ18
set_option linter.all false
set_option maxHeartbeats 0
namespace Go.Sx
open Go Go.Proofs Tryz
set_option maxRecDepth 100000
theorem zU (ns:List Nat):lj (cP ns)=false:=by
 rw[ky];intro i x h;exact Ak ns x (Yj h)
section
variable {G:cJ}{P:Program}{N:Nat}{Q:Post}{t:Tm}{H:cG}{ops:Array Oper}{l:List Oper}
theorem O8 (s:SV) {α:Type}{e:Enc α}{xs:List α} [hs:Sl H s e xs] (h:xs.length≤s.c→O G P N ops l Q t H):O G P N ops l Q t H:=
 ⟨λa w ha b=>(h (by obtain⟨h1,h2,_⟩:=hs.get b;omega)).go a w ha b⟩
end
theorem FD (m:Nat):leB m 0=List.replicate m 0:=by
 apply Vu;intro j
 by_cases h:j<m
 ·rw[nX h,List.getElem?_replicate,if_pos h];simp
 ·rw[Ve (by rw[fj];omega),Ve cf]
theorem vN {G:cJ}{H R:cG}{b:Nat}{xs:List Nat}{s:SV}{ns:List Nat} [hg:Glb G R] [hr:Rem H Wr b xs R] [hs:Sl R s eI (cP ns)] (hn:xs.length≤1000000000) (hm:ns.length≤100000000) (hl:∀x∈ns,x<1099511627776) (r:cX (orL ns)=0→ns.length≤65536):SC G prog 159 [pA b,s.val] H (λv V=>v=.nilIface∧V=Wr b (xs++dN ns)::R):=by
 have d:=dJ ns;have M:=zU ns;refine SC.rem (h:=hr) ?_;refine sWk func159 ?_;refine ws_ (wr_ (e_ asn (on_ (qn_ (ws_ (ws_ (wr_ (e_ mv ?_))))))));refine d1_ rfl (yU a8) ?_;rw[M];refine on_ (qn_ (wi_ (k:=λh1=>?_) (m:=λh1=>?_)))
 ·exact absurd h1 ae
 refine wk_ (qn_ (ws_ (wr_ (e_ asn (on_ (qn_ (ws_ (ws_ (wr_ (e_ mv (e_ lnn (e_ mv (on_ ?_)))))))))))));refine qn_ (wb_ (wl2_ Nat (λy=>y≤ns.length) (λy=>[(5,iN (orL (ns.take y))),(17,iN y)]) [(0,_),(1,_),(15,_),(16,_)] (λy=>[]) _ (λy=>ns.length-y) (0) (h0:=?_) (k:=?_)))
 ·exact Yl _
 rintro i hi
 try dsimp only[Yd,Ye]at*
 refine ws_ (wr_ (e_ ilt (on_ (qn_ (ws_ (wi_ (k:=λh2=>?_) (m:=λh2=>?_)))))))
 ·obtain⟨x,hx⟩:=gE ns i;have F:=eu hx;have g:=hl x (Yj hx);have T:orL (ns.take i)<2^40:=nw ae λy hy=>hl y (Yq hy);refine wk_ (qn_ (ws_ (wb_ (ws_ (wr_ (e_ ixa (e_ lel (e_ asn (on_ (qn_ (wr_ (e_ mv (e_ mv ?_)))))))))))));refine e_ (evq (wA rfl rfl (orL (ns.take i)) x rfl rfl a8 a8) (congrArg (λn:Nat=>iN n) (xQ hx).symm)) ?_;refine e_ asn (on_ (bn_ (qn_ (wr_ (e_ iad (e_ mv (on_ ?_)))))));refine lN (i+1) ?_
  try dsimp only
  omega
 obtain rfl:i=ns.length:=a8;rw[Xk];have T:orL ns<2^40:=nw ae hl;refine we_ (qe_ (le_ (bh_ (qn_ (ws_ (wr_ (e_ mv ?_)))))));refine e_ (cR 18446744073709551616 rfl rfl rfl (orL ns) rfl a8) ?_;refine d1_ rfl (HK a8) ?_;obtain⟨W,C⟩:=ex (cX (orL ns));rw[←C];have e:W≤40:=by rw[C,gC];exact T
 have p:∀x∈ns,x<2^W:=λx hx=>by rw[C];exact F6 hx
 have hul:=fQ (n:=ns.length) a8;refine e_ asn (on_ (qn_ (ws_ (ws_ (wr_ (e_ mv (e_ ieq (e_ mv (cQ 4 34 (k:=λh3=>eg_ mv (eg_ lnn (eg_ igt (e_ pkt (on_ edq))))) (q:=on_ (qn_ (wi_ (k:=λh4=>?_) (m:=λh4=>?_)))))))))))))
 ·obtain⟨c1,c2⟩:=h4;exfalso;rw[←C]at r;have:=r a8;omega
 refine wk_ (qn_ (ws_ (wr_ (e_ mv (e_ mv (e_ lnn ?_))))));refine e_ ((ab)) ?_;refine d2_ rfl (eH (cP ns).length a8 a8) ?_;rw[d];refine on_ (qn_ (ws_ (ws_ (wr_ (e_ mv (e_ lnn (e_ ieq (on_ (qn_ (wi_ (k:=λU=>?_) (m:=λU=>?_)))))))))))
 ·have u:ns= []:=Vb a8;refine ws_ (wr_ (e_ asn (on_ (qn_ (wt_ (qr_ (rT (k:=?_))))))));exact⟨_,hsb,rfl,by rw[dN,if_pos u,Ym]⟩
 have J:¬ns= []:=λh=>by have h9:=U;rw[d,h]at h9;exact h9 rfl
 refine wk_ (qn_ (ws_ (wr_ (e_ mv (e_ mv ?_)))));refine e_ (cR 256 rfl rfl rfl W rfl a8) ?_;refine d2_ rfl (n8 W ai) (on_ (qn_ (ws_ (wr_ ?_))));refine Fc b λsw=>?_;have hnW:ns.length*W≤ns.length*40:=V8 _ e;have hcast:((cP ns).length:Int)*(W:Int)=((ns.length*W:Nat):Int):=by rw[d];simp
 refine e_ mv (e_ nck (e_ fla (e_ ldv (e_ lnn (e_ asn (on_ (qn_ (ws_ (wr_ (e_ mv (e_ mv (e_ nck (e_ fla ?_)))))))))))));refine e_ ldv (e_ mv (e_ lnn (e_ mv (e_ iml (e_ iad ?_)))));refine e_ (fH rfl rfl (ns.length*W+7) 8 a8 rfl ae an) ?_;refine s_ (sK (T3:=9) rfl rfl rfl (by simp only[Ya,Yb,Yc];omega) (by simp only[Ya,Yb,Yc];omega) inferInstance) ?_;rintro _ _ ⟨j,rfl,rfl⟩;obtain⟨m,z⟩:=ex ((ns.length*W+7)/8);obtain⟨pre,c⟩:=ex (xs++uv ns.length++ [W]);rw[←z,←c,←FD];have hpl:pre.length≤1000000011:=by rw[c];simp only[Ya,Yb,Yc];omega
 refine O8 j λB=>?_;rw[Ya,fj]at B;refine e_ nck (e_ fla (sto (k:=on_ (qn_ (ws_ (ws_ (wr_ (e_ mv (e_ lnn (e_ mv (on_ (qn_ (wb_ ?_)))))))))))));refine wl2_ (Nat×(List Nat)) (λy=>y.1≤ns.length∧y.2=leB m (gI W (ns.take y.1))) (λy=>[(69,iN y.1)]) [(0,_),(8,_),(9,_),(67,_),(68,_)] (λy=>[Row j eB (pre++y.2)]) _ (λy=>ns.length-y.1) ((0,leB m 0)) (h0:=?_) (k:=?_)
 ·exact⟨Yl _,rfl⟩
 rintro⟨i,o⟩ ⟨hi,f⟩
 try dsimp only[Yd,Ye]at*
 refine ws_ (wr_ (e_ ilt (on_ (qn_ (ws_ (wi_ (k:=λh6=>?_) (m:=λh6=>?_)))))))
 ·obtain⟨x,hx⟩:=gE ns i;have F:=eu hx;have g:=hl x (Yj hx);have E:=p x (Yj hx);have hol:(pre++o).length=pre.length+m:=by rw[Ya,f,fj]
  have hiW:i*W≤i*40:=V8 _ e;have hi1:(i+1)*W≤ns.length*W:=Vc _ a8;have hi2:(i+1)*W=i*W+W:=by rw[Vg,Nat.one_mul]
  have L:(i:Int)*(W:Int)=((i*W:Nat):Int):=ak;have S:gI W (ns.take i)<2^(i*W):=by
   have:=xO (w:=W) (l:=ns.take i) λy hy=>p y (Yq hy)
   rwa [Yg,Vk hi,Ug]at this
  have K:pre.length<j.c∨W=0:=a8;refine wk_ (qn_ (ws_ (wb_ (ws_ (wr_ (e_ mv (e_ ixa (e_ lel (e_ asn (e_ asn (on_ (qn_ (wr_ ?_)))))))))))));rw[f];refine e_ mv (e_ nck (e_ fla (e_ ldv (e_ mv ?_))));refine e_ (fA rfl bA pre.length (pre.length+m) ⟨_,_,rfl,by rw[c]⟩ (by rw[Ya,fj]) a8 (by rw[Ya,fj];exact Xj _)) ?_;refine e_ mv (e_ mv ?_);refine e_ (evq iml (congrArg (Value.int .i64) L)) ?_;refine e_ mv (e_ mv ?_);refine cp_ (vs:=[_,_,_,_]) rfl (Qp (pre:=pre) (m:=m) (N:=gI W (ns.take i)) (a:=i*W) (w:=W) (x:=x) S a8 E g a8 a8 e K) ?_;rw[Ug i W,←zJ hx];refine on_ (bn_ (qn_ (wr_ (e_ iad (e_ mv (on_ ?_))))));refine lN ((i+1,leB m (gI W (ns.take (i+1))))) ?_
  exact⟨a8,rfl⟩
 obtain rfl:i=ns.length:=a8;rw[Xk]at f;have t:dN ns=uv ns.length++ [W]++leB m (gI W ns):=by
  rw[dN,if_neg J,←C,B9,z];simp
 have A:xs++dN ns=pre++o:=by rw[t,c,f];simp
 refine we_ (qe_ (le_ (bh_ (qn_ (ws_ (wr_ (e_ asn (on_ (qn_ (wt_ (rT (k:=?_))))))))))));rw[A];exact⟨_,hsb,rfl,rfl⟩
section
variable {G:cJ}{H:cG}{l:List (Nat×SV)}{nb:Nat}{ps:List Po}{s:SV}
def ePo:Enc (Nat×SV):=⟨λp=>[.int .i64 ((p.1:Nat):Int),p.2.val],2,true,λ_=>rfl,λp v h=>by simp at h;rcases h with rfl|rfl <;> rfl,ae,λh=>aI,ae⟩
instance {p:Nat×SV}:kX ePo p (.agg [.int .i64 ((p.1:Nat):Int),p.2.val].toArray):=⟨rfl⟩
instance {d:Nat}{s:SV}:i6 ePo (.agg [.int .i64 ((d:Nat):Int),s.val].toArray) (d,s):=⟨rfl⟩
def qe (H:cG) (l:List (Nat×SV)) (ps:List Po):Prop:=l.length=ps.length∧∀(i:Nat) (p:Nat×SV) (q:Po),l[i]? =some p→ps[i]? =some q→p.1=q.1∧Sl H p.2 eI (cP q.2)
theorem qe.get (h:qe H l ps){i:Nat}(hi:i<l.length):∃s pos,l[i]? =some ((ps.getD i (0, [])).1,s)∧ps[i]? =some ((ps.getD i (0, [])).1,pos)∧Sl H s eI (cP pos):=by
 obtain⟨p,hp⟩:∃p,l[i]? =some p:=⟨_,Yi hi⟩;obtain⟨q,a⟩:∃q,ps[i]? =some q:=⟨_,Yi (by rw[←h.1];exact hi)⟩;obtain⟨h1,h2⟩:=h.2 i p q hp a;rw[Xm,a];exact⟨p.2,q.2,by rw[hp,U0,←h1],rfl,h2⟩
theorem qe.cut (h:qe H l ps) (a b:Nat):qe H ((l.take b).drop a) ((ps.take b).drop a):=by
 refine⟨by simp[h.1],λi p q hp c=>?_⟩;rw[Xh,Q7]at hp c
 split at hp
 ·rename_i d;rw[if_pos d]at c;exact h.2 _ p q hp c
 ·cases hp
theorem qe.tail {A:Hp}(h:qe H l ps):qe (A::H) l ps:=⟨h.1,λi p q hp a=>by
 obtain⟨h1,h2⟩:=h.2 i p q hp a;exact⟨h1,Sl.tail⟩⟩
theorem vT {l:List Po}(h:eG l) (i:Nat):eG (l.take i):=⟨by have:=h.1;rw[Yg];omega,λp hp=>h.2 p (Yq hp)⟩
theorem HO {d:Nat}{pos:List Nat} [hs:Sl H s eI (cP pos)] (hd:d≤1000000) (hnb:nb≤d) (c:pos≠ []) (b:pG 0 pos) (hl:pos.length≤100000000):SC G prog 296 [.agg #[iN d,s.val],.int .i64 (((nb:Nat):Int)-1)] H (λv l=>v=.nilIface∧l=H):=by
 have hlen:=dJ pos;have hpos:0<pos.length:=List.length_pos_iff.2 c;refine sWk func296 ?_;refine ws_ (wr_ (bxx (k:=λb2=>?_)));refine e_ asn (on_ (qn_ (ws_ (wb_ (ws_ (wr_ (e_ fla (e_ ldv (e_ ilt (e_ mv (dz 4 16 (k:=λh1=>eg_ fla (eg_ ldv (eg_ ige (e_ pkf (on_ edq))))) (q:=e_ asn (on_ ?_)))))))))))));refine qn_ (wi_ (k:=λh2=>?_) (m:=λh2=>?_))
 ·exact absurd h2 a8
 refine ws_ (wr_ (e_ fla (e_ ldv (e_ mv (e_ ile (e_ asn (on_ (qn_ (wi_ (k:=λh3=>?_) (m:=λh3=>?_))))))))))
 ·exact absurd h3 a8
 refine ws_ (wr_ (e_ fla (e_ ldv (e_ lnn (e_ ieq (e_ asn (on_ (qn_ (wi_ (k:=λh4=>?_) (m:=λh4=>?_))))))))))
 ·exact absurd h4 a8
 refine wk_ (bn_ (qn_ (ws_ (ws_ (wr_ (e_ fla (e_ ldv (e_ lnn (e_ mv (on_ (qn_ (wb_ (wl2_ Nat (λy=>True) (λy=>[(33,iN y)]) [(2,_),(31,_),(32,_)] (λy=>[]) _ (λy=>pos.length-y) (0) (h0:=?_) (k:=?_))))))))))))))
 ·try dsimp only
  all_goals trivial
 rintro i -
 try dsimp only[Yd,Ye]at*
 refine ws_ (wr_ (e_ ilt (on_ (qn_ (ws_ (wi_ (k:=λh=>?_) (m:=λh=>?_)))))))
 ·obtain⟨x,hx⟩:=gE pos i;have a:=eu hx;refine wk_ (qn_ (ws_ (wb_ (ws_ (wr_ (e_ ixa (e_ lel (e_ asn (on_ (qn_ (ws_ (wr_ (e_ mv ?_)))))))))))));refine e_ ilt (on_ (qn_ (wi_ (k:=λh6=>?_) (m:=λh6=>?_))))
  ·exact absurd h6 a8
  refine wk_ (bn_ (qn_ (wr_ (e_ iad (e_ mv (on_ ?_))))));refine lN (i+1) ?_
  try dsimp only
  all_goals trivial
 refine we_ (qe_ (le_ (bh_ (qn_ (ws_ (ws_ (wr_ (e_ asn (on_ (qn_ (wb_ (wl2_ Nat (λy=>1≤y) (λy=>[(7,iN y)]) [(2,_)] (λy=>[]) _ (λy=>pos.length-y) (1) (h0:=?_) (k:=?_)))))))))))))
 ·exact Xj _
 rintro j hj
 try dsimp only[Yd,Ye]at*
 refine ws_ (ws_ (wr_ (e_ mv (e_ fla (e_ ldv (e_ lnn (e_ ilt (on_ (qn_ (wi_ (k:=λg=>?_) (m:=λg=>?_)))))))))))
 ·obtain⟨x,hx⟩:=gE pos j;obtain⟨y,hy⟩:=gE pos (j-1);have a:=eu hx;have hyi:=eu hy;have e:=nU b hx;rw[if_neg a8,Xm,hy,U0]at e;refine wk_ (qn_ (ws_ (wb_ (ws_ ?_))));refine cZ cN (as_ 0 (q:=fla) (k:=as_ 1 (q:=ldv) (k:=as_ 2 (q:=mv) (k:=as_ 3 (q:=ixa) (k:=as_ 4 (q:=lel) (k:=as_ 5 (q:=fla) (k:=as_ 6 (q:=ldv) (k:=as_ 7 (q:=mv) (k:=as_ 8 (q:=isb) (k:=as_ 9 (q:=ixa) (k:=as_ 10 (q:=lel) (k:=as_ 11 (q:=ile) (k:=az_ (k:=?_))))))))))))));refine qn_ (wi_ (k:=λf=>?_) (m:=λf=>?_))
  ·exact absurd f a8
  refine wk_ (bn_ (qn_ (wr_ (e_ mv (e_ iad (e_ asn (on_ ?_)))))));refine lN (j+1) ?_
  try dsimp only
  omega
 refine we_ (qe_ (le_ (bh_ (qn_ (ws_ (wr_ (e_ asn (on_ (qn_ (wt_ (rT (k:=?_))))))))))));exact⟨_,hsb,rfl,rfl⟩
theorem HH [hg:Glb G H] [hs:Sl H s ePo l] (hp:qe H l ps) (B:gJ nb ps) (hsm:eG ps) (hn:ps.length≤16) (hnb:nb≤1000001):SC G prog 297 [s.val,.int .i64 (((nb:Nat):Int)-1)] H (λv Z=>∃X:SV,v=X.val∧Z=Row X eB (kc nb ps)::H):=by
 have A:=hp.1;have M:(cP (gL nb ps)).length=l.length:=by rw[dJ,gb,A]
 have N:(cP (iM ps)).length=l.length:=by rw[dJ,iM,Yh,A]
 have hT:∀i,dn (ps.take i)≤1600000000:=λi=>by
  have:=vL (vT hsm i);rw[Yg]at this;omega
 refine sWk func297 ?_;refine go ?_;refine c0_ rfl ga ?_;rintro _ _ ⟨J,rfl,rfl⟩;refine e_ asn (on_ (qn_ (l4 (SV×SV) (λy=>True) (λy=>[(6,y.1.val),(7,y.2.val)]) [6,7,15,16,17,18,19,20] (λy=>[Row y.1 eI (List.replicate l.length (0:Int)),Row y.2 eI (List.replicate l.length (0:Int))]) (Wr J []::H) ?_ ?_)))
 ·refine wD [2,5] (λk H=>(k=1→Sl H s ePo l)∧(k=4→Sl H s ePo l)) (aF 0 (k:=?_));refine aN 1 rfl (λH hH=>by have hN:=hH.1 rfl;exact lnn) ?_;refine aF 3 (k:=?_);refine aN 4 rfl (λH hH=>by have hN:=hH.2 rfl;exact lnn) ?_;refine jL 2 5 rfl rfl aa rfl rfl (λk hk=>⟨λhi=>ay,λhi=>ay⟩) (fq eI 0 rfl rfl _ _ rfl rfl rfl a8 a8 a8) (fq eI 0 rfl rfl _ _ rfl rfl rfl a8 a8 a8) ?_ ?_
  ·rintro _ _ ⟨f,rfl,t,u,rfl⟩;refine aF 6 (k:=?_);refine aS 5 rfl (fq eI 0 rfl rfl _ _ rfl rfl rfl a8 a8 a8) ?_;rintro _ _ ⟨e,rfl,n,r,rfl⟩;refine gk (k:=aZ (jnE ((f,e)) (q:=?_)));trivial
  rintro _ _ ⟨e,rfl,n,r,rfl⟩;refine aS 2 rfl (fq eI 0 rfl rfl _ _ rfl rfl rfl a8 a8 a8) ?_;rintro _ _ ⟨f,rfl,t,u,rfl⟩;refine gk (k:=aZ (jnE ((f,e)) (q:=?_)));trivial
 rintro⟨f,e⟩ -
 try dsimp only[Yd,Ye]at*
 refine ws_ (ws_ (wr_ ?_));rw[show Row f eI (List.replicate l.length (0:Int))=Row f eI (eV (cP (gL nb ps)) 0 0)from by rw[kx,M],show Row e eI (List.replicate l.length (0:Int))=Row e eI (eV (cP (iM ps)) 0 0)from by rw[kx,N]];refine gk (k:=wl2_ Nat (λy=>y≤l.length) (λy=>[(1,.int .i64 (((dZ nb (ps.take y):Nat):Int)-1)),(23,iN y)]) [(0,_),(5,_),(6,_),(7,_),(21,_),(22,_)] (λy=>[Row f eI (eV (cP (gL nb ps)) 0 y),Row e eI (eV (cP (iM ps)) 0 y)]) _ (λy=>l.length-y) (0) (h0:=?_) (k:=?_))
 ·exact Yl _
 rintro i hi
 try dsimp only[Yd,Ye]at*
 refine gW (λh1=>?_) λh1=>?_
 ·obtain⟨Y,pos,C,a,hsl⟩:=hp.get (i:=i) a8;generalize (ps.getD i (0, [])).1=d at C a;have F:=(iQ B a).1;have L:=(iQ B a).2.1;have hpos:0<pos.length:=List.length_pos_iff.2 L;have c:=hsm.2 _ (Yj a);simp only at F c L;have w:=dJ pos;have S:(cP (gL nb ps))[i]? =some ((d-dZ nb (ps.take i):Nat):Int):=eu (qE a);have T:(cP (iM ps))[i]? =some ((pos.length-1:Nat):Int):=eu (by rw[iM,Xd,a];all_goals rfl);have hl1:=iT (z:=(0:Int)) (full:=cP (gL nb ps)) (i:=i) a8;have hl2:=iT (z:=(0:Int)) (full:=cP (iM ps)) (i:=i) a8;refine gk (k:=alc (k:=λb9=>?_));refine e_ asn (sto (k:=on_ (qn_ (ws_ (wr_ (e_ mv (e_ mv (e_ fla (e_ ldv (e_ mv (e_ isb ?_)))))))))));refine e_ (evq isb (congrArg (Value.int .i64) (show _=((d-dZ nb (ps.take i):Nat):Int)from a8))) (go ?_);refine s_ (dc (i:=i) rfl rfl rfl a8) ?_;rintro _ _ ⟨rfl,rfl⟩;refine on_ (qn_ (ws_ (wr_ (e_ fla (e_ ldv (e_ asn (on_ (qn_ (wr_ (e_ mv (e_ mv (e_ fla (e_ ldv ?_)))))))))))));refine e_ lnn ?_;refine e_ (evq isb (congrArg (Value.int .i64) (show _=((pos.length-1:Nat):Int)from a8))) (go ?_);refine s_ (dc (i:=i) rfl rfl rfl a8) ?_;rintro _ _ ⟨rfl,rfl⟩;refine on_ (bn_ (qn_ (wr_ ?_)));rw[lV S,lV T];have E:dZ nb (ps.take (i+1))=d+1:=oM a;have U:(d:Int)=((dZ nb (ps.take (i+1)):Nat):Int)-1:=by rw[E];omega
  rw[U];refine go ?_;refine lN (i+1) ?_
  try dsimp only
  omega
 obtain rfl:i=l.length:=a8;rw[show eV (cP (gL nb ps)) 0 l.length=cP (gL nb ps)from by rw[←M,kN],show eV (cP (iM ps)) 0 l.length=cP (iM ps)from by rw[←N,kN]];refine go ?_;refine d2_ rfl (vN ak bX (λx hx=>bf) (λ_=>bX)) (go ?_);refine d2_ rfl (vN (by have:=je (ns:=gL nb ps) (λx hx=>bf) bX;rw[gb]at this;simp only[Ya,Yc];omega) bK (λx hx=>bR) (λ_=>bK)) (on_ (qn_ (ws_ (ws_ (wr_ ?_)))));obtain⟨b,h⟩:=ex ([]++dN (gL nb ps)++dN (iM ps));have hprl:b.length≤1000:=by
  have h1:=je (ns:=gL nb ps) (λx hx=>bf) bX;have h2:=je (ns:=iM ps) (λx hx=>bR) bK;rw[gb]at h1;rw[show(iM ps).length=ps.length from by rw[iM,Yh]]at h2;rw[h];simp only[Ya,Yc];omega
 rw[←h,show Wr J b=Wr J (b++ep (ps.take 0))from by simp[ep]];refine gk (k:=wl2_ Nat (λy=>y≤l.length) (λy=>[(54,iN y)]) [(5,_),(52,_),(53,_)] (λy=>[Wr J (b++ep (ps.take y))]) _ (λy=>l.length-y) (0) (h0:=?_) (k:=?_))
 ·exact Yl _
 rintro i hi
 try dsimp only[Yd,Ye]at*
 refine gW (λh2=>?_) λh2=>?_
 ·obtain⟨Y,pos,C,a,hsl⟩:=hp.get (i:=i) a8;generalize (ps.getD i (0, [])).1=d at C a;have m:=(iQ B a).2.2;have c:=hsm.2 _ (Yj a);simp only at c m;have w:=dJ pos;have hTi:=hT i;have htl:=oD (l:=ps.take i) (λp hp=>(hsm.2 p (Yq hp)).2.2);refine gk (k:=alc (k:=λb11=>?_));refine sto (k:=on_ (qn_ (ws_ (wr_ (e_ fla (e_ ldv (e_ lnn ?_)))))));rw[show Wr J (b++ep (ps.take i))=Wr J (b++ep (ps.take i)++fD 0 (pos.take 0))from by simp[fD]];refine gk (k:=wl2_ Nat (λy=>y≤pos.length) (λy=>[(61,iN y)]) [(5,_),(11,_),(52,_),(53,_),(54,_),(59,_),(60,_)] (λy=>[Wr J (b++ep (ps.take i)++fD 0 (pos.take y))]) _ (λy=>pos.length-y) (0) (h0:=?_) (k:=?_))
  ·exact Yl _
  rintro j hj
  try dsimp only[Yd,Ye]at*
  refine gW (λh3=>?_) λh3=>?_
  ·obtain⟨x,hx⟩:=gE pos j;have hxi:=eu hx;have hxl:=c.2.2 x (Yj hx);have F:=nU m hx;have g:=mh (nb:=0) hx;have K:=qm (l:=pos.take j) (nb:=0) (λy hy=>c.2.2 y (Yq hy));rw[Yg]at K;refine go ?_;refine gW (λh4=>?_) λh4=>?_
   ·obtain⟨y,hy⟩:=gE pos (j-1);have hyi:=eu hy;rw[if_neg a8,Xm,hy,U0]at F g;refine wr_ (e_ mv (e_ fla (e_ ldv (e_ mv (e_ isb (e_ ixa (e_ lel (e_ iad ?_))))))));refine e_ (evq isb (congrArg (Value.int .i64) (show _=((x-(y+1):Nat):Int)from a8))) ?_;refine e_ asn (on_ (qn_ (wr_ (e_ mv (e_ mv ?_)))));refine e_ ((ab)) ?_;refine d2_ rfl (eH _ a8 ai) ?_;rw[Yf (b++ep (ps.take i)),←g];refine go ?_;refine lN (j+1) ?_
    try dsimp only
    omega
   rw[if_pos a8,S0]at g;refine wk_ (qn_ (wr_ (e_ mv (e_ mv ?_))));refine e_ ((ab)) ?_;refine d2_ rfl (eH _ a8 ai) ?_;rw[Yf (b++ep (ps.take i)),←g];refine go ?_;refine lN (j+1) ?_
   try dsimp only
   omega
  obtain rfl:j=pos.length:=a8;rw[Xk,Yf,show ep (ps.take i)++fD 0 pos=ep (ps.take (i+1))from(qW a).symm];refine go ?_;refine lN (i+1) ?_
  try dsimp only
  omega
 obtain rfl:i=l.length:=a8;rw[show ps.take l.length=ps from by rw[A,Xk],show b++ep ps=kc nb ps from by rw[h];all_goals rfl];have hbl:=pZ (nb:=nb) hsm;have V:=hT 16;rw[Xq a8]at V;refine go ?_;refine c1_ rfl (iW a8) ?_;rintro _ _ ⟨R,rfl,rfl⟩;refine gR ?_;exact⟨_,hsb,R,rfl,rfl⟩
end
section
variable {G:cJ}{H R:cG}{P:Program}{d i p r:Nat}{q s:ByteArray}{s':SV}{t:Tm}{ts:List Tri}
structure PG where
 d:Nat
 s:SV
 pos:List Nat
structure EG where
 key:ByteArray
 s:SV
 l:List PG
def pgV (p:PG):Nat×SV:=(p.d,p.s)
def pgP (p:PG):Po:=(p.d,p.pos)
def pgH (p:PG):cG:= [Row p.s eI (cP p.pos)]
def egH (e:EG):cG:= [Row e.s ePo (e.l.map pgV),Cl pgH e.l]
def kvs (es:List EG):List (ByteArray×Value):=es.map λe=>(e.key,e.s.val)
def mb (es:List EG):List (List Nat×List Po):=es.map λe=>(cF e.key,e.l.map pgP)
def iJ (r:Nat) (ts:List Tri):Hp:=λL=>∃es,fV (mb es) ts∧Sep [Cl egH es,Mv r (kvs es)] L
theorem pb {es:List EG}(h:fV (mb es) ts):cH (Cl egH es::Mv r (kvs es)::R) (iJ r ts::R):=λL hL=>by
 obtain⟨L1,L2,rfl,h1,L3,a,rfl,h2,h3⟩:=hL;exact⟨(L1++L3)++a, [],⟨L1++L3,a,rfl,⟨es,h,L1,L3,rfl,h1,L3, [],ak,h2,rfl⟩,h3⟩,ak⟩
theorem Cn (hr:Rem H iJ r ts R){w:World}(c:Sat G w H):∃a,fV (mb a) ts∧Sat G w (Cl egH a::Mv r (kvs a)::R):=by
 obtain⟨d,L,⟨L1,L2,rfl,⟨a,h,L3,L4,rfl,h1,b,e,rfl,h2,h3⟩,h4⟩,hl⟩:=hr.sat c;obtain rfl:e= []:=h3;exact⟨a,h,d,_,⟨L3,b++L2,ak,h1,b,L2,rfl,h2,h4⟩,hl⟩
theorem Bb {N:Nat}{Q:Post}{ops:Array Oper}{l:List Oper}(hr:Rem H iJ r ts R) (h:∀b,fV (mb b) ts→O G P N ops l Q t (Cl egH b::Mv r (kvs b)::R)):O G P N ops l Q t H:=
 ⟨λa w ha d=>by
   obtain⟨b,hk,c⟩:=Cn hr d;exact(h b hk).go a w ha c⟩
theorem we {es:List EG}{e:EG}(h:es[i]? =some e):(kvs es)[i]? =some (e.key,e.s.val):=by rw[kvs,Xd,h];all_goals rfl
theorem Bi (es:List EG) (i:Nat) (e:EG):kvs (es.set i e)=(kvs es).set i (e.key,e.s.val):=by rw[kvs,kvs,Q6]
theorem EB {α:Type}{l:List α}{a:α}(h:l[i]? =some a):l.set i a=l:=by
 apply Vu;intro j;rw[U2]
 split
 ·rename_i hj;subst hj;rw[h];simp[(Yk.1 h).1]
 ·rfl
theorem FG {es:List EG}{e a:EG}(h:es[i]? =some e) (hk:a.key=e.key) (hs:a.s=e.s):kvs (es.set i a)=kvs es:=by
 rw[Bi,hk,hs];exact EB (we h)
theorem qb {es:List EG}{e:EG}(h:es[i]? =some e):(mb es)[i]? =some (cF e.key,e.l.map pgP):=by rw[mb,Xd,h];all_goals rfl
theorem yY (es:List EG) (i:Nat) (e:EG):mb (es.set i e)=(mb es).set i (cF e.key,e.l.map pgP):=by rw[mb,mb,Q6]
theorem o9 (es:List EG):(mb es).map (·.1)=(kvs es).map λp=>cF p.1:=by simp[mb,kvs]
theorem qB {es:List EG}(h:fV (mb es) ts):((kvs es).map (·.1)).Nodup:=by
 have h1:=h.nodup;rw[o9,show(λp:ByteArray×Value=>cF p.1)=cF∘(·.1)from rfl,←Ut]at h1;exact xU h1
theorem IJ {es:List EG}:q∈(kvs es).map (·.1)↔cF q∈(mb es).map (·.1):=by
 rw[o9,Xw,Xw]
 constructor
 ·rintro⟨p,hp,rfl⟩;exact⟨p,hp,rfl⟩
 ·rintro⟨p,hp,he⟩;exact⟨p,hp,iw.1 he⟩
theorem xp {dst:Option Tmp}{ty:TypeId}{pos:String}{after:Array Edge}{g:Option (Nat×Bool)}{T K E:TypeId}{x y:Operand}{sz bb:Nat}{es:List EG}{C:Hp→cG}(hx:evo t x=some (.map (some r))) (hy:evo t y=some (.string s)) [hT:Und P T (.map K E)] [hK:Und P K .string] [hE:Inf P E sz bb (.slice none 0 0)] [hf:Foc H Mv r (kvs es) C]:
 St G P ⟨dst,.lookup T x y false,ty,pos,after,g⟩ t H (λu d=>d=H∧((∃(i:Nat) (e:EG),es[i]? =some e∧e.key=s∧u=e.s.val)∨(s ∉(kvs es).map (·.1)∧u=SV.nil.val))):=
 AT (AU (ok:=false) hx hy) λv d ⟨h1,h2⟩=>⟨h1,by
  rcases h2 with⟨i,u,hi,a⟩|⟨b,a⟩
  ·obtain rfl:v=u:=a;obtain⟨e,he,c⟩:∃e,es[i]? =some e∧(e.key,e.s.val)=(s,v):=by
    rw[kvs,Xd]at hi;cases he:es[i]? with
    |none=>rw[he]at hi;cases hi
    |some e=>rw[he]at hi;exact⟨e,rfl,Xo hi⟩
   cases c;exact .inl ⟨i,e,he,rfl,rfl⟩
  ·exact .inr ⟨b,a⟩⟩
theorem Ap {l:List PG}{n:Nat}{p:PG}{x:Nat}(s:SV) (h:l[n]? =some p) (b:n+1=l.length):iI (l.map pgP) p.d x=(l.set n ⟨p.d,s,p.pos++ [x]⟩).map pgP:=by
 obtain⟨a,rfl⟩:∃a,l=a++ [p]:=by
  rcases R0 l with rfl|⟨a,q,c⟩
  ·cases h
  ·obtain rfl:l=a++ [q]:=by simpa using c
   have:n=a.length:=by simp at b;omega
   subst this;simp at h;subst h;exact⟨a,rfl⟩
 have:n=a.length:=by simp at b;omega
 subst this;simp[iI,pgP]
theorem Dn {l:List Po}{x:Nat}(h:∀q,l.getLast? =some q→q.1≠d):iI l d x=l++ [(d, [x])]:=by
 unfold iI
 split
 ·rename_i q b;rw[if_neg (h q b)]
 ·rename_i a;rw[List.getLast?_eq_none_iff]at a;subst a;rfl
theorem nZ (ts:List (Nat×Nat)):dn (iD ts)=ts.length∧(iD ts).length≤ts.length:=by
 have b:∀(r:List (Nat×Nat)),dn (iD r.reverse)=r.length∧(iD r.reverse).length≤r.length:=by
  intro r
  induction r with
  |nil=>simp[iD,dn]
  |cons t r ih=>
   obtain⟨h1,h2⟩:=ih;rw[List.reverse_cons,show [t]= [(t.1,t.2)]from rfl,lS];generalize iD r.reverse=l at*;rcases R0 l with rfl|⟨a,q,c⟩
   ·have h3:r.length=0:=by simpa [dn] using h1.symm
    simp[iI,dn,h3]
   ·obtain rfl:l=a++ [q]:=by simpa using c
    by_cases he:q.1=t.1
    ·rw[show iI (a++ [q]) t.1 t.2=a++ [(t.1,q.2++ [t.2])]from by simp[iI,he]];simp[dn]at*;omega
    ·rw[show iI (a++ [q]) t.1 t.2=a++ [q]++ [(t.1, [t.2])]from by simp[iI,he]];simp[dn]at*;omega
 have:=b ts.reverse;rw[List.reverse_reverse,List.length_reverse]at this;exact this
theorem w5 (ts:List Tri) (k:List Nat):(ofK ts k).length≤ts.length:=by rw[ofK,Yh];exact List.length_filter_le _ _
theorem C5 {es:List EG}(h:fV (mb es) ts){e:EG}(he:es[i]? =some e):e.l.length≤ts.length∧∀p∈e.l,p.pos.length≤ts.length:=by
 have h1:=h.vals _ (Yj (qb he));simp only at h1;obtain⟨h2,h3⟩:=nZ (ofK ts (cF e.key));have h4:=w5 ts (cF e.key);rw[←h1]at h2 h3;rw[Yh]at h3;refine⟨a8,λp hp=>?_⟩;have:p.pos.length≤dn (e.l.map pgP):=by
  generalize e.l=l at hp
  induction l with
  |nil=>simp at hp
  |cons q l ih=>
   simp only[dn,Xn,Vn]at ih⊢;rcases Xr.1 hp with rfl|hp
   ·show p.pos.length≤p.pos.length+_;omega
   ·have:=ih hp;omega
 omega
def n7 (f:Nat) (s:ByteArray):ByteArray:=dQ [f%256]++s
theorem vz (f:Nat) (s:ByteArray):cF (n7 f s)=f%256::cF s:=by
 rw[n7,dR,ec aH];all_goals rfl
theorem Ni {f:Nat}(hs:s.size≤1000000000):SC G prog 65 [iN f,.string s] H (λv a=>v=.string (n7 f s)∧a=H):=by
 refine sWk func65 ?_;refine ws_ (wr_ (e_ asn (on_ (qn_ (ws_ (wr_ (e_ mv ?_)))))));refine e_ (dk 256 rfl rfl rfl f rfl) ?_;refine fX eB (k:=λs7=>?_);refine e_ (dX rfl) ?_;refine e_ mv ?_;refine e_ (gU rfl rfl (by rw[gG];simp;omega)) ?_;exact gZ
theorem wH {es:List EG}{e:EG}(h:es[i]? =some e):cH (Cl egH es::H) (Row e.s ePo (e.l.map pgV)::Cl pgH e.l::Cl egH (es.take i)::Cl egH (es.drop (i+1))::H):=lg (f:=egH) h
theorem pF {l:List PG}{p:PG}(h:l[i]? =some p):cH (Cl pgH l::H) (Row p.s eI (cP p.pos)::Cl pgH (l.take i)::Cl pgH (l.drop (i+1))::H):=lg (f:=pgH) h
theorem yy {es:List EG}(e:EG) (hi:i<es.length):cH (Row e.s ePo (e.l.map pgV)::Cl pgH e.l::Cl egH (es.take i)::Cl egH (es.drop (i+1))::H) (Cl egH (es.set i e)::H):=nG (f:=egH) e hi
theorem EY {l:List PG}(p:PG) (hi:i<l.length):cH (Row p.s eI (cP p.pos)::Cl pgH (l.take i)::Cl pgH (l.drop (i+1))::H) (Cl pgH (l.set i p)::H):=nG (f:=pgH) p hi
theorem w3 {l:List PG}(p:PG):cH (Row p.s eI (cP p.pos)::Cl pgH l::H) (Cl pgH (l++ [p])::H):=pW (f:=pgH) p
theorem Jd {l:List EG}(e:EG):cH (Row e.s ePo (e.l.map pgV)::Cl pgH e.l::Cl egH l::H) (Cl egH (l++ [e])::H):=pW (f:=egH) e
theorem EV {n:Nat}{es:List EG}{e:EG}{lp:PG}(a:fV (mb es) ts) (he:es[i]? =some e) (hp:e.l[n]? =some lp) (b:n+1=e.l.length) (hd:lp.d=d):
 cH (Row e.s ePo ((e.l.map pgV).set n (lp.d,s'))::Row s' eI (cP (lp.pos++ [p]))::Cl pgH (e.l.take n)::Cl pgH (e.l.drop (n+1))::Cl egH (es.take i)::Cl egH (es.drop (i+1))::Mv r (kvs es)::R) (iJ r (ts++ [(cF e.key,d,p)])::R):=by
 subst hd;have h1:(e.l.map pgV).set n (lp.d,s')=(e.l.set n ⟨lp.d,s',lp.pos++ [p]⟩).map pgV:=by rw[Q6];all_goals rfl
 have h2:kvs (es.set i ⟨e.key,e.s,e.l.set n ⟨lp.d,s',lp.pos++ [p]⟩⟩)=kvs es:=FG he rfl rfl;rw[h1,←h2];refine(cH.keep (EY ⟨lp.d,s',lp.pos++ [p]⟩ (Yk.1 hp).1)).trans ((yy ⟨e.key,e.s,e.l.set n ⟨lp.d,s',lp.pos++ [p]⟩⟩ (Yk.1 he).1).trans (pb ?_));rw[yY];have:=a.old (d:=lp.d) (p:=p) (qb he)
 rwa [Ap s' hp b]at this
theorem xJ {es:List EG}{e:EG}{u:SV}(b:fV (mb es) ts) (he:es[i]? =some e) (hd:∀q,e.l.getLast? =some q→q.d≠d):
 cH (Row s' ePo (e.l.map pgV++ [(d,u)])::Row u eI (cP [p])::Cl pgH e.l::Cl egH (es.take i)::Cl egH (es.drop (i+1))::Mv r ((kvs es).set i (e.key,s'.val))::R) (iJ r (ts++ [(cF e.key,d,p)])::R):=by
 have h1:e.l.map pgV++ [(d,u)]=(e.l++ [(⟨d,u, [p]⟩:PG)]).map pgV:=by simp[pgV]
 have h2:kvs (es.set i ⟨e.key,s',e.l++ [⟨d,u, [p]⟩]⟩)=(kvs es).set i (e.key,s'.val):=Bi _ _ _;rw[h1,←h2];refine(cH.keep (w3 ⟨d,u, [p]⟩)).trans ((yy ⟨e.key,s',e.l++ [⟨d,u, [p]⟩]⟩ (Yk.1 he).1).trans (pb ?_));rw[yY];have:=b.old (d:=d) (p:=p) (qb he);rw[Dn (λq a=>by
  rw[List.getLast?_map]at a;cases hl:e.l.getLast? with
  |none=>rw[hl]at a;cases a
  |some x=>rw[hl]at a;obtain rfl:=Xo a;exact hd x hl)]at this
 simpa [pgP] using this
theorem Cw {es:List EG}{u:SV}(a:fV (mb es) ts) (b:q ∉(kvs es).map (·.1)):
 cH (Row s' ePo [(d,u)]::Row u eI (cP [p])::Cl egH es::Mv r (kvs es++ [(q,s'.val)])::R) (iJ r (ts++ [(cF q,d,p)])::R):=by
 have h2:kvs (es++ [⟨q,s', [⟨d,u, [p]⟩]⟩])=kvs es++ [(q,s'.val)]:=by simp[kvs]
 rw[←h2];refine(cH.keep ((ja cH.refl).trans (cH.trans (H':=Row u eI (cP [p])::Cl pgH []::Cl egH es::Mv r (kvs (es++ [⟨q,s', [⟨d,u, [p]⟩]⟩]))::R) hsb (w3 ⟨d,u, [p]⟩)))).trans ((Jd ⟨q,s', [⟨d,u, [p]⟩]⟩).trans (pb ?_));have:=a.new (d:=d) (p:=p) (λh=>b (IJ.2 h))
 simpa [mb,pgP] using this
theorem Pw {g:Nat}{x w t:Value} [hv:cY R g [x,w,t,.map (some r)]] [hr:Rem H iJ r ts R] (hn:ts.length≤1000000000):SC G prog 152 [pA g,.string q,iN d,iN p] H (λv F=>v=.tuple #[]∧F=iJ r (ts++ [(cF q,d,p)])::R):=by
 refine sWk func152 ?_;refine go ?_;refine Bb hr λes c=>?_;refine go ?_;refine s_ (xp rfl rfl) ?_;rintro _ _ ⟨rfl,(⟨i,e,he,rfl,rfl⟩|⟨A,rfl⟩)⟩
 ·obtain⟨hel,C⟩:=C5 c he;have h:(e.l.map pgV).length=e.l.length:=Yh ..;refine eN (wH he) ?_;refine e_ asn (on_ (qn_ (ws_ (ws_ (wr_ (e_ mv (e_ lnn (e_ asn (on_ (qn_ (ws_ (wr_ (e_ mv ?_)))))))))))));refine e_ igt (sp_ mv (k:=λh1=>?_) (m:=λh1=>?_))
  ·obtain⟨n,l⟩:=gE e.l (e.l.length-1);have E:(e.l.map pgV)[(e.l.map pgV).length-1]? =some (n.d,n.s):=by rw[Xd,h,l];all_goals rfl
   have hlpl:=C n (Yj l);have f:∀q,e.l.getLast? =some q→q=n:=λq y=>by rw[List.getLast?_eq_getElem?,l]at y;exact(Xo y).symm
   have hil:=dJ n.pos;refine gW (λh2=>?_) λh2=>?_
   ·refine go ?_;refine eN (cH.keep (pF l)) ?_;refine gk (k:=fX eI (k:=λs40=>?_));refine app (k:=λB=>?_);rw[show cP n.pos++ [(p:Int)]=cP (n.pos++ [p])from by simp[cP]];refine go ?_;rw[h];refine s_ (qZ (i:=e.l.length-1) (o:=1) rfl rfl rfl (n.d,n.s) (h ▸ E) ae (a:=(n.d,B)) rfl) ?_;rintro _ _ ⟨rfl,rfl⟩;refine gR ?_;exact⟨_,cH.trans hsb (EV (d:=d) c he l a8 a8),rfl,rfl⟩
   have s:∀q,e.l.getLast? =some q→q.d≠d:=λq y=>by rw[f q y];omega
   refine go ?_;refine wD [8,10,11,12] (λk H=>(k=2→cY H g [x,w,t,.map (some r)])∧(k=3→cY H g [x,w,t,.map (some r)])) (aF 0 (k:=aF 1 (k:=?_)));refine aN 2 rfl (λH hH=>bB) ?_;refine aN 3 rfl (λH hH=>aV) (go ?_);refine aS 8 rfl (eC eI rfl rfl) ?_;rintro _ _ ⟨b,rfl,rfl⟩;rw[show Row b eI [(p:Int)]=Row b eI (cP [p])from rfl];refine af_ 9 (q:=cU λH hH=>bld [(0,_),(1,_)]) (k:=?_);refine aS 10 rfl (eC ePo rfl rfl) ?_;rintro _ _ ⟨z,rfl,rfl⟩;refine aS 11 rfl (fw rfl rfl rfl rfl af af) ?_;rintro _ _ ⟨j,rfl,rfl⟩;refine aS 12 rfl (xm rfl rfl rfl (we he) (qB c)) ?_;rintro _ _ ⟨rfl,rfl⟩;refine aZ (rT (k:=?_));exact⟨_,cH.trans hsb (xJ (s':=j) (u:=b) c he s),rfl,rfl⟩
  have f:∀q,e.l.getLast? =some q→q.d≠d:=λq y=>by
   have:=List.mem_of_getLast? y;have:=List.length_pos_of_mem this;omega
  refine gk (k:=iff_ (k:=go ?_));refine wD [8,10,11,12] (λk H=>(k=2→cY H g [x,w,t,.map (some r)])∧(k=3→cY H g [x,w,t,.map (some r)])) (aF 0 (k:=aF 1 (k:=?_)));refine aN 2 rfl (λH hH=>bB) ?_;refine aN 3 rfl (λH hH=>aV) (go ?_);refine aS 8 rfl (eC eI rfl rfl) ?_;rintro _ _ ⟨b,rfl,rfl⟩;rw[show Row b eI [(p:Int)]=Row b eI (cP [p])from rfl];refine af_ 9 (q:=cU λH hH=>bld [(0,_),(1,_)]) (k:=?_);refine aS 10 rfl (eC ePo rfl rfl) ?_;rintro _ _ ⟨z,rfl,rfl⟩;refine aS 11 rfl (fw rfl rfl rfl rfl af af) ?_;rintro _ _ ⟨j,rfl,rfl⟩;refine aS 12 rfl (xm rfl rfl rfl (we he) (qB c)) ?_;rintro _ _ ⟨rfl,rfl⟩;refine aZ (rT (k:=?_));exact⟨_,cH.trans hsb (xJ (s':=j) (u:=b) c he f),rfl,rfl⟩
 refine eN (cH.nilRow (e:=ePo) cH.refl) ?_;have h:([]:List (Nat×SV)).length=0:=rfl;refine e_ asn (on_ (qn_ (ws_ (ws_ (wr_ (e_ mv (e_ lnn (e_ asn (on_ (qn_ (ws_ (wr_ (e_ mv ?_)))))))))))));refine e_ igt (sp_ mv (k:=λh3=>?_) (m:=λh3=>?_))
 ·exact absurd h3 a8
 refine gk (k:=iff_ (k:=go ?_));refine wD [8,10,11,12] (λk H=>(k=2→cY H g [x,w,t,.map (some r)])∧(k=3→cY H g [x,w,t,.map (some r)])) (aF 0 (k:=aF 1 (k:=?_)));refine aN 2 rfl (λH hH=>bB) ?_;refine aN 3 rfl (λH hH=>aV) (go ?_);refine aS 8 rfl (eC eI rfl rfl) ?_;rintro _ _ ⟨b,rfl,rfl⟩;rw[show Row b eI [(p:Int)]=Row b eI (cP [p])from rfl];refine af_ 9 (q:=cU λH hH=>bld [(0,_),(1,_)]) (k:=?_);refine aS 10 rfl (eC ePo rfl rfl) ?_;rintro _ _ ⟨z,rfl,rfl⟩;refine aS 11 rfl (fw rfl rfl rfl rfl af af) ?_;rintro _ _ ⟨j,rfl,rfl⟩;refine aS 12 rfl (xn rfl rfl rfl A) ?_;rintro _ _ ⟨rfl,rfl⟩;refine aZ (rT (k:=?_));exact⟨_,cH.trans hsb (Cw (s':=j) (u:=b) c A),rfl,rfl⟩
end
section
variable {H:cG}{fs:List FV}{i:Nat}{l:List (SV×List Nat)}{t:Tok}
abbrev Val:=ByteArray×ByteArray
abbrev Doc:=Int×List Val
def eD:Enc (Int×SV):=⟨λp=>[.int .i64 p.1,p.2.val],2,true,λ_=>rfl,λp v h=>by simp at h;rcases h with rfl|rfl <;> rfl,ae,λh=>aI,ae⟩
instance {p:Int×SV}:kX eD p (.agg [.int .i64 p.1,p.2.val].toArray):=⟨rfl⟩
instance {d:Int}{s:SV}:i6 eD (.agg [.int .i64 d,s.val].toArray) (d,s):=⟨rfl⟩
def ew (H:cG) (l:List (Int×SV)) (ds:List Doc):Prop:=l.length=ds.length∧∀(i:Nat) (p:Int×SV) (q:Doc),l[i]? =some p→ds[i]? =some q→p.1=q.1∧Sl H p.2 eVl q.2
theorem ew.get {l:List (Int×SV)}{ds:List Doc}(h:ew H l ds) (hi:i<l.length):∃d s a,l[i]? =some (d,s)∧ds[i]? =some (d,a)∧Sl H s eVl a:=by
 obtain⟨p,hp⟩:∃p,l[i]? =some p:=⟨_,Yi hi⟩;obtain⟨q,b⟩:∃q,ds[i]? =some q:=⟨_,Yi (by rw[←h.1];exact hi)⟩;obtain⟨h1,h2⟩:=h.2 i p q hp b;exact⟨p.1,p.2,q.2,hp,by rw[b,h1],h2⟩
theorem ew.tail {A:Hp}{l:List (Int×SV)}{ds:List Doc}(h:ew H l ds):ew (A::H) l ds:=⟨h.1,λi p q hp a=>by
 obtain⟨h1,h2⟩:=h.2 i p q hp a;exact⟨h1,Sl.tail⟩⟩
def dsz (ds:List Doc):Nat:=(ds.map λd=>vsz d.2).sum
theorem yz {ds:List Doc}{d:Doc}(h:ds[i]? =some d):dsz (ds.take (i+1))=dsz (ds.take i)+vsz d.2:=by rw[cL h];simp[dsz]
theorem Ad (ds:List Doc) (i:Nat):dsz (ds.take i)≤dsz ds:=by
 rw[dsz,dsz,List.map_take];exact l5 _ _
theorem pS {ds:List Doc}{d:Doc}(h:d∈ds):vsz d.2≤dsz ds:=by
 induction ds with
 |nil=>simp at h
 |cons e ds ih=>
  simp only[dsz,Xn,Vn]at ih⊢;rcases Xr.1 h with rfl|h
  ·omega
  ·have:=ih h;omega
theorem jG (fs:List FV) (k:Nat) (vs:List Val):(dB fs k vs).length≤vsz vs:=by
 unfold dB
 split
 ·rename_i p hp;have:=wq p vs vs.length _ _ rfl;rw[Xk]at this;exact this.2
 ·simp
def na (fs:List FV) (f k:Nat) (vs:List Val):List Tri:=(dB fs f vs).map λt=>(cF (n7 f (dQ t.text)),k,t.pos)
def fF (fs:List FV) (f:Nat):Nat→List Doc→List Tri
 |_, []=>[]
 |k,d::r=>na fs f k d.2++fF fs f (k+1) r
theorem tO (fs:List FV) (f:Nat):∀(l:List Doc) (k:Nat) (d:Doc),fF fs f k (l++ [d])=fF fs f k l++na fs f (k+l.length) d.2
 | [],k,d=>by simp[fF]
 |e::l,k,d=>by
  rw[Yd,fF,tO fs f l (k+1) d,fF,Yf,Yb,show k+1+l.length=k+(l.length+1)from a8]
theorem Af {f:Nat}{ds:List Doc}{d:Doc}(h:ds[i]? =some d):fF fs f 0 (ds.take (i+1))=fF fs f 0 (ds.take i)++na fs f i d.2:=by
 have hi:=(Yk.1 h).1;rw[cL h,tO,Yg,Vk a8,Vf]
theorem qO (fs:List FV) (f:Nat):∀(l:List Doc) (k:Nat),(fF fs f k l).length≤dsz l
 | [],_=>by simp[fF]
 |d::l,k=>by
  have h1:=qO fs f l (k+1);have h2:=jG fs f d.2;simp only[fF,dsz,na,Ya,Yh,Xn,Vn]at*;omega
def eQ (fs:List FV) (ds:List Doc):List Tri:=(List.range fs.length).flatMap λf=>fF fs f 0 ds
def mw (fs:List FV) (ds:List Doc) (f:Nat):List Tri:=(List.range f).flatMap λf=>fF fs f 0 ds
theorem qv (fs:List FV) (ds:List Doc) (f:Nat):mw fs ds (f+1)=mw fs ds f++fF fs f 0 ds:=by simp[mw,U6]
theorem xM (fs:List FV) (ds:List Doc):∀f,(mw fs ds f).length≤f*dsz ds
 | 0=>by simp[mw]
 |f+1=>by
  have h1:=xM fs ds f;have h2:=qO fs f ds 0;rw[qv,Ya,Vg,Nat.one_mul];omega
def et (fs:List FV) (ds:List Doc) (f:Nat):List Nat:=ds.map λd=>(dB fs f d.2).length
theorem zj {p:FV}{w:List Nat}(h:t∈ee p w):t.text.length≤64:=by
 rw[ee]at h
 split at h
 ·obtain⟨t0,h0,hk⟩:=List.mem_filterMap.1 h;rw[jW]at hk
  split at hk
  ·split at hk
   ·obtain rfl:=Xo hk;assumption
   ·cases hk
  ·cases hk
 ·split at h
  ·split at h
   ·simp at h;subst h;assumption
   ·simp at h
  ·split at h
   ·split at h
    ·simp at h;subst h;rw[lI];decide
    ·simp at h
   ·simp at h
theorem o4 (p:FV) (vs:List Val):∀i,∀t∈(fk p vs i).2,t.text.length≤64
 | 0,t,h=>by simp[fk]at h
 |i+1,t,h=>by
  rw[fk]at h
  split at h
  ·exact o4 p vs i t h
  ·split at h
   ·rcases Xl.1 h with h|h
    ·exact o4 p vs i t h
    ·obtain⟨a,h0,rfl⟩:=Xw.1 h;exact zj (t:=a) h0
   ·exact o4 p vs i t h
theorem rk {k:Nat}{vs:List Val}(h:t∈dB fs k vs):t.text.length≤64:=by
 unfold dB at h
 split at h
 ·exact o4 _ _ _ t h
 ·simp at h
def lnH (z:SV×List Nat):cG:= [Row z.1 eI (cP z.2)]
theorem Bh {z:SV×List Nat}(h:l[i]? =some z):cH (Cl lnH l::H) (Row z.1 eI (cP z.2)::Cl lnH (l.take i)::Cl lnH (l.drop (i+1))::H):=lg (f:=lnH) h
theorem Fz (z:SV×List Nat) (hi:i<l.length):cH (Row z.1 eI (cP z.2)::Cl lnH (l.take i)::Cl lnH (l.drop (i+1))::H) (Cl lnH (l.set i z)::H):=nG (f:=lnH) z hi
theorem IH (z:SV×List Nat):cH (Row z.1 eI (cP z.2)::Cl lnH l::H) (Cl lnH (l++ [z])::H):=pW (f:=lnH) z
theorem Fy:∀n,cH H (Cl lnH (List.replicate n (SV.nil, []))::H)
 | 0=>ja cH.refl
 |n+1=>by
  rw[List.replicate_succ'];exact((Fy n).trans (cH.nilRow (e:=eI) cH.refl)).trans (IH (SV.nil, []))
theorem C4 {r:Nat}{R:cG}:cH (Mv r []::R) (iJ r []::R):=(ja cH.refl).trans (pb (es:= []) fV.nil)
theorem FA {zs:List (SV×List Nat)}{A:List (List Nat)}{n:Nat}(s:SV) (x:List Nat) (h:zs.map (·.2)=A++List.replicate (n+1) []):(zs.set A.length (s,x)).map (·.2)=A++ [x]++List.replicate n []:=by
 rw[Q6,h,Uy,U8 _ _ (Xj _),Vw];simp
theorem AN {G:cJ}{fv dv:SV}{l:List (Int×SV)}{ds:List Doc} [hf:Sl H fv eF fs] [hd:Sl H dv eD l] [Spc H] (hS:jt G) (N:ew H l ds) (hfl:fs.length≤16) (hn:ds.length≤100000) (hq:∀d∈ds,d.2.length≤100000000∧∀v∈d.2,v.2.size≤3000000) (hz:dsz ds≤30000000):
 SC G prog 92 [.agg #[fv.val],dv.val] H (λv H'=>∃(g:Nat) (c:SV) (r:Nat) (b:List (SV×List Nat)),v=pA g∧b.map (·.2)=(List.range fs.length).map (et fs ds)∧H'=Vr g [fv.val,dv.val,c.val,.map (some r)]::Row c eSV (b.map (·.1))::Cl lnH b::iJ r (eQ fs ds)::H):=by
 have M:=N.1;refine sWk func92 ?_;refine gk (k:=bxx (k:=λR=>?_));refine e_ asn (on_ (qn_ (l4 (Nat×SV×Nat) (λy=>True) (λy=>[(5,pA y.1)]) [5,12,13,14,15,16,17,18,19,20] (λy=>[Vr y.1 [fv.val,dv.val,y.2.1.val,.map (some y.2.2)],Row y.2.1 eSV (List.replicate fs.length SV.nil),Mv y.2.2 []]) (Vr R [fv.val]::H) ?_ ?_)))
 ·refine wD [5,6,8] (λk H=>(k=0→cY H R [fv.val])∧(k=3→cY H R [fv.val])∧(k=4→Sl H fv eF fs)) (?_);refine aN 0 rfl (λH hH=>aW) (?_);refine aF 1 (k:=aF 2 (k:=?_));refine aN 3 rfl (λH hH=>aE) (?_);refine go ?_;refine jL 5 6 rfl rfl (aa) rfl rfl (λk hk=>⟨λhi=>ay,λhi=>ay,λhi=>ay⟩) (fq eSV SV.nil rfl rfl _ _ rfl rfl rfl (a8) (a8) (a8)) (sI) ?_ ?_
  ·rintro _ _ ⟨p,rfl,w,x,rfl⟩;refine aS 6 rfl (sI) ?_;rintro _ _ ⟨u,rfl,rfl⟩;refine af_ 7 (q:=cU λH hH=>bld [(0,_),(1,_),(2,_),(3,_)]) (k:=?_);refine aS 8 rfl (sJ rfl) ?_;rintro _ _ ⟨C,rfl,rfl⟩;refine gk (k:=aZ (jnE ((C,p,u)) (q:=?_)));trivial
  rintro _ _ ⟨u,rfl,rfl⟩;refine aS 5 rfl (fq eSV SV.nil rfl rfl _ _ rfl rfl rfl (a8) (a8) (a8)) ?_;rintro _ _ ⟨p,rfl,w,x,rfl⟩;refine af_ 7 (q:=cU λH hH=>bld [(0,_),(1,_),(2,_),(3,_)]) (k:=?_);refine aS 8 rfl (sJ rfl) ?_;rintro _ _ ⟨C,rfl,rfl⟩;refine gk (k:=aZ (jnE ((C,p,u)) (q:=?_)));trivial
 rintro⟨g,c,r⟩ -
 try dsimp only[Yd,Ye]at*
 refine ws_ (ws_ (wr_ (?_)));refine eN (cH.keep (cH.keep C4)) ?_;refine eN (Fy fs.length) ?_;rw[show List.replicate fs.length SV.nil=(List.replicate fs.length ((SV.nil, []):SV×List Nat)).map (·.1)from ak,show iJ r []=iJ r (mw fs ds 0)from rfl];refine gk (k:=wl2_ (Nat×(List (SV×List Nat))) (λy=>y.1≤fs.length∧y.2.map (·.2)=(List.range y.1).map (et fs ds)++List.replicate (fs.length-y.1) []) (λy=>[(24,iN y.1)]) [(1,_),(2,_),(5,_),(23,_)] (λy=>[Row c eSV (y.2.map (·.1)),Cl lnH y.2,iJ r (mw fs ds y.1)]) _ (λy=>fs.length-y.1) ((0,List.replicate fs.length (SV.nil, []))) (h0:=?_) (k:=?_))
 ·try dsimp only
  exact⟨Yl _,ak⟩
 rintro⟨f,b⟩ ⟨hf1,e⟩
 try dsimp only[Yd,Ye]at*
 refine gW (λh1=>?_) (λh1=>?_)
 ·have T:b.length=fs.length:=by have:=congrArg List.length e;simp at this;omega
  obtain⟨z,hz⟩:=gE b f;have hml:(b.map (·.1)).length=b.length:=Yh ..;have L:(cP (et fs ds f)).length=l.length:=by rw[dJ,et,Yh,M]
  obtain⟨S,X⟩:∃S,fs.length-f=S+1:=⟨fs.length-f-1,a8⟩;have J:=λs=>FA (A:=(List.range f).map (et fs ds)) s (et fs ds f) (by rw[←X];exact e);rw[Yh,T5]at J;refine go ?_;refine wD [7,9] (λk H=>(k=2→cY H g [fv.val,dv.val,c.val,.map (some r)])∧(k=3→cY H g [fv.val,dv.val,c.val,.map (some r)])∧(k=6→Sl H dv eD l)∧(k=8→Sl H c eSV (b.map (·.1)))) (aF 0 (k:=aF 1 (k:=?_)));refine aN 2 rfl (λH hH=>bB) (?_);refine aN 3 rfl (λH hH=>aE) (?_);refine aF 4 (k:=aF 5 (k:=?_));refine go ?_;refine aS 7 rfl (fq eI 0 rfl rfl _ _ rfl rfl rfl (a8) (a8) (a8)) ?_;rintro _ _ ⟨a,rfl,hs34n,hs34c,rfl⟩;refine go ?_;refine aS 9 rfl (dc (i:=f) rfl rfl rfl (a8)) ?_;rintro _ _ ⟨rfl,rfl⟩;refine aZ (qn_ (ws_ (wr_ (?_))));rw[show(b.map (·.1)).set f a=(b.set f (a,et fs ds f)).map (·.1)from by rw[Q6],show Row a eI (List.replicate l.length (0:Int))=Row a eI (eV (cP (et fs ds f)) 0 0)from by rw[kx,L],show iJ r (mw fs ds f)=iJ r (mw fs ds f++fF fs f 0 (ds.take 0))from by simp[fF]];refine eN (gf (A:=Cl lnH b) inferInstance ((Bh hz).trans (cH.drop cH.refl))) ?_;have K:((b.set f (a,et fs ds f)).map (·.1))[f]? =some a:=by rw[Xd,Uz (a8)];all_goals rfl
  have hlvl:((b.set f (a,et fs ds f)).map (·.1)).length=fs.length:=by rw[Yh,T6,T]
  refine gk (k:=wl2_ (Nat) (λy=>y≤l.length) (λy=>[(38,iN y)]) [(1,_),(2,_),(5,_),(6,_),(23,_),(24,_),(36,_),(37,_)] (λy=>[Row a eI (eV (cP (et fs ds f)) 0 y),iJ r (mw fs ds f++fF fs f 0 (ds.take y))]) _ (λy=>l.length-y) (0) (h0:=?_) (k:=?_))
  ·try dsimp only
   exact Yl _
  rintro j hj
  try dsimp only[Yd,Ye]at*
  refine gW (λh2=>?_) (λh2=>?_)
  ·obtain⟨d,s,vs,hlj,B,hsl⟩:=N.get (i:=j) (a8);have n:=Yj B;obtain⟨F,E⟩:=hq _ n;have U:=pS n;have hfl2:=jG fs f vs;have hp1:=xM fs ds f;have hp2:=qO fs f (ds.take j) 0;have hp3:=Ad ds j;have hp4:f*dsz ds≤16*dsz ds:=Vc _ (a8);have Y:(cP (et fs ds f))[j]? =some (((dB fs f vs).length:Nat):Int):=eu (by rw[et,Xd,B];all_goals rfl);have hfll:=iT (full:=cP (et fs ds f)) (z:=(0:Int)) (i:=j) (a8);simp only at F E U;refine gk (k:=alc (k:=λb8=>?_));refine go ?_;refine c3_ rfl (L8 hS (a8) (a8) F E (a8)) ?_;rintro _ _ ⟨s47,rfl,rfl⟩;refine e_ asn (on_ (qn_ (ws_ (wr_ (e_ mv (e_ nck (e_ fla (e_ ldv (e_ mv (e_ ixa (e_ (lel (hy:=K)) (go ?_))))))))))));refine go ?_;refine s_ (dc (i:=j) rfl rfl rfl (a8)) ?_;rintro _ _ ⟨rfl,rfl⟩;rw[lV Y];refine on_ (qn_ (ws_ (wr_ (?_))));rw[show iJ r (mw fs ds f++fF fs f 0 (ds.take j))=iJ r (mw fs ds f++fF fs f 0 (ds.take j)++(na fs f j vs).take 0)from ak];refine gk (k:=wl2_ (Nat) (λy=>y≤(dB fs f vs).length) (λy=>[(61,iN y)]) [(1,_),(2,_),(5,_),(6,_),(7,_),(23,_),(24,_),(36,_),(37,_),(38,_),(59,_),(60,_)] (λy=>[iJ r (mw fs ds f++fF fs f 0 (ds.take j)++(na fs f j vs).take y)]) _ (λy=>(dB fs f vs).length-y) (0) (h0:=?_) (k:=?_))
   ·try dsimp only
    exact Yl _
   rintro m hm
   try dsimp only[Yd,Ye]at*
   refine gW (λh3=>?_) (λh3=>?_)
   ·obtain⟨t,ht⟩:=gE (dB fs f vs) m;have htl:=rk (Yj ht);have V:(na fs f j vs).take (m+1)=(na fs f j vs).take m++ [(cF (n7 f (dQ t.text)),j,t.pos)]:=by simp only[na,←List.map_take];exact w7 ht
    have htl3:((na fs f j vs).take m).length≤(dB fs f vs).length:=by rw[Yg,na,Yh];omega
    have Z:(mw fs ds f++fF fs f 0 (ds.take j)++(na fs f j vs).take m).length≤1000000000:=ai;have hsz:=gG t.text;refine gk (k:=alc (k:=λh=>?_));refine go ?_;refine wD [8] (λk H=>(k=2→cY H h [.string (dQ t.text),iN t.value,iN t.pos,iN t.st,iN t.en])∧(k=3→cY H h [.string (dQ t.text),iN t.value,iN t.pos,iN t.st,iN t.en])∧(k=6→cY H h [.string (dQ t.text),iN t.value,iN t.pos,iN t.st,iN t.en])∧(k=7→cY H h [.string (dQ t.text),iN t.value,iN t.pos,iN t.st,iN t.en])) (aF 0 (k:=aF 1 (k:=?_)));refine aN 2 rfl (λH hH=>bB) (?_);refine aN 3 rfl (λH hH=>aE) (?_);refine cO 4 rfl rfl (aa) rfl (λH _=>gi (vs:= [_,_]) rfl (Ni (a8)) H rfl) (?_);refine aF 5 (k:=?_);refine aN 6 rfl (λH hH=>by have hN:=hH.2.2.1 rfl;exact fla) (?_);refine go ?_;refine aS 8 rfl (dy (vs:= [_,_,_,_]) rfl (Pw (r:=r) Z)) ?_;rintro _ _ ⟨rfl,rfl⟩;rw[Yf,←V];refine aZ (go ?_);refine lN (m+1) ?_
    try dsimp only
    omega
   obtain rfl:m=(dB fs f vs).length:=a8;rw[Yf,show fF fs f 0 (ds.take j)++(na fs f j vs).take (dB fs f vs).length=fF fs f 0 (ds.take (j+1))from by rw[Af B,show(na fs f j vs).take (dB fs f vs).length=na fs f j vs from Xq (by simp[na])]];refine go ?_;refine lN (j+1) ?_
   try dsimp only
   omega
  obtain rfl:j=l.length:=a8;rw[show eV (cP (et fs ds f)) 0 l.length=cP (et fs ds f)from by rw[←L,kN],show ds.take l.length=ds from by rw[M,Xk],←qv];refine we_ (qe_ (le_ (bh_ (bn_ (qn_ (wr_ (?_)))))));refine eN (cH.trans (H':=Row a eI (cP (et fs ds f))::Cl lnH (b.take f)::Cl lnH (b.drop (f+1))::Row c eSV ((b.set f (a,et fs ds f)).map (·.1))::iJ r (mw fs ds (f+1))::Vr g [fv.val,dv.val,c.val,.map (some r)]::Vr R [fv.val]::H) (hsb) (Fz (a,et fs ds f) (a8))) ?_;refine go ?_;refine lN ((f+1,b.set f (a,et fs ds f))) ?_
  try dsimp only
  exact⟨a8,by rw[J a,U6,Va,show fs.length-(f+1)=S from a8];all_goals rfl⟩
 obtain rfl:f=fs.length:=a8;rw[Vw,List.replicate_zero,Ym]at e;rw[show mw fs ds fs.length=eQ fs ds from rfl];refine gR ?_;exact⟨_,hsb,g,c,r,b,rfl,e,rfl⟩
end
section
variable {k:List Nat}{ts:List Tri}
abbrev uo:=List Nat×List Po
def gD:Nat→List uo→List En
 |_, []=>[]
 |n,p::r=>⟨dQ p.1,p.2.length,dn p.2,n,(dD p.2).length⟩::gD (n+(dD p.2).length) r
def dI (rs:List uo):List Nat:=rs.flatMap λp=>dD p.2
theorem iF:∀(rs:List uo) (n:Nat),(gD n rs).length=rs.length
 | [],_=>rfl
 |p::r,n=>by simp[gD,iF r]
theorem nu {rs:List uo}{i:Nat}{p:uo}(h:rs[i]? =some p):dI (rs.take (i+1))=dI (rs.take i)++dD p.2:=by rw[cL h];simp[dI]
theorem lW:∀{rs:List uo}{n i:Nat}{p:uo},rs[i]? =some p→(gD n rs)[i]? =some ⟨dQ p.1,p.2.length,dn p.2,n+(dI (rs.take i)).length,(dD p.2).length⟩
 | [],_,_,_,h=>aI
 |q::r,n,0,p,h=>by simp at h;subst h;simp[gD,dI]
 |q::r,n,i+1,p,h=>by
  rw[Xc]at h;rw[gD,Xc,lW h,Vj];simp only[dI,Vp,Ya,Vz]
def fa (fs:List FV) (v:Val):List Nat:=uv ((fJ fs (cF v.1)).getD 0)++(uv v.2.size++cF v.2)
def pg (fs:List FV) (d:Doc):List Nat:=uv d.2.length++d.2.flatMap (fa fs)
def eJ (fs:List FV) (ds:List Doc):List Nat:=ds.flatMap (pg fs)
def ld (fs:List FV) (ds:List Doc) (n:Nat):List Nat:=(List.range n).flatMap λf=>dN (et fs ds f)
def mH (ds:List Doc):List Nat:=uv ds.length++gh (-1) (ds.map (·.1))
def lE (fs:List FV) (ds:List Doc):List (Nat×List Nat):= [(1,wF fs),(2,mH ds),(3,ld fs ds fs.length),(4,fT (gD 0 (dq (eQ fs ds)))),(5,dI (dq (eQ fs ds))),(6,eJ fs ds)]
def xy (fs:List FV) (ds:List Doc):List Nat:=kZ 83 (lE fs ds)
structure tY (ts:List Tri):Prop where
 up:UpT ts
 few:ts.length≤100000000
 small:∀t∈ts,t.1.length≤65∧1≤t.1.length∧(∀x∈t.1,x<256)∧t.2.1≤99999∧t.2.2<1099511627776
theorem rH {x:Nat×Nat}(h:x∈ofK ts k):(k,x)∈ts:=by
 obtain⟨t,a,rfl⟩:=Xw.1 h;obtain⟨h1,h2⟩:=Q9.1 a;have:=Yt h2;rw[←this];exact h1
theorem xR:∀{l:List Po}{nb m:Nat},gJ nb l→(∀p∈l,p.1≤m)→l.length+nb≤m+1∨l= []
 | [],_,_,_,_=>.inr rfl
 |p::r,nb,m,h,hm=>by
  have h1:=hm p ak;rcases xR (m:=m) h.2.2.2 (λq a=>hm q (Xa _ a))with h2|rfl
  ·left;have:=h.1;simp only[Yb];omega
  ·left;have:=h.1;simp only[Yb,Yc];omega
theorem lR (h:tY ts):gJ 0 (iD (ofK ts k))∧eG (iD (ofK ts k))∧dn (iD (ofK ts k))≤ts.length:=by
 obtain⟨h1,h2⟩:=IQ (h.up k);obtain⟨h3,h4⟩:=nZ (ofK ts k);have h5:=w5 ts k;have hd:∀p∈iD (ofK ts k),p.1≤99999:=λp hp=>by
  obtain⟨i,hi⟩:=Uf hp;have a:=(iQ h1 hi).2.1;obtain⟨x,hx⟩:=List.exists_mem_of_ne_nil _ a;have:=(h.small _ (rH (h2 p hp x hx))).2.2.2.1
  simpa using this
 refine⟨h1,⟨?_,λp hp=>⟨by have:=hd p hp;omega,?_,λx hx=>(h.small _ (rH (h2 p hp x hx))).2.2.2.2⟩⟩,a8⟩
 ·rcases xR h1 hd with h9|h9
  ·omega
  ·rw[h9];simp
 ·have:∀(l:List Po),p∈l→p.2.length≤dn l:=by
   intro l
   induction l with
   |nil=>intro hh;simp at hh
   |cons q l ih=>
    intro hh;simp only[dn,Xn,Vn]at ih⊢;rcases Xr.1 hh with rfl|hh
    ·omega
    ·have:=ih hh;omega
  have:=this _ hp;have:=h.few;omega
end
section
variable {G:cJ}{H:cG}{i:Nat}{l:List SV}{x:List Nat}{xs:List (List Nat)}
def wQ (H:cG) (l:List SV) (xs:List (List Nat)):Prop:=l.length=xs.length∧∀(i:Nat) (s:SV) (x:List Nat),l[i]? =some s→xs[i]? =some x→Sl H s eB x
theorem wQ.get (h:wQ H l xs) (hi:i<l.length):∃s x,l[i]? =some s∧xs[i]? =some x∧Sl H s eB x:=by
 obtain⟨p,hp⟩:∃p,l[i]? =some p:=⟨_,Yi hi⟩;obtain⟨q,a⟩:∃q,xs[i]? =some q:=⟨_,Yi (by rw[←h.1];exact hi)⟩;exact⟨p,q,hp,a,h.2 i p q hp a⟩
theorem GZ {s u:SV}{y:List Nat} [h1:Sl H s eB x] [h2:Sl H u eB y]:wQ H [s,u] [x,y]:=⟨rfl,λi p q hp a=>by
 match i,hp,a with
 | 0,hp,a=>simp at hp a;subst hp;subst a;exact h1
 | 1,hp,a=>simp at hp a;subst hp;subst a;exact h2⟩
theorem x9 {α:Type}(l:List α) (a b:Nat):(l.take (min b l.length)).drop a=(l.take b).drop a:=by
 rw[←List.take_eq_take_min]
theorem Ba:∀{l:List Po}{nb:Nat},gJ nb l→∀p∈l,nb≤p.1
 | [],_,_,p,hp=>by simp at hp
 |q::r,nb,h,p,hp=>by
  rcases Xr.1 hp with rfl|hp
  ·exact h.1
  ·have:=Ba h.2.2.2 p hp;have:=h.1;omega
theorem wQ.tail {A:Hp}(h:wQ H l xs):wQ (A::H) l xs:=⟨h.1,λi s x h1 h2=>by have:=h.2 i s x h1 h2;exact Sl.tail⟩
theorem qF (h:xs[i]? =some x):(xs.take (i+1)).flatten=(xs.take i).flatten++x:=by
 rw[cL h];simp
theorem wt (xs:List (List Nat)) (i:Nat):(xs.take i).flatten.length≤xs.flatten.length:=by
 conv=>rhs;rw[←Xv i xs,List.flatten_append,Ya]
 omega
theorem CY (h:xs[i]? =some x):(eV xs.flatten 0 (xs.take i).flatten.length).take (xs.take i).flatten.length++x.take x.length++(eV xs.flatten 0 (xs.take i).flatten.length).drop ((xs.take i).flatten.length+x.length)=eV xs.flatten 0 (xs.take (i+1)).flatten.length:=by
 have b:=wt xs (i+1);have a:=qF h;rw[a,Ya]at b;have e:xs.flatten=(xs.take i).flatten++(x++(xs.drop (i+1)).flatten):=by
  rw[←Yf,←a,←List.flatten_append,Xv]
 have h1:xs.flatten.take (xs.take i).flatten.length=(xs.take i).flatten:=by
  conv=>lhs;rw[e]
  exact V3 ..
 have h2:xs.flatten.take (xs.take (i+1)).flatten.length=(xs.take i).flatten++x:=by
  conv=>lhs;rw[e,←Yf,←a]
  rw[V3,a]
 rw[eV,eV,h1,h2,a,Ya,V3,Xk,List.drop_append,Us a8,List.drop_replicate];simp only[Ye,V0];rw[show xs.flatten.length-(xs.take i).flatten.length-x.length=xs.flatten.length-((xs.take i).flatten.length+x.length)from a8]
theorem Jk {p:SV} [hs:Sl H p eSV l] (hl:wQ H l xs) (hm:xs.length≤1000000000) (hn:xs.flatten.length≤1000000000000):SC G prog 182 [p.val] H (λv q=>∃n:SV,v=n.val∧q=Row n eB xs.flatten::H):=by
 have g:=hl.1;refine sWk func182 ?_;refine go ?_;refine gk (k:=wl2_ Nat (λy=>y≤l.length) (λy=>[(3,iN ((xs.take y).flatten.length)),(12,iN y)]) [(0,_),(10,_),(11,_)] (λy=>[]) _ (λy=>l.length-y) (0) (h0:=?_) (k:=?_))
 ·exact Yl _
 rintro i hi
 try dsimp only[Yd,Ye]at*
 refine gW (λh1=>?_) λh1=>?_
 ·obtain⟨s,x,h,e,hsl⟩:=hl.get (i:=i) a8;have c:=qF e;have f:=wt xs (i+1);rw[c,Ya]at f;refine wk_ (qn_ (ws_ (wb_ (ws_ (wr_ (e_ ixa (e_ lel (e_ asn (on_ (qn_ (wr_ (e_ mv (e_ mv ?_)))))))))))));refine e_ lnn (e_ iad (e_ asn (on_ (bn_ (qn_ (wr_ ?_))))));rw[show(((xs.take i).flatten.length:Nat):Int)+(x.length:Int)=(((xs.take (i+1)).flatten.length:Nat):Int)from by rw[c,Ya];omega];refine go ?_;refine lN (i+1) ?_
  try dsimp only
  omega
 obtain rfl:i=l.length:=a8;rw[show xs.take l.length=xs from by rw[g,Xk]];refine go ?_;refine s_ (fq eB 0 rfl rfl _ _ rfl rfl rfl a8 a8 a8) ?_;rintro _ _ ⟨d,rfl,hs22n,hs22c,rfl⟩;refine e_ asn (on_ (qn_ (ws_ (wr_ ?_))));rw[show Row d eB (List.replicate xs.flatten.length 0)=Row d eB (eV xs.flatten 0 (xs.take 0).flatten.length)from by simp[eV]];refine gk (k:=wl2_ Nat (λy=>y≤l.length) (λy=>[(7,iN ((xs.take y).flatten.length)),(25,iN y)]) [(6,_),(23,_),(24,_)] (λy=>[Row d eB (eV xs.flatten 0 (xs.take y).flatten.length)]) _ (λy=>l.length-y) (0) (h0:=?_) (k:=?_))
 ·exact Yl _
 rintro i hi
 try dsimp only[Yd,Ye]at*
 refine gW (λh2=>?_) λh2=>?_
 ·obtain⟨s,x,h,e,hsl⟩:=hl.get (i:=i) a8;have c:=qF e;have f:=wt xs (i+1);have m:=CY e;rw[c,Ya]at f;have j:=iT (full:=xs.flatten) (z:=0) (i:=(xs.take i).flatten.length) a8;refine wk_ (qn_ (ws_ (wb_ (ws_ (wr_ (e_ ixa (e_ lel (e_ asn (on_ (qn_ (wr_ (e_ mv (e_ mv ?_)))))))))))));refine e_ mv ?_;refine e_ (fA rfl bA (xs.take i).flatten.length xs.flatten.length ⟨_,_,rfl,rfl⟩ (by rw[j]) a8 a8) (go ?_);refine s_ (rG (a:=(xs.take i).flatten.length) (b:=xs.flatten.length) rfl rfl bA a8 a8 x.length a8) ?_;rintro _ _ ⟨rfl,rfl⟩;rw[m];refine e_ iad (e_ asn (on_ (bn_ (qn_ (wr_ ?_)))));rw[show(((xs.take i).flatten.length:Nat):Int)+(x.length:Int)=(((xs.take (i+1)).flatten.length:Nat):Int)from by rw[c,Ya];omega];refine go ?_;refine lN (i+1) ?_
  try dsimp only
  omega
 obtain rfl:i=l.length:=a8;rw[show xs.take l.length=xs from by rw[g,Xk],kN];refine gR ?_;exact⟨_,hsb,d,rfl,rfl⟩
theorem Lb {s:SV}{l:List (Nat×SV)}{ps:List Po} [hg:Glb G H] [hs:Sl H s ePo l] (hp:qe H l ps) (f:gJ 0 ps) (hsm:eG ps) (ht:dn ps≤1000000000):SC G prog 237 [s.val] H (λv X=>∃T:SV,v=.tuple #[T.val,.nilIface]∧X=Row T eB (dD ps)::H):=by
 have z:=hp.1;have hT:∀i,dn (ps.take i)≤dn ps:=λi=>by
  conv=>rhs;rw[←Xv i ps,jT]
  omega
 have hpn:=hsm.1;refine sWk func237 ?_;refine go ?_;refine gk (k:=wl2_ Nat (λy=>y≤l.length) (λy=>[(4,.int .i64 (((dZ 0 (ps.take y):Nat):Int)-1)),(5,iN (dn (ps.take y))),(18,iN y)]) [(0,_),(16,_),(17,_)] (λy=>[]) _ (λy=>l.length-y) (0) (h0:=?_) (k:=?_))
 ·exact Yl _
 rintro i hi
 try dsimp only[Yd,Ye]at*
 refine gW (λh1=>?_) λh1=>?_
 ·obtain⟨sp,pos,K,e,hsl⟩:=hp.get (i:=i) a8;generalize (ps.getD i (0, [])).1=d at K e;obtain⟨B,A,j⟩:=iQ f e;have b:=hsm.2 _ (Yj e);simp only at B b A j;have hposl:=dJ pos;have u:=nQ e;have hTi:=hT (i+1);simp only at u;refine gk (k:=alc (k:=λb7=>?_));refine go ?_;refine d2_ rfl (HO b.1 B A j b.2.1) (e_ asn (on_ (qn_ (ws_ (wr_ (e_ mv ?_))))));refine e_ (cK rfl) ?_;refine on_ (qn_ (iff_ (k:=wk_ (qn_ (ws_ (wr_ (e_ fla (e_ ldv (e_ asn (on_ (qn_ (wr_ (e_ mv ?_)))))))))))));refine e_ fla (e_ ldv (e_ lnn (e_ iad (e_ asn (on_ (bn_ (qn_ (wr_ ?_))))))));have m:dZ 0 (ps.take (i+1))=d+1:=oM e;rw[show(d:Int)=((dZ 0 (ps.take (i+1)):Nat):Int)-1 from by rw[m];omega,show((dn (ps.take i):Nat):Int)+(((cP pos).length:Nat):Int)=((dn (ps.take (i+1)):Nat):Int)from a8];refine go ?_;refine lN (i+1) ?_
  try dsimp only
  omega
 obtain rfl:i=l.length:=a8;rw[show ps.take l.length=ps from by rw[z,Xk]];refine go ?_;refine c0_ rfl ga ?_;rintro _ _ ⟨R,rfl,rfl⟩;refine c0_ rfl ga ?_;rintro _ _ ⟨S,rfl,rfl⟩;refine e_ asn (e_ asn (on_ (qn_ (ws_ (wr_ (e_ mv (e_ mv (e_ lnn ?_))))))));refine e_ ((ab)) ?_;refine d2_ rfl (eH l.length a8 ak) (on_ (qn_ (ws_ (wr_ (e_ mv (e_ mv ?_))))));refine e_ ((ab)) ?_;refine d2_ rfl (eH _ a8 (by have:=eA (n:=l.length) (k:=6) a8 a8;simp only[Ya,Yc];omega)) (on_ (qn_ (ws_ (wr_ ?_))));obtain⟨hd,r⟩:=ex ([]++uv l.length++uv (dn ps));have hhl:hd.length≤12:=by
  have h1:=eA (n:=l.length) (k:=6) a8 a8;have h2:=eA (n:=dn ps) (k:=6) a8 a8;rw[r];simp only[Ya,Yc];omega
 rw[←r,show Wr R hd=Wr R (hd++(cM ps 0).2.1)from by simp[cM],show Wr S []=Wr S (cM ps 0).2.2 from rfl];have C:=j5 hsm;have hbk:16*dC ps≤ps.length+15:=cn;refine gk (k:=wl2_ Nat (λy=>y≤dC ps) (λy=>[(11,.int .i64 ((((cM ps y).1:Nat):Int)-1)),(12,iN (16*y))]) [(0,_),(9,_),(10,_)] (λy=>[Wr R (hd++(cM ps y).2.1),Wr S (cM ps y).2.2]) _ (λy=>dC ps-y) (0) (h0:=?_) (k:=?_))
 ·exact Yl _
 rintro k hk
 try dsimp only[Yd,Ye]at*
 refine gW (λh2=>?_) λh2=>?_
 ·have hlt:16*k<ps.length:=by omega
  have hkb:k<dC ps:=cn;obtain⟨N,E,M⟩:=C k;have u:=hT (16*k);have hlk:(ps.take (16*k)).length≤ps.length:=ar;have g:=ma ps k;have t:=m8 hsm k;have hbT:dn (dg ps k)≤dn ps:=by
   have:=hT (16*(k+1));rw[←jH,jT]at this;omega
  have hbl:=pZ (nb:=(cM ps k).1) t;have a:=hp.cut (16*k) (16*k+16);rw[show(ps.take (16*k+16)).drop (16*k)=dg ps k from rfl]at a;have L:=a.1;obtain⟨q,F⟩:∃q,(dg ps k).getLast? =some q:=by
   rcases R0 (dg ps k)with h|⟨c,q,h⟩
   ·rw[h]at g;simp at g;omega
   ·exact⟨q,by rw[h];simp⟩
  have hql:dZ (cM ps k).1 (dg ps k)=q.1+1:=by rw[dZ,F]
  have w:(dg ps k)[(dg ps k).length-1]? =some q:=by rw[←List.getLast?_eq_getElem?];exact F
  obtain⟨U,x⟩:∃p,((l.take (16*k+16)).drop (16*k))[((l.take (16*k+16)).drop (16*k)).length-1]? =some p:=⟨_,Yi a8⟩;have hpq:=(a.2 _ _ _ x (by rw[L];exact w)).1;have hqs:=(t.2 q (List.mem_of_getLast? F)).1;have hqge:(cM ps k).1≤q.1:=by
   have:=(iQ (kV f k) w).1;have h0:=iQ (kV f k) (i:=0) (Yi a8);exact Ba (kV f k) q (List.mem_of_getLast? F)
  refine wk_ (qn_ (ws_ (wb_ (ws_ (wr_ (e_ mv (e_ mv (e_ mv (e_ iad (e_ mv (e_ lnn ?_)))))))))));refine e_ (lr rfl rfl) ?_;refine mC H rfl (16*k) (min (16*k+16) l.length) ⟨_,_,rfl,(aQ)⟩ ⟨_,_,rfl,(aQ)⟩ a8 aY rfl (λsb V=>?_);rw[x9]at V;refine go ?_;refine c2_ rfl (HH a.tail.tail (kV f k) t a8 a8) ?_;rintro _ _ ⟨s63,rfl,rfl⟩;refine e_ asn (on_ (qn_ (ws_ (wr_ (e_ mv (e_ mv (e_ lnn (e_ isb (e_ (ixa (i:=((l.take (16*k+16)).drop (16*k)).length-1)) (e_ fle (e_ lfl (e_ asn (on_ ?_)))))))))))));refine qn_ (ws_ (wr_ (e_ mv (e_ mv (e_ mv (e_ isb ?_))))));refine e_ (evq isb (congrArg (Value.int .i64) (show _=((dZ (cM ps k).1 (dg ps k)-1-(cM ps k).1:Nat):Int)from a8))) ?_;refine e_ ((ab)) ?_;refine d2_ rfl (eH _ a8 ai) ?_;have hu1:=eA (n:=dZ (cM ps k).1 (dg ps k)-1-(cM ps k).1) (k:=6) a8 a8;refine on_ (qn_ (ws_ (wr_ (e_ mv (e_ mv (e_ lnn ?_))))));refine e_ ((ab)) ?_;refine d2_ rfl (eH _ a8 ai) (go ?_);refine d2_ rfl (zh a8 a8) (on_ (qn_ (wr_ (e_ mv (e_ asn (on_ (bn_ (qn_ (wr_ ?_)))))))));rw[show hd++(cM ps k).2.1++uv (dZ (cM ps k).1 (dg ps k)-1-(cM ps k).1)++uv (kc (cM ps k).1 (dg ps k)).length=hd++(cM ps (k+1)).2.1 from by simp[cM],show(cM ps k).2.2++kc (cM ps k).1 (dg ps k)=(cM ps (k+1)).2.2 from rfl];rw[show(U.1:Int)=(((cM ps (k+1)).1:Nat):Int)-1 from by rw[show(cM ps (k+1)).1=dZ (cM ps k).1 (dg ps k)from rfl];omega,show((16*k:Nat):Int)+16=((16*(k+1):Nat):Int)from a8];refine go ?_;refine lN (k+1) ?_
  try dsimp only
  omega
 obtain rfl:k=dC ps:=by unfold dC at*;omega
 obtain⟨N,E,M⟩:=C (dC ps);rw[mU]at E;refine go ?_;refine c1_ rfl (iW ai) ?_;rintro _ _ ⟨s88,rfl,rfl⟩;refine go ?_;refine c1_ rfl (iW a8) ?_;rintro _ _ ⟨s90,rfl,rfl⟩;refine s_ (uC eSV rfl rfl rfl) ?_;rintro _ _ ⟨s91,rfl,rfl⟩;refine c1_ rfl (Jk (xs:= [hd++(cM ps (dC ps)).2.1,(cM ps (dC ps)).2.2]) GZ ak aH) ?_;rintro _ _ ⟨J,rfl,rfl⟩;rw[show [hd++(cM ps (dC ps)).2.1,(cM ps (dC ps)).2.2].flatten=dD ps from by rw[r,z];simp[dD]];refine gR ?_;exact⟨_,hsb,J,rfl,rfl⟩
end
end Go.Sx
