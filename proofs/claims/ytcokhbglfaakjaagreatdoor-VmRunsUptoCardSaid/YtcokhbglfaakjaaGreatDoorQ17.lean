import Derived.Test.YtcokhbglfaakjaaGreatDoorQ13
set_option linter.all false
set_option maxHeartbeats 0
namespace Go.Sx
open Go Go.Proofs Tryz
set_option maxRecDepth 100000
section
variable {h i:Nat}{hs:Hs}{x:Operand}
section
variable {G:dJ}{P:Program}{t:Tm}{H:dD}{dst:Option Tmp}{ty:TypeId}{pos:String}{after:Array Edge}{g:Option (Nat×Bool)}
theorem vZ {T U:TypeId}{y:Operand}{a b:Bool} [hT:Und P T .bool] (hx:evo t x=some (.bool a)) (hy:evo t y=some (.bool b)):Ev G P ⟨dst,.binOp .neq T x y U,ty,pos,after,g⟩ t H (.bool (a !=b)):=fun ρ hρ w _=>by
 have h2:=jX (P:=P) (w:=w) (T:=T) (x:=.bool a) (y:=.bool b) (r:=(a==b)) (λd=>aI);simp[execOp,hρ _ _ hx,hρ _ _ hy,eqGuard,binOp,h2,bne]
theorem PM {y z:Operand}{d:Array TypeId}{k:IntKind}{a b c:Int}(hx:evo t x=some (.int k a)) (hy:evo t y=some (.int k b)) (f:evo t z=some (.int k c)):
 Ev G P ⟨dst,.call ⟨.builtin .max, #[x,y,z],d⟩,ty,pos,after,g⟩ t H (.int k (max (max a b) c)):=
 fun ρ hρ w _=>by
  have e:∀a b:Int,(if b > a then b else a)=max a b:=λa b=>by rw[Int.max_def];split <;> split <;> omega
  simp[execOp,resolve,invoke,builtin,Builtin.max_,Builtin.max2,hρ _ _ hx,hρ _ _ hy,hρ _ _ f,e]
theorem yQ {T E U:TypeId} [hT:Und P T (.slice E)] (hx:evo t x=some (.slice none 0 0)):Ev G P ⟨dst,.binOp .eql T x (.const (.slice none 0 0)) U,ty,pos,after,g⟩ t H (.bool true):=
 fun ρ hρ w hw=>by
  have h1:=ie (P:=P) (op:=.eql) (T:=T) (x:=x) (y:=.const (.slice none 0 0)) (w:=w) (a:=.slice none 0 0) (b:=.slice none 0 0) (.inr rfl) (λc h=>bx);have h2:=jX (P:=P) (w:=w) (T:=T) (x:=.slice none 0 0) (y:=.slice none 0 0) (r:=true) (λd=>by simp only[Op.equalIn,Sem.run_bind,ef (T:=T),Result.andThen_ok,Sem.run_pure,Option.isNone_none]);have h5:(binOp .eql T (.slice none 0 0) (.slice none 0 0)).run P w=.ok (.bool true) w:=by
   simp only[binOp,Sem.run_bind,h2,Result.andThen_ok,Sem.run_pure]
  simp only[execOp,hρ _ _ hx,hρ (.const (.slice none 0 0)) _ rfl,Sem.run_bind,h1,Result.andThen_ok,h5,Sem.run_pure]
end
def ohI:Option Nat→Int
 |none=>-1
 |some h=>(h:Int)
abbrev hsI (hs:Hs):List Int:=hs.map ohI
theorem pV (hi:i<hs.length):(hsI hs)[i]? =some (ohI (hs.getD i none)):=by
 rw[Xd,Xj,Yi hi];all_goals rfl
theorem wy:(hsI hs).set i (h:Int)=hsI (hs.set i (some h)):=by
 rw[hsI,hsI,R9];all_goals rfl
theorem tU {a:Hs}(he:kD hs i h=some a):a.length=hs.length:=by
 unfold kD at he
 split at he
 ·cases he;exact Ub
 ·split at he
  ·cases he;rfl
  ·cases he
theorem uc (hi:i<hs.length):(hs.set i (some h)).getD i none=some h:=by
 rw[Xj,Ue hi];all_goals rfl
theorem QI {G:dJ}{H R:dD}{sl:SV}{b:Nat} [hb:dQ R b [sl.val]] [hr:mh H sl eI (hsI hs) R] (hi:i<hs.length):SC G prog 127 [iN i,iN h,pA b] H (λv g=>((∃d,kD hs i h=some d∧v=.bool true∧g=Row sl eI (hsI d)::R)∨(kD hs i h=none∧v=.bool false∧g=R))):=by
 refine SC.less (gi hr dH.refl) ?_;have f:i<(hsI hs).length:=by rw[Yh];exact hi
 refine sWk func127 ?_;refine ws_ (wr_ (e_ asn (on_ (qn_ (ws_ (ws_ (wr_ (e_ ldv (e_ mv (e_ ixa (e_ (lel (hy:=pV hi)) (go ?_))))))))))));refine gW (λh1=>?_) λh1=>?_
 ·obtain hno:hs.getD i none=none:=by
   have h9:=h1;cases hc:hs.getD i none with
   |none=>rfl
   |some q=>rw[hc,ohI]at h9;omega
  have c:=uc (h:=h) hi;have a:i<(hs.set i (some h)).length:=by rw[Ub];exact hi
  have hil3:i<(hsI (hs.set i (some h))).length:=by rw[Yh];exact a
  refine go ?_;refine s_ (et rfl rfl bH f) ?_;rintro _ _ ⟨rfl,rfl⟩;rw[wy];refine on_ (qn_ (ws_ (wr_ (e_ ldv (e_ mv (e_ ixa (e_ (lel (hy:=(pV a).trans (by rw[c,ohI]))) (go ?_))))))));refine rT (k:=?_);exact⟨_,hsb,.inl ⟨_,by rw[kD,hno],by simp[jt],rfl⟩⟩
 obtain⟨q,e⟩:∃q,hs.getD i none=some q:=by
  have h9:=h1;cases hc:hs.getD i none with
  |none=>rw[hc,ohI]at h9;exact absurd ae h9
  |some q=>exact⟨q,rfl⟩
 refine wk_ (qn_ (ws_ (wr_ (e_ ldv (e_ mv (e_ ixa (e_ (lel (hy:=(pV hi).trans (by rw[e,ohI]))) (go ?_))))))));refine rT (k:=?_)
 by_cases hqh:q=h
 ·exact⟨_,hsb,.inl ⟨hs,by rw[kD,e];simp[hqh],by simp[jt,hqh],rfl⟩⟩
 ·exact⟨_,hsb,.inr ⟨by rw[kD,e];simp[hqh],by simp[jt];omega,rfl⟩⟩
end
section
variable {c:CuS}{cs:List CuS}{d:Int}{pss:List (List Po)}
def fdC (ps:List Po) (d:Int):Nat:=nP ps 0 d
def Beh (c:CuS) (d:Int):Prop:=c.u≤fdC c.ps d+1
theorem Beh.up {e:Int}(h:Beh c d) (hde:d≤e):Beh c e:=by
 obtain⟨a1,a2,a3,b⟩:=ya (ps:=c.ps) (u:=0) (t:=e) (Yl _);obtain⟨b1,b2,a,b4⟩:=ya (ps:=c.ps) (u:=0) (t:=d) (Yl _);have hb:c.u≤nP c.ps 0 d+1:=h;show c.u≤nP c.ps 0 e+1
 by_cases hlt:nP c.ps 0 e<nP c.ps 0 d
 ·have hl:nP c.ps 0 e<c.ps.length:=by omega
  have hp:=Yi hl;have h3:=a _ _ (Yl _) hlt hp;have h4:=b _ hp;omega
 ·omega
structure yU (pss:List (List Po)) (cs:List CuS) (d:Int):Prop where
 same:cs.map (·.ps)=pss
 beh:∀c∈cs,Beh c d
theorem yU.up {e:Int}(h:yU pss cs d) (a:d≤e):yU pss cs e:=⟨h.same,λc hc=>(h.beh c hc).up a⟩
theorem yU.start:yU pss (mn pss).cs d:=by
 refine⟨by simp[mn,Uo,Function.comp_def],λc hc=>?_⟩;obtain⟨ps,_,rfl⟩:=Xt.1 hc;exact Yl _
theorem yU.get (h:yU pss cs d) (k:Nat):Beh (cs.getD k fo) d:=by
 rw[Xj];cases hk:cs[k]? with
 |none=>exact Yl _
 |some c=>exact h.beh c (Yj hk)
theorem yU.set (h:yU pss cs d){k:Nat}(hp:c.ps=(cs.getD k fo).ps) (hc:Beh c d):yU pss (cs.set k c) d:=by
 refine⟨?_,λx hx=>?_⟩
 ·rw[←h.same,R9];refine Vz λj=>?_;rw[Vf]
  by_cases e:k=j
  ·subst e;rw[if_pos rfl,Yh]
   by_cases hk:k<cs.length
   ·rw[if_pos hk,Xd,hp,Xj,Yi hk];all_goals rfl
   ·rw[if_neg hk,Xd,Xz a8];all_goals rfl
  ·rw[if_neg e]
 ·rcases R6 hx with hx|rfl
  ·exact h.beh x hx
  ·exact hc
end
section
variable {G:dJ}{H:dD}{c:CuS}{ps:List Po}{s:SV}
abbrev rcV (s:SV) (c:CuS):List Value:= [s.val,.int .i64 (((c.u:Nat):Int)-1),.int .i64 ((c.mv:Nat):Int),.bool c.told]
def eRc:Enc (SV×CuS):=⟨λp=>rcV p.1 p.2,4,true,λ_=>rfl,λp v h=>by simp at h;rcases h with rfl|rfl|rfl|rfl <;> rfl,ae,λh=>aK,ae⟩
instance {p:SV×CuS}:kV eRc p (.agg (rcV p.1 p.2).toArray):=⟨rfl⟩
instance {s:SV}{c:CuS}:gP eRc (.agg (rcV s c).toArray) (s,c):=⟨rfl⟩
def gV (H:dD) (s:SV) (ps:List Po):Prop:=∃l,Sl H s ePo l∧su H l ps
theorem gV.less {H':dD}(hs:dH H' H) (h:gV H s ps):gV H' s ps:=by
 obtain⟨l,h1,h2,h3⟩:=h;exact⟨l,ee hs h1,h2,λi p q hp a=>⟨(h3 i p q hp a).1,ee hs (h3 i p q hp a).2⟩⟩
theorem WJ {s:SV}{c:CuS}{q:Nat}:rcV s (goC c q)= [s.val,.int .i64 ((q:Nat):Int),.int .i64 (((c.mv:Nat):Int)+((mvG c.ps.length c.u q:Nat):Int)),.bool false]:=by
 have h1:(((q+1:Nat)):Int)-1=((q:Nat):Int):=a8
 have h2:((c.mv+mvG c.ps.length c.u q:Nat):Int)=((c.mv:Nat):Int)+((mvG c.ps.length c.u q:Nat):Int):=a8
 show [s.val,.int .i64 (((q+1:Nat):Int)-1),.int .i64 ((c.mv+mvG c.ps.length c.u q:Nat):Int),.bool false]=_
 rw[h1,h2]
theorem SO:SC G prog 35 [s.val] H (λv a=>v=.agg (rcV s ⟨ps,0,0,false⟩).toArray∧a=H):=by
 refine sWk func35 ?_;refine gk (k:=alc (k:=λb2=>?_));refine on_ (qn_ (ws_ (wr_ (e_ mv (e_ (bld [(0,_),(1,_)]) (gR ?_))))));exact⟨_,hsb,rfl,rfl⟩
theorem Cy (hp:gV H s c.ps) (h:c.u≤c.ps.length+1) (hn:c.ps.length≤1000000000):SC G prog 104 [.agg (rcV s c).toArray] H (λv j=>v=.int .i64 (gz c.ps c.u)∧j=H):=by
 obtain⟨l,g,a⟩:=hp;have hpl:=a.1;obtain⟨ps,u,mv,told⟩:=c;simp only at g a hpl h hn;dsimp only[rcV];refine sWk func104 ?_;refine gk (k:=bxx (k:=λb1=>?_));refine gW (λh1=>?_) λh1=>?_
 ·obtain rfl:u=0:=by have h9:=h1;omega
  exact gZ
 obtain⟨k,rfl⟩:∃k,u=k+1:=⟨u-1,ao⟩;refine gW (λh2=>?_) λh2=>?_
 ·obtain rfl:k=ps.length:=by have h9:=h2;omega
  refine gR ?_;exact⟨_,hsb,by rw[yq];all_goals rfl,rfl⟩
 obtain⟨sp,pos,e,b,hsq⟩:=a.get (i:=k) aw;have f:=Hf b;generalize (ps.getD k (0, [])).1=d at e b f;refine wk_ (qn_ (ws_ (wr_ (e_ fla (e_ ldv (e_ fla (e_ ldv (e_ (ixa (i:=k) (hj:=by omega)) (e_ fle (e_ (lfl (hy:=e)) (go ?_)))))))))));refine gR ?_;exact⟨_,hsb,by rw[f];all_goals rfl,rfl⟩
theorem WY {u q n:Nat}(hu:u≤q) (hq:q≤n) (hn:n≤1000000000):SC G prog 240 [.int .i64 (((u:Nat):Int)-1),iN q,iN n] H (λv b=>v=iN (mvG n u q)∧b=H):=by
 refine sWk func240 ?_;refine ws_ (wr_ (e_ asn (on_ (qn_ (ws_ (wr_ (e_ mv ?_)))))));refine e_ (evq iad (congrArg (Value.int .i64) (show _=(u:Int)from a8))) ?_;refine gW (λh1=>?_) λh1=>?_
 ·have a:q=n:=by have h9:=h1;omega
  refine gW (λh2=>?_) λh2=>?_
  ·have hm:mvG n u q=1:=by unfold mvG;rw[if_neg a8,if_neg a8,if_pos aw]
   refine gR ?_;exact⟨_,hsb,by rw[hm];all_goals rfl,rfl⟩
  have hm:mvG n u q=(n+15)/16-u/16+1:=by unfold mvG;rw[if_neg a8,if_neg a8,if_neg aw]
  refine wk_ (qn_ (ws_ (wr_ (e_ mv (e_ iad ?_)))));refine e_ (evq isb (congrArg (Value.int .i64) (show _=((n+15:Nat):Int)from a8))) ?_;refine e_ (fX rfl rfl (n+15) 16 rfl rfl ae ai) ?_;refine e_ mv ?_;refine e_ (fX rfl rfl u 16 rfl rfl ae ai) ?_;refine gR ?_;exact⟨_,hsb,cK,rfl⟩
 have a:q<n:=ao;refine wk_ (qn_ (ws_ (ws_ (wr_ (e_ mv ?_)))));refine e_ (fX rfl rfl u 16 rfl rfl ae ai) ?_;refine e_ mv ?_;refine e_ (fX rfl rfl q 16 rfl rfl ae ai) ?_;refine gW (λh3=>?_) λh3=>?_
 ·have hm:mvG n u q=q+1-u:=by unfold mvG;rw[if_pos ⟨a,aD⟩]
  refine gR ?_;exact⟨_,hsb,cK,rfl⟩
 have hm:mvG n u q=q/16-u/16+q%16+1:=by unfold mvG;rw[if_neg aD,if_pos a]
 refine wk_ (qn_ (ws_ (wr_ (e_ mv ?_))));refine e_ (fX rfl rfl q 16 rfl rfl ae ai) ?_;refine e_ mv ?_;refine e_ (fX rfl rfl u 16 rfl rfl ae ai) ?_;refine e_ isb (e_ mv ?_);refine e_ (mw rfl rfl q 16 rfl rfl ae) ?_;refine gR ?_;exact⟨_,hsb,cK,rfl⟩
theorem ZB {q:Nat}(hp:gV H s c.ps) (h1:c.u≤q) (h2:q≤c.ps.length) (hn:c.ps.length≤1000000000) (hm:c.mv≤1000000000000):SC G prog 204 [.agg (rcV s c).toArray,iN q] H (λv d=>v=.agg (rcV s (goC c q)).toArray∧d=H):=by
 obtain⟨l,hsl,b⟩:=hp;have hpl:=b.1;have hmv:=EM h1 h2;refine sWk func204 ?_;refine gk (k:=bxx (k:=λa=>?_));refine alc (k:=λb4=>?_);refine go ?_;refine wD [14] (λk H=>(k=1→dQ H a (rcV s c))∧(k=4→dQ H a (rcV s c))∧(k=6→dQ H a (rcV s c))∧(k=9→dQ H a (rcV s c))∧(k=10→Sl H s ePo l)) (aF 0 (k:=?_));refine aN 1 rfl (λH hH=>ah) ?_;refine aF 2 (k:=aF 3 (k:=?_));refine aN 4 rfl (λH hH=>ar) ?_;refine aF 5 (k:=?_);refine aN 6 rfl (λH hH=>aL) ?_;refine aF 7 (k:=aF 8 (k:=?_));refine aN 9 rfl (λH hH=>by have hN:=hH.2.2.2.1 rfl;exact ldv) ?_;refine aN 10 rfl (λH hH=>by have hN:=hH.2.2.2.2 rfl;exact evq lnn (congrArg (λn:Nat=>iN n) hpl)) ?_;refine dS 11 rfl rfl aa rfl (λH hH=>v3_ (WY h1 h2 hn)) ?_;refine aF 12 (k:=af_ 13 (q:=ea λH hH=>bld [(0,_),(1,_),(2,_)]) (k:=?_));refine aS 14 rfl (ej rfl rfl rfl) ?_;rintro _ _ ⟨rfl,rfl⟩;refine aZ (gR ?_);exact⟨_,hsb,by rw[WJ];all_goals rfl,rfl⟩
theorem XA {t:Int}(hp:gV H s c.ps) (b:jU c):SC G prog 152 [.agg (rcV s c).toArray,.int .i64 t] H (λv K=>v=.agg (rcV s (jK c t)).toArray∧K=H):=by
 obtain⟨l,e,a⟩:=hp;have hpl:=a.1;have J:=b.at_;have hn:=b.small.1;have hmv:=b.mvle;have hpa:∀R,gV (Vr R (rcV s c)::H) s c.ps:=λR=>⟨l,inferInstance,a.1,λi p q hp E=>⟨(a.2 i p q hp E).1,ee (dH.drop dH.refl) (a.2 i p q hp E).2⟩⟩;refine sWk func152 ?_;refine gk (k:=bxx (k:=λb2=>?_));refine alc (k:=λb4=>?_);refine go ?_;refine d1_ rfl (Cy (gV.less hsb ⟨l,e,a⟩) J a8) (gk (k:=ep 7 17 (k:=λh1=>gk (k:=edq)) (q:=gW (λh2=>?_) (λh2=>?_))))
 ·have hA:jK c t=c:=by unfold jK;rw[if_pos aw]
  refine gR ?_;exact⟨_,hsb,by rw[hA];all_goals rfl,rfl⟩
 have hA:jK c t=goC c (nP c.ps c.u t):=by unfold jK;rw[if_neg aw]
 have r:c.u≤c.ps.length:=aw;refine wk_ (qn_ (ws_ (wr_ (e_ fla (e_ ldv ?_)))));refine e_ (evq iad (congrArg (Value.int .i64) (show _=(c.u:Int)from a8))) ?_;refine gk (k:=e8 Nat (λy=>c.u≤y∧y≤c.ps.length∧∀j p,c.u≤j→j<y→c.ps[j]? =some p→((p.1:Nat):Int)<t) (λy=>[(5,iN y)]) [(1,_),(2,_),(4,_)] (λy=>[]) _ (λy=>c.ps.length-y) c.u (h0:=?_) (k:=?_))
 ·exact⟨Xl _,r,λj p h8 h9=>a8⟩
 rintro q ⟨m,h,g⟩
 try dsimp only[Yd,Ye]at*
 obtain⟨n,B,C,d⟩:∃(n:Nat) (B:SV) (C:List Nat),q<c.ps.length→l[q]? =some (n,B)∧c.ps[q]? =some (n,C):=by
  rcases Us q c.ps.length with h8|h8
  ·obtain⟨F,pos,x,u,_⟩:=a.get (i:=q) a8;exact⟨_,F,pos,λ_=>⟨x,u⟩⟩
  ·exact⟨0,SV.nil, [],λh9=>a8⟩
 refine gk (k:=dV 9 36 (c:=decide (((n:Nat):Int)<t)) (k:=λh4=>?_) (q:=?_))
 ·have w:=(d aJ).1;refine eg_ fla (eg_ ldv (eg_ mv (eg_ ixa (eg_ fle (eg_ (lfl (hy:=w)) (gk (k:=edq)))))))
 refine gW (λh5=>?_) λh5=>?_
 ·have f:=(d aW).2;refine go ?_;refine lN (q+1) ?_
  try dsimp only
  exact⟨a8,a8,λj p h8 h9 hj=>by
   rcases Uq (V9 h9)with A|rfl
   ·exact g j p h8 A hj
   ·rw[f]at hj;cases hj;omega⟩
 have z:nP c.ps c.u t=q:=Fj m h g λp hp=>by
  have A:=(Yk.1 hp).1;rw[(d A).2]at hp;cases hp;have h9:=h5;omega
 refine go ?_;refine d2_ rfl (ZB (q:=q) (gV.less hsb ⟨l,e,a⟩) m h a8 a8) (gR ?_);exact⟨_,hsb,by rw[hA,z];all_goals rfl,rfl⟩
theorem EB {R:dD}(n:dH H R) (hp:gV R s c.ps) (hu:c.u≤c.ps.length+1) (hn:c.ps.length≤1000000000):SC G prog 206 [.agg (rcV s c).toArray] H (λv p=>(∃j:SV,v=j.val∧Sl R j eI (dT (fj c)))∧p=H):=by
 obtain⟨l,a,b⟩:=hp;have hpl:=b.1;haveI hsl:Sl H s ePo l:=ee n a;haveI d:Sl R SV.nil eI []:=⟨λL hL=>⟨rfl,Xl _,.inl ⟨rfl,rfl⟩⟩⟩;refine sWk func206 ?_;refine gk (k:=bxx (k:=λb1=>?_));refine gk (k:=ep 7 13 (k:=λh1=>gk (k:=edq)) (q:=gW (λh2=>?_) (λh2=>?_)))
 ·have h:fj c= []:=pW aw;refine gR ?_;exact⟨_,hsb,⟨SV.nil,rfl,by rw[h];exact d⟩,rfl⟩
 obtain⟨k,hk⟩:∃k,c.u=k+1:=⟨c.u-1,aw⟩;obtain⟨m,pos,g,f,e⟩:=b.get (i:=k) aw;have h:=r8 hk f;refine wk_ (qn_ (ws_ (wr_ (e_ fla (e_ ldv (e_ fla (e_ ldv (e_ (ixa (i:=k) (hj:=by omega)) (e_ fle (e_ (lfl (hy:=g)) (go ?_)))))))))));refine gR ?_;exact⟨_,hsb,⟨m,rfl,by rw[h];exact e⟩,rfl⟩
theorem WQ (hp:gV H s c.ps) (a:jU c) (f:fj c≠ []):SC G prog 207 [.agg (rcV s c).toArray] H (λv h=>v=.agg (rcV s (jD c)).toArray∧h=H):=by
 have hmv:=a.mvle;have b:=a.pos.mvle;have hn:=a.small.1;refine sWk func207 ?_;refine gk (k:=bxx (k:=λg=>?_));refine alc (k:=λb2=>?_);refine gW (λh1=>?_) λh1=>?_
 ·have d:c.told=false:=by have h9:=h1;simpa using h9
  have hA:jD c=⟨c.ps,c.u,c.mv+(fj c).length,true⟩:=by unfold jD;rw[if_neg (by rw[d];rintro(h9|h9);cases h9;exact f h9)]
  have hmv3:c.mv+(fj c).length≤100100001:=by rw[hA]at b;exact b
  have hil:=eJ (fj c);refine go ?_;refine wD [3,4,7] (λk H=>(k=1→dQ H g (rcV s c))∧(k=2→dQ H g (rcV s c))) (aF 0 (k:=?_));refine aN 1 rfl (λH hH=>ah) (go ?_);refine aS 3 rfl (lU (vs:= [_]) rfl (EB (R:=H) hsb hp a.at_ a8)) ?_;rintro _ _ ⟨⟨sh,rfl,e⟩,rfl⟩;haveI:=e;refine aS 4 rfl (Ev.st lnn) ?_;rintro _ _ ⟨rfl,rfl⟩;refine go ?_;refine aS 7 rfl (ej rfl rfl rfl) ?_;rintro _ _ ⟨rfl,rfl⟩;refine aZ (go ?_);refine rT (k:=?_);exact⟨_,hsb,by rw[hA];exact congrArg (λz=>Value.agg #[s.val,.int .i64 (((c.u:Nat):Int)-1),.int .i64 z,.bool true]) (by show _=((c.mv+(fj c).length:Nat):Int);omega),rfl⟩
 have d:c.told=true:=bg;have hA:jD c=c:=by unfold jD;rw[if_pos (.inl d)]
 refine gR ?_;exact⟨_,hsb,by rw[hA];all_goals rfl,rfl⟩
end
section
variable {G:dJ}{H:dD}
theorem EC {n:Nat}:SC G prog 276 [iN n] H (λv a=>v=uN (fm n)∧a=H):=by
 refine sWk func276 ?_;refine gW (λh1=>?_) λh1=>?_
 ·exact absurd h1 a8
 refine gW (λh2=>?_) λh2=>?_
 ·have hc:fm n=1048576:=by have h9:=h2;unfold fm;omega
  refine gR ?_;exact⟨_,hsb,by rw[hc];all_goals rfl,rfl⟩
 have hc:fm n=n:=by have h9:=h2;unfold fm;omega
 refine wk_ (qn_ (ws_ (wr_ (e_ mv ?_))));refine e_ (dW 18446744073709551616 rfl rfl rfl n rfl a8) ?_;refine gR ?_;exact⟨_,hsb,by rw[hc];all_goals rfl,rfl⟩
theorem Kk {c a s b:Nat}(hu:0<a) (h1:s*a≤c) (h2:c<(s+2*b)*a):(if(s+b)*a≤c then s+b else s)*a≤c∧c<((if(s+b)*a≤c then s+b else s)+b)*a:=by
 split
 ·rename_i h;exact⟨h,by rw[show s+b+b=s+2*b from a8];exact h2⟩
 ·rename_i h;exact⟨h1,a8⟩
theorem ZC {f l a:Nat}:SC G prog 241 [iN f,iN l,iN a] H (λv K=>v=uN (Co f l a)∧K=H):=by
 obtain⟨F,B⟩:=ex (fm f);obtain⟨L,hL⟩:=ex (fm l);obtain⟨A,hA⟩:=ex (max (fm a) 1);have z:F≤1048576:=by rw[B];unfold fm;omega
 have hLb:L≤1048576:=by rw[hL];unfold fm;omega
 have C:1≤A∧A≤1048576:=by rw[hA];unfold fm;omega
 have hFA:F*A≤1048576*1048576:=Uv z C.2;obtain⟨g,d⟩:=ex (10240*F*A);obtain⟨b,c⟩:=ex (10*F*A+3*A+9*L);have hov2:g=10240*(F*A):=by rw[d,V3]
 have hun2:b=10*(F*A)+3*A+9*L:=by rw[c,V3]
 have s:0<b:=a8;have hub:b≤20000000000000:=a8;have hlt:g<(0+2*1024)*b:=a8;have p:Co f l a=g/b:=by rw[d,c,B,hL,hA];all_goals rfl
 refine sWk func241 ?_;refine go ?_;refine d1_ rfl EC (go ?_);refine d1_ rfl EC (go ?_);refine d1_ rfl EC (e_ asn (e_ asn (e_ asn (on_ (qn_ (iu Nat (λy=>y=A) (λy=>[(9,uN y)]) [9,20,21] ?_ ?_))))))
 ·refine gW (λh1=>?_) λh1=>?_
  ·have m:A=1:=by have h9:=h1;rw[hA];omega
   refine gk (k:=jnE (1) (q:=?_));exact m.symm
  have m:fm a=A:=by have h9:=h1;rw[hA];omega
  refine gk (k:=jnE (fm a) (q:=?_));exact m
 rintro A2 E
 try dsimp only[Yd,Ye]at*
 rw[E];rw[←B,←hL];refine ws_ (wr_ (e_ mv ?_));refine e_ (k8 rfl rfl 10240 F rfl rfl a8) ?_;refine e_ mv ?_;refine e_ (evq (k8 rfl rfl (10240*F) A rfl rfl (by rw[←d];omega)) (congrArg (λn:Nat=>uN n) d.symm)) ?_;refine e_ mv ?_;refine e_ (k8 rfl rfl 10 F rfl rfl a8) ?_;refine e_ mv ?_;refine e_ (k8 rfl rfl (10*F) A rfl rfl (by rw[V3];omega)) ?_;refine e_ mv ?_;refine e_ (k8 rfl rfl 3 A rfl rfl a8) ?_;refine e_ (jo 18446744073709551616 rfl rfl rfl rfl (10*F*A) (3*A) rfl rfl (by rw[V3];omega)) ?_;refine e_ mv ?_;refine e_ (k8 rfl rfl 9 L rfl rfl a8) ?_;refine e_ (evq (jo 18446744073709551616 rfl rfl rfl rfl (10*F*A+3*A) (9*L) rfl rfl (by rw[←c];omega)) (congrArg (λn:Nat=>uN n) c.symm)) (go ?_);refine gk (k:=e8 (Nat×Nat) (λy=>y.1≤11∧y.2*b≤g∧g<(y.2+2^y.1)*b∧y.2≤2048) (λy=>[(12,uN y.2),(13,uN (2^y.1/2))]) [(10,_),(11,_)] (λy=>[]) _ (λy=>y.1) ((11,0)) (h0:=?_) (k:=?_))
 ·exact⟨Xl _,a8,a8,a8⟩
 rintro⟨k,h⟩ ⟨hk,t,i,hs3⟩
 try dsimp only[Yd,Ye]at*
 refine gW (λh2=>?_) λh2=>?_
 ·obtain⟨k,rfl⟩:∃j,k=j+1:=⟨k-1,by have h9:=h2;rcases k with _|k;simp at h9;omega⟩;have u:2^(k+1)/2=2^k:=by rw[Nat.pow_succ];omega
  have hpb:2^k≤2^10:=X0 ae a8;rw[u];rw[show(2:Nat)^(k+1)=2*2^k by rw[Nat.pow_succ];omega]at i;have e:=Kk s t i;have hmb:(h+2^k)*b≤4096*20000000000000:=Uv a8 hub;refine wk_ (qn_ (iu Nat (λy=>y*b≤g∧g<(y+2^k)*b) (λy=>[(12,uN y)]) [12,40,41,42,43,44,45,46,47,48,49] ?_ ?_))
  ·refine wb_ (ws_ (wr_ (e_ mv (e_ mv ?_))));refine e_ (jo 18446744073709551616 rfl rfl rfl rfl h (2^k) rfl rfl a8) ?_;refine e_ mv ?_;refine e_ (k8 rfl rfl (h+2^k) b rfl rfl a8) ?_;refine gW (λh3=>?_) λh3=>?_
   ·rw[if_pos aD]at e;refine wr_ (e_ mv (e_ mv ?_));refine e_ (jo 18446744073709551616 rfl rfl rfl rfl h (2^k) rfl rfl a8) ?_;refine gk (k:=jnE (h+2^k) (q:=?_));exact e
   rw[if_neg aD]at e;refine gk (k:=jnE h (q:=?_));exact e
  rintro r ⟨x,w⟩
  try dsimp only[Yd,Ye]at*
  refine wr_ (e_ mv ?_);refine e_ (fX rfl rfl (2^k) 2 rfl rfl ae (by show _≤(18446744073709551615:Int);omega)) (go ?_);refine lN ((k,r)) ?_
  try dsimp only
  refine⟨a8,x,w,?_⟩;rcases Us 2048 r with h8|h8
  ·exfalso;have h7:2049*b≤r*b:=Uv a8 (Xl _);omega
  ·exact h8
 obtain rfl:k=0:=by
  have h9:=h2;rcases k with _|k
  ·rfl
  ·exfalso;have h8:0<2^k:=U3 k;rw[Nat.pow_succ]at h9;omega
 have J:g/b=h:=by
  rw[Nat.pow_zero]at i;exact Nat.div_eq_of_lt_le a8 a8
 refine gR ?_;exact⟨_,hsb,by rw[p,J];all_goals rfl,rfl⟩
end
end Go.Sx
