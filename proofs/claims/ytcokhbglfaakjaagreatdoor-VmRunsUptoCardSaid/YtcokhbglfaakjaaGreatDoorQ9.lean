import Derived.Test.YtcokhbglfaakjaaGreatDoorQ5
set_option linter.all false
set_option maxHeartbeats 0
namespace Go.Sx
open Go Go.Proofs Tryz
set_option maxRecDepth 100000
section
variable {G:dJ}{H:dD}{l:List ByteArray}{q:ByteArray}{s:SV}
theorem Sz [hs:Sl H s eS l] (hn:l.length≤1000000):SC G prog 335 [s.val,.string q] H (λv f=>∃k:Int,v=.int .i64 k∧(0≤k↔dC q∈l.map dC)∧f=H):=by
 refine sWk func335 ?_;refine go ?_;refine e8 Nat (λy=>y≤l.length∧∀j e,j<y→l[j]? =some e→¬dC q=dC e) (λy=>[(8,iN y)]) [(0,_),(1,_),(7,_)] (λy=>[]) _ (λy=>l.length-y) (0) (h0:=?_) (k:=?_)
 ·exact⟨Yl _,λj e hj=>absurd hj (Up _)⟩
 rintro i ⟨hi,a⟩
 try dsimp only[Yd,Ye]at*
 refine gW (λh1=>?_) λh1=>?_
 ·obtain⟨e,he⟩:=gE l i;refine wk_ (qn_ (ws_ (wb_ (ws_ (wr_ (e_ mv (e_ asn (on_ (qn_ (ws_ (wr_ (e_ mv (e_ mv ?_)))))))))))));refine gk (k:=e_ tH (on_ (qn_ (wi_ (k:=λh2=>?_) (m:=λh2=>?_)))))
  ·have hm:dC q∈l.map dC:=by rw[h2];exact Vj (Yj he)
   refine gR ?_;exact⟨_,hsb,_,rfl,⟨λ_=>hm,λ_=>a8⟩,rfl⟩
  have hno:=h2;refine go ?_;refine lN (i+1) ?_
  try dsimp only
  refine⟨a8,λj d hj b=>?_⟩
  by_cases e0:j=i
  ·subst e0;rw[he]at b;cases b;exact hno
  ·exact a j d a8 b
 refine gR ?_;refine⟨_,hsb,_,rfl,⟨λh=>by(exfalso;revert h;decide),λh=>?_⟩,rfl⟩;obtain⟨e,he,c⟩:=Xt.1 h;obtain⟨j,hj⟩:=Vh.1 he;have hjl:=(Yk.1 hj).1;exact absurd c.symm (a j e a8 hj)
theorem I5 [hs:Sl H s eS l] (hn:l.length≤1000000):SC G prog 334 [s.val,.string q] H (λv a=>v=.bool (decide (dC q∈l.map dC))∧a=H):=by
 refine sWk func334 ?_;refine go ?_;refine c2_ rfl (Sz hn) ?_;rintro _ _ ⟨k,rfl,hk,rfl⟩;refine gR ?_;exact⟨_,hsb,vb (by simp only[Xq];exact hk),rfl⟩
def jj:List ByteArray:=jA.map eG
theorem nS:jj.map dC=jA:=ax
theorem SL:SC G prog 235 [] H (λv b=>∃s:SV,v=s.val∧b=Row s eS jj::H):=by
 refine sWk func235 ?_;refine go ?_;refine s_ (ek eS jj bH rfl ax) ?_;rintro _ _ ⟨a,rfl,rfl⟩;refine gR ?_;exact⟨_,hsb,a,rfl,rfl⟩
theorem OI:SC G prog 197 [.string q] H (λv f=>v=.bool (decide (dC q∈jA))∧f=H):=by
 have hz:jj.length=42:=rfl;refine sWk func197 ?_;refine go ?_;refine c0_ rfl SL ?_;rintro _ _ ⟨s5,rfl,rfl⟩;refine gk (k:=e8 Nat (λy=>y≤jj.length∧∀j e,j<y→jj[j]? =some e→¬dC e=dC q) (λy=>[(7,iN y)]) [(0,_),(5,_),(6,_)] (λy=>[]) _ (λy=>jj.length-y) (0) (h0:=?_) (k:=?_))
 ·exact⟨Yl _,λj e hj=>absurd hj (Up _)⟩
 rintro i ⟨hi,a⟩
 try dsimp only[Yd,Ye]at*
 refine gW (λh1=>?_) λh1=>?_
 ·obtain⟨e,he⟩:=gE jj i;refine wk_ (qn_ (ws_ (wb_ (ws_ (wr_ (e_ ixa (e_ lel (e_ asn (on_ (qn_ (ws_ (wr_ (e_ mv ?_)))))))))))));refine gk (k:=e_ tH (on_ (qn_ (wi_ (k:=λh2=>?_) (m:=λh2=>?_)))))
  ·have hm:dC q∈jA:=by rw[←h2,←nS];exact Vj (Yj he)
   refine gR ?_;exact⟨_,hsb,by rw[Ys hm];all_goals rfl,rfl⟩
  have hno:=h2;refine go ?_;refine lN (i+1) ?_
  try dsimp only
  refine⟨a8,λj d hj b=>?_⟩
  by_cases e0:j=i
  ·subst e0;rw[he]at b;cases b;exact hno
  ·exact a j d a8 b
 have hm:¬dC q∈jA:=λh=>by
  rw[←nS]at h;obtain⟨e,he,c⟩:=Xt.1 h;obtain⟨j,hj⟩:=Vh.1 he;have hjl:=(Yk.1 hj).1;exact a j e a8 hj c
 refine gR ?_;exact⟨_,hsb,by rw[Yr hm];all_goals rfl,rfl⟩
end
section
variable {q:ByteArray}
instance:Str prog 389 [] []:=fg underlying389 Tw (λ_=>aa) rfl
instance:Str prog 392 [] []:=fg underlying392 Tu (λ_=>aa) rfl
inductive Stp where
 |fold
 |stop (s:SV)
 |stem
def Sq:Stp→Value
 | .fold=>.iface 389 (.agg #[])
 | .stop s=>.iface 391 (.agg #[s.val])
 | .stem=>.iface 392 (.agg #[])
def tc:Enc Stp:=⟨λp=>[Sq p],1,false,λ_=>rfl,λp v h=>by simp at h;subst h;cases p <;> rfl,ae,λ_=>rfl,ae⟩
instance {x:Stp}:kV tc x (Sq x):=⟨rfl⟩
instance:gP tc (.iface 389 (.agg [].toArray)) .fold:=⟨rfl⟩
instance:gP tc (.iface 392 (.agg [].toArray)) .stem:=⟨rfl⟩
instance {s:SV}:gP tc (.iface 391 (.agg [s.val].toArray)) (.stop s):=⟨rfl⟩
def mj:Stp→List Nat→Option (List Nat)
 | .fold,w=>some (kF w)
 | .stop _,w=>bif decide (w∈jA)then none else some w
 | .stem,w=>some (jM w)
def qD:List Stp→List Nat→Option (List Nat)
 | [],w=>some w
 |x::l,w=>match mj x w with
  |some u=>qD l u
  |none=>none
def vE (o:Option (List Nat)) (r:ByteArray) (b:Bool):Prop:=match o with
 |some u=>dC r=u∧b=true
 |none=>b=false
theorem zJ (q:ByteArray):∀x∈kF (dC q),x<256:=by
 intro x hx;rw[kF]at hx;obtain⟨i,_,rfl⟩:=Xt.1 hx;exact IG (lZ q) i
theorem Ww {G:dJ}{H:dD}(hq:q.size≤5000000):SC G prog 331 [.agg #[],.string q] H (λv a=>∃r b,v=.tuple #[.string r,.bool b]∧vE (some (kF (dC q))) r b∧a=H):=by
 refine sWk func331 ?_;refine gk (k:=bxx (k:=λb2=>?_));refine go ?_;refine d1_ rfl (Wg a8) (gR ?_);exact⟨_,hsb,_,_,rfl,⟨fD (zJ _),rfl⟩,rfl⟩
theorem Wv {G:dJ}{H:dD}(hq:q.size≤5000000):SC G prog 336 [.agg #[],.string q] H (λv c=>∃r b,v=.tuple #[.string r,.bool b]∧vE (some (jM (dC q))) r b∧c=H):=by
 refine sWk func336 ?_;refine gk (k:=bxx (k:=λb2=>?_));refine go ?_;refine c1_ rfl (W0 a8) ?_;rintro _ _ ⟨r1,rfl,a,rfl⟩;refine gR ?_;exact⟨_,hsb,_,_,rfl,⟨a,rfl⟩,rfl⟩
theorem Wu {G:dJ}{H:dD}{s:SV} [hs:Sl H s eS jj]:SC G prog 333 [.agg #[s.val],.string q] H (λv a=>∃r b,v=.tuple #[.string r,.bool b]∧vE (bif decide (dC q∈jA)then none else some (dC q)) r b∧a=H):=by
 refine sWk func333 ?_;refine gk (k:=bxx (k:=λb2=>?_));refine go ?_;refine d2_ rfl (I5 ae) (gR ?_);refine⟨_,hsb,_,_,rfl,?_,rfl⟩;rw[nS];cases h:decide (dC q∈jA) <;> simp[vE]
section
variable {G:dJ}{N:Nat}{Q:Post}{t:Tm}{H:dD}{ops:Array Oper}{dst:Option Tmp}{ty:TypeId}{pos:String}{after:Array Edge}{g:Option (Nat×Bool)}{l:List Oper}
theorem Sr {a y:Operand}{d:Array TypeId}{x:Stp}(hr:evo t a=some (Sq x)) (hx:evo t y=some (.string q)) (e:q.size≤5000000) (hs:∀s,x=.stop s→Sl H s eS jj):
 St G prog ⟨dst,.call ⟨.invoke a "concord/tokens.do", #[y],d⟩,ty,pos,after,g⟩ t H (λv h=>∃r b,v=.tuple #[.string r,.bool b]∧vE (mj x (dC q)) r b∧h=H):=by
 have c:ui t [y]=some [.string q]:=by simp[ui,hx]
 cases x with
 |fold=>exact uL (xs:= [y]) (ws:= [.agg #[],.string q]) (f:=331) hr c (λw=>aa) (Ww e)
 |stop s=>
  haveI:=hs s rfl;exact uL (xs:= [y]) (ws:= [.agg #[s.val],.string q]) (f:=333) hr c (λw=>aa) Wu
 |stem=>exact uL (xs:= [y]) (ws:= [.agg #[],.string q]) (f:=336) hr c (λw=>aa) (Wv e)
end
end
theorem SC.less {G:dJ}{P:Program}{f:FuncId}{args:List Value}{K:Value→dD→Prop}{H H':dD}(hs:dH H H') (h:SC G P f args H' K):SC G P f args H K:=h.heap λw a=>hs.sat a
section
variable {G:dJ}{P:Program}{t:Tm}{H:dD}{dst:Option Tmp}{ty:TypeId}{pos:String}{after:Array Edge}{g:Option (Nat×Bool)}
theorem PI {T U:TypeId}{x y:Operand}{i j:Int}(hx:evo t x=some (.int .i64 i)) (hy:evo t y=some (.int .i64 j)) (hp:0<j) (hl: -9223372036854775808≤i∧i≤9223372036854775807):
 Ev G P ⟨dst,.binOp .quo T x y U,ty,pos,after,g⟩ t H (.int .i64 (i.tdiv j)):=
 fun ρ hρ w _=>by
  have h0:¬(j=0):=a8;have e:IntKind.wrap .i64 (i.tdiv j)=i.tdiv j:=by
   refine kH ?_;have h1:(i.tdiv j).natAbs≤i.natAbs:=by rw[Int.natAbs_tdiv];exact Nat.div_le_self _ _
   by_cases hi:0≤i
   ·have h2:=Int.tdiv_nonneg hi (show 0≤j from a8);omega
   ·have h2:0≤(-i).tdiv j:=Int.tdiv_nonneg a8 a8;rw[Int.neg_tdiv]at h2;omega
  simp only[execOp,hρ _ _ hx,hρ _ _ hy,eqGuard,binOp,Op.intDiv];simp only[Sem.run_bind,Sem.run_pure,ne_eq,not_true_eq_false,↓reduceIte,h0,e];all_goals rfl
end
def j4:List Nat→Int→Option Int
 | [],v=>some v
 |d::l,v=>bif decide (48≤d)&&decide (d≤57)&&!decide (10*v-((d-48:Nat):Int)< -9223372036854775808)then j4 l (10*v-((d-48:Nat):Int))else none
def iI (w:List Nat):Option Int:=
 bif decide ((bif lz w [45]then w.drop 1 else w)= [])then none else
  match j4 (bif lz w [45]then w.drop 1 else w) 0 with
  |none=>none
  |some v=>bif lz w [45]then some v else bif decide (v= -9223372036854775808)then none else some (-v)
def Nd (o:Option Int) (v:Value):Prop:=match o with
 |some n=>v=.tuple #[.int .i64 n,.bool true]∧ -9223372036854775808≤n∧n≤9223372036854775807
 |none=>v=.tuple #[.int .i64 0,.bool false]
theorem vS {w:List Nat}{i:Nat}(hi:i<w.length) (v:Int):j4 (w.drop i) v=bif decide (48≤at0 w i)&&decide (at0 w i≤57)&&!decide (10*v-((at0 w i-48:Nat):Int)< -9223372036854775808)then j4 (w.drop (i+1)) (10*v-((at0 w i-48:Nat):Int))else none:=by
 rw[List.drop_eq_getElem_cons hi,j4];have e:w[i]=at0 w i:=by
  have:=uz hi;rw[Yi hi]at this;exact Xk this
 rw[e]
theorem Jz {v:Int}{d:Nat}(hv:v≤0) (hl: -9223372036854775808≤v) (hd:48≤d∧d≤57):v<((-9223372036854775808:Int)+((d-48:Nat):Int)).tdiv 10↔10*v-((d-48:Nat):Int)< -9223372036854775808:=by
 have e:((-9223372036854775808:Int)+((d-48:Nat):Int)).tdiv 10= -((9223372036854775808-((d-48:Nat):Int))/10):=by
  rw[show(-9223372036854775808:Int)+((d-48:Nat):Int)= -(9223372036854775808-((d-48:Nat):Int))from a8,Int.neg_tdiv,Int.tdiv_eq_ediv_of_nonneg a8]
 rw[e];omega
theorem Dv (q:ByteArray) (e:ByteArray) (he:dC e= [45]):dC (tf q e)=bif lz (dC q) [45]then(dC q).drop 1 else dC q:=by
 have a:e.size=1:=by have:=dI e;rw[he]at this;exact this.symm
 rw[tf,he,a];cases lz (dC q) [45]with
 |false=>rfl
 |true=>
  simp only[cond_true];rw[iV,←dI,Xn]
theorem RJ {G:dJ}{H:dD}{q:ByteArray}(hq:q.size≤1000000000):SC G prog 209 [.string q] H (λv t=>Nd (iI (dC q)) v∧t=H):=by
 obtain⟨u,r⟩:=ex (tf q ⟨#[45]⟩);have hub:dC u=bif lz (dC q) [45]then(dC q).drop 1 else dC q:=by rw[r];exact Dv q _ rfl
 have d:=dI u;have huz:u.size≤q.size:=by
  have hl:=dI q;rw[←d,hub];cases lz (dC q) [45] <;> simp only[cond_true,cond_false,Yo] <;> omega
 have b:iI (dC q)=bif decide (dC u= [])then none else match j4 (dC u) 0 with
  |none=>none
  |some v=>bif lz (dC q) [45]then some v else bif decide (v= -9223372036854775808)then none else some (-v):=by
  rw[iI,←hub];all_goals (cases j4 (dC u) 0 <;> rfl)
 refine sWk func209 ?_;refine go ?_;refine d2_ rfl (IX a8 ae) ?_;rw[←r];refine gk (k:=e_ tH (go ?_));refine wi_ (k:=λh1=>?_) (m:=λh1=>?_)
 ·have hN:iI (dC q)=none:=by rw[b,Ys (show dC u= []from h1)];all_goals rfl
  refine gR ?_;refine⟨_,hsb,?_,rfl⟩;rw[hN];exact rfl
 rw[Yr (show ¬dC u= []from h1)]at b;simp only[cond_false]at b;refine go ?_;refine gk (k:=e8 (Nat×Int) (λy=>y.1≤u.size∧j4 (dC u) 0=j4 ((dC u).drop y.1) y.2∧ -9223372036854775808≤y.2∧y.2≤0) (λy=>[(6,.int .i64 y.2),(18,iN y.1)]) [(4,_),(5,_),(17,_)] (λy=>[]) _ (λy=>u.size-y.1) ((0,0)) (h0:=?_) (k:=?_))
 ·exact⟨Yl _,rfl,ae,ae⟩
 rintro⟨i,a⟩ ⟨hi,hth,f,n⟩
 try dsimp only[Yd,Ye]at*
 refine gW (λh2=>?_) λh2=>?_
 ·have hd:=vS (w:=dC u) (i:=i) a8 a;refine go ?_;refine gk (k:=ep 5 30 (k:=λh3=>gk (k:=edq)) (q:=gW (λh4=>?_) (λh4=>?_)))
  ·have hN:iI (dC q)=none:=by
    rw[b,hth,hd,show(decide (48≤at0 (dC u) i)&&decide (at0 (dC u) i≤57))=false by simp only[Ua,Xy];omega];all_goals rfl
   refine gR ?_;refine⟨_,hsb,?_,rfl⟩;rw[hN];exact rfl
  have c:48≤at0 (dC u) i∧at0 (dC u) i≤57:=a8;have e:=Jz n f c;refine wk_ (qn_ (ws_ (wr_ (e_ mv (e_ mv (e_ ixs ?_))))));refine e_ (Bb 256 rfl rfl rfl rfl _ 48 rfl rfl a8 a8) ?_;refine e_ (ew rfl a8) ?_;refine e_ asn (on_ (qn_ (ws_ (ws_ (wr_ (e_ mv (e_ mv (e_ iad ?_))))))));refine e_ (PI rfl rfl ae a8) ?_;refine gW (λh5=>?_) λh5=>?_
  ·have hN:iI (dC q)=none:=by
    rw[b,hth,hd,Ys (e.1 a8)];simp
   refine gR ?_;refine⟨_,hsb,?_,rfl⟩;rw[hN];exact rfl
  have g:¬(10*a-((at0 (dC u) i-48:Nat):Int)< -9223372036854775808):=λh=>by have h2:=e.2 h;omega
  have l:j4 ((dC u).drop i) a=j4 ((dC u).drop (i+1)) (10*a-((at0 (dC u) i-48:Nat):Int)):=by
   rw[hd,Ys c.1,Ys c.2,Yr g];all_goals rfl
  refine go ?_;refine lN ((i+1,10*a-((at0 (dC u) i-48:Nat):Int))) ?_
  try dsimp only
  exact⟨a8,by rw[hth,l],a8,a8⟩
 have s:j4 (dC u) 0=some a:=by
  obtain rfl:i=u.size:=a8;rw[hth,←d,Vi];all_goals rfl
 rw[s]at b;simp only at b;refine gW (λh6=>?_) λh6=>?_
 ·rw[show lz (dC q) [45]=true from h6]at b;refine gR ?_;refine⟨_,hsb,?_,rfl⟩;rw[b];exact⟨rfl,f,a8⟩
 rw[show lz (dC q) [45]=false from h6]at b;simp only[cond_false]at b;refine gW (λp=>?_) λp=>?_
 ·rw[Ys (show a= -9223372036854775808 from p)]at b;refine gR ?_;refine⟨_,hsb,?_,rfl⟩;rw[b];exact rfl
 have j:=p;rw[Yr (show ¬a= -9223372036854775808 from j)]at b;refine wk_ (qn_ (ws_ (wr_ (e_ mv ?_))));refine e_ (Mq rfl a8) ?_;refine gR ?_;refine⟨_,hsb,?_,rfl⟩;rw[b];exact⟨rfl,a8,a8⟩
theorem YS (w:List Nat):lz w [45]=true↔0<w.length∧at0 w 0=45:=by
 cases w with
 |nil=>simp[lz]
 |cons a l=>simp[lz,at0]
theorem SM {G:dJ}{H:dD}{q:ByteArray}(hq:q.size≤1000000000):SC G prog 146 [.string q] H (λv F=>Nd (iI (dC q)) v∧F=H):=by
 have hl:=dI q;have p:=YS (dC q);obtain⟨u,l⟩:=ex (bif lz (dC q) [45]then q.extract 1 q.size else q);have hub:dC u=bif lz (dC q) [45]then(dC q).drop 1 else dC q:=by
  rw[l];cases lz (dC q) [45]with
  |false=>rfl
  |true=>simp only[cond_true];rw[iV,←hl,Xn]
 have c:=dI u;have huz:u.size≤q.size:=by
  rw[←c,hub];cases lz (dC q) [45] <;> simp only[cond_true,cond_false,Yo] <;> omega
 have b:iI (dC q)=bif decide (dC u= [])then none else match j4 (dC u) 0 with
  |none=>none
  |some v=>bif lz (dC q) [45]then some v else bif decide (v= -9223372036854775808)then none else some (-v):=by
  rw[iI,←hub];all_goals (cases j4 (dC u) 0 <;> rfl)
 refine sWk func146 ?_;refine gk (k:=dV 4 18 (k:=λh1=>gk (k:=edq)) (q:=?_));refine e_ (asv (v:=.bool (lz (dC q) [45])) rfl (vb (by rw[p];simp only[Xu,Xq];omega))) ?_;refine on_ (qn_ (ws_ (wr_ (e_ mv (e_ asn (on_ (qn_ (ld [(5,.string u)] [5,20,21,22] ?_ ?_))))))))
 ·refine gW (λh2=>?_) λh2=>?_
  ·rw[show lz (dC q) [45]=true from h2]at l;obtain rfl:u=q.extract 1 q.size:=l;have hq0:=p.1 h2;refine wr_ (e_ mv (e_ (I0 (a:=1)) (gk (k:=jne))))
  rw[show lz (dC q) [45]=false from h2]at l;obtain rfl:u=q:=l;refine gk (k:=jne)
 refine gW (λh3=>?_) λh3=>?_
 ·have hN:iI (dC q)=none:=by rw[b,Ys (show dC u= []from Uc a8)];all_goals rfl
  refine gR ?_;refine⟨_,hsb,?_,rfl⟩;rw[hN];exact rfl
 rw[Yr (show ¬dC u= []from λh=>by rw[h]at c;simp at c;omega)]at b;simp only[cond_false]at b;refine go ?_;refine gk (k:=e8 (Nat×Int×Bool) (λy=>y.1≤u.size∧(y.2.2=true→j4 (dC u) 0=j4 ((dC u).drop y.1) y.2.1)∧(y.2.2=false→j4 (dC u) 0=none)∧ -9223372036854775808≤y.2.1∧y.2.1≤0) (λy=>[(6,.int .i64 y.2.1),(7,.bool y.2.2),(8,iN y.1)]) [(4,_),(5,_)] (λy=>[]) _ (λy=>u.size-y.1) ((0,0,true)) (h0:=?_) (k:=?_))
 ·exact⟨Yl _,λ_=>rfl,λh=>(bx),ae,ae⟩
 rintro⟨i,a,f⟩ ⟨hi,hth,hno,A,z⟩
 try dsimp only[Yd,Ye]at*
 refine gW (λh4=>?_) λh4=>?_
 ·have hd:=vS (w:=dC u) (i:=i) a8 a;refine go ?_;refine gk (k:=ep 3 40 (k:=λh5=>gk (k:=edq)) (q:=gW (λh6=>?_) (λh6=>?_)))
  ·have hN:iI (dC q)=none:=by
    cases f with
    |false=>rw[b,hno rfl]
    |true=>rw[b,hth rfl,hd,show(decide (48≤at0 (dC u) i)&&decide (at0 (dC u) i≤57))=false by simp only[Ua,Xy];omega];all_goals rfl
   refine gR ?_;refine⟨_,hsb,?_,rfl⟩;rw[hN];exact rfl
  have n:48≤at0 (dC u) i∧at0 (dC u) i≤57:=a8;refine wk_ (qn_ (ws_ (wr_ (e_ mv ?_))));refine e_ (Bb 256 rfl rfl rfl rfl _ 48 rfl rfl a8 a8) ?_;refine e_ (ew rfl a8) ?_;refine gk (k:=ep 3 49 (k:=λh7=>gk (k:=edq)) (q:=gk (k:=ep 6 56 (k:=λh8=>gk (k:=edq)) (q:=go ?_))));refine wi_ (k:=λh9=>?_) (m:=λh9=>?_)
  ·have g:=h9;have s:j4 (dC u) 0=none:=by
    cases f with
    |false=>exact hno rfl
    |true=>
     have h3:10*a-((at0 (dC u) i-48:Nat):Int)< -9223372036854775808:=by
      simp at g;omega
     rw[hth rfl,hd,Ys h3];simp
   refine go ?_;refine lN ((i+1,a,false)) ?_
   exact⟨a8,λh=>(bx),λ_=>s,A,z⟩
  obtain⟨⟨g,hz1⟩,hz2⟩:=h9;have r:¬(10*a-((at0 (dC u) i-48:Nat):Int)< -9223372036854775808):=a8;have x:j4 ((dC u).drop i) a=j4 ((dC u).drop (i+1)) (10*a-((at0 (dC u) i-48:Nat):Int)):=by
   rw[hd,Ys n.1,Ys n.2,Yr r];all_goals rfl
  have hf2:f=true:=by simpa using g
  refine go ?_;refine lN ((i+1,10*a-((at0 (dC u) i-48:Nat):Int),f)) ?_
  try dsimp only
  exact⟨a8,λh=>by rw[hth h,x],hno,a8,a8⟩
 have B:f=true→j4 (dC u) 0=some a:=λg=>by
  obtain rfl:i=u.size:=a8;rw[hth g,←c,Vi];all_goals rfl
 refine gk (k:=ep 7 70 (k:=λh10=>gk (k:=dV 3 69 (k:=λh11=>gk (k:=edq)) (q:=gk (k:=edq)))) (q:=go ?_));refine wi_ (k:=λh12=>?_) (m:=λh12=>?_)
 ·have hbad:=h12;have hN:iI (dC q)=none:=by
   cases f with
   |false=>rw[b,hno rfl]
   |true=>
    rw[b,B rfl];simp at hbad;obtain⟨E,C⟩:=hbad;simp only[E,cond_false];rw[Ys (show a= -9223372036854775808 from C)];all_goals rfl
  refine gR ?_;refine⟨_,hsb,?_,rfl⟩;rw[hN];exact rfl
 have e:=h12;obtain⟨g,hg2⟩:=e;rw[B g]at b;dsimp only at b;refine gW (λj=>?_) λj=>?_
 ·have hm:=j;have d:lz (dC q) [45]=false:=by simpa using hm
  have t:¬a= -9223372036854775808:=hg2.resolve_left (by rw[d];decide);rw[d,Yr t]at b;refine wr_ (e_ mv ?_);refine e_ (Mq rfl a8) ?_;refine gR ?_;exact⟨_,hsb,by rw[b];exact⟨rfl,a8,a8⟩,rfl⟩
 have hm:=j;have d:lz (dC q) [45]=true:=by simpa using hm
 rw[d]at b;refine gR ?_;exact⟨_,hsb,by rw[b];exact⟨rfl,a8,a8⟩,rfl⟩
section
variable {ws:List Nat}
def l8 (ws:List Nat) (i:Nat):Bool:=(ws.getD (i/64) 0).testBit (i%64)
def J4 (ws:List Nat) (i:Nat):List Nat:=ws.set (i/64) (ws.getD (i/64) 0 ||| 2^(i%64))
def okW (ws:List Nat):Prop:=∀x∈ws,x<18446744073709551616
theorem xC (h:okW ws) (i:Nat):ws.getD i 0<18446744073709551616:=by
 rw[Xj];cases hi:ws[i]? with
 |none=>simp
 |some x=>exact h x (Yj hi)
theorem QV {k:Nat}(h:k<64):2^k<18446744073709551616:=by
 have:(18446744073709551616:Nat)=2^64:=ae;rw[this];exact Nat.pow_lt_pow_right ae h
theorem Qo (h:okW ws) (i:Nat):okW (J4 ws i):=λx hx=>by
 rcases R6 hx with hx|rfl
 ·exact h x hx
 ·have h1:=xC h (i/64);have h2:=QV (k:=i%64) (V2 _ ae);have e:(18446744073709551616:Nat)=2^64:=ae;rw[e]at h1 h2⊢;exact U7 h1 h2
theorem MZ (ws:List Nat) (i:Nat):(J4 ws i).length=ws.length:=Ub ..
theorem MQ {i:Nat}(h:i/64<ws.length) (j:Nat):l8 (J4 ws i) j=(decide (j=i) ||l8 ws j):=by
 unfold l8 J4
 by_cases hj:j/64=i/64
 ·rw[hj,Xj,Ue h,V4,Nat.testBit_or,Nat.testBit_two_pow,Bool.or_comm];congr 1;exact Vm.2 a8
 ·rw[Xj,List.getElem?_set_ne (λh=>hj h.symm),←Xj,Yr (by rintro rfl;exact hj rfl),Q8]
theorem Qm (x k:Nat):(x/2^k &&& 1=1)↔x.testBit k=true:=by
 rw[Nat.and_one_is_mod,Nat.testBit_eq_decide_div_mod_eq,Xq]
end
section
variable {G:dJ}{H R:dD}{b n:Nat}{i:Int}{ws:List Nat}
def eW:Enc Nat:=⟨λn=>[.int .u64 (n:Int)],1,false,λ_=>rfl,λ_ v h=>bI,ae,λ_=>rfl,ae⟩
instance {n:Nat}:gP eW (.int .u64 ((n:Nat):Int)) n:=⟨rfl⟩
instance {n:Nat}:kV eW n (.int .u64 ((n:Nat):Int)):=⟨rfl⟩
structure DsG where
 n:Nat
 c:Nat
 ws:List Nat
def Ds (b:Nat) (p:DsG):Hp:=Ex λs:SV=>[Vr b [.int .i64 ((p.n:Nat):Int),.int .i64 ((p.c:Nat):Int),s.val],Row s eW p.ws]
theorem MC {c:Nat}{s:SV}:dH (Vr b [iN n,iN c,s.val]::Row s eW ws::R) (Ds b ⟨n,c,ws⟩::R):=wx (K:=Ds) (i:=b) (a:=⟨n,c,ws⟩) rfl s
theorem Wt {P:Program}{f:FuncId}{args:List Value}{K:Value→dD→Prop}{p:DsG}(hr:Rem H Ds b p R) (h:∀s:SV,SC G P f args (Vr b [iN p.n,iN p.c,s.val]::Row s eW p.ws::R) K):SC G P f args H K:=
 ⟨(h SV.nil).enter,λw a=>let ⟨s,hs⟩:=pI (K:=Ds) rfl hr a;(h s).call w hs⟩
theorem QM {c a:Value} [dQ H b [iN n,c,a]]:SC G prog 121 [pA b,.int .i64 i] H (λv d=>v=.bool (decide (0≤i)&&decide (i<(n:Int)))∧d=H):=by
 refine sWk func121 ?_;refine gk (k:=dV 7 14 (k:=λh1=>gk (k:=edq)) (q:=go ?_));exact gZ
theorem RZ {G:dJ}{H:dD}{b n c i:Nat}{s:SV}{ws:List Nat} [dQ H b [iN n,iN c,s.val]] [hs:Sl H s eW ws] (hi:i<n) (hn:n≤1048576) (hl:ws.length=(n+63)/64) (hw:okW ws):SC G prog 122 [pA b,iN i] H (λv H'=>v=.bool (l8 ws i)∧H'=H):=by
 have hi64:i/64<ws.length:=a8;have hwi:ws[i/64]? =some (ws.getD (i/64) 0):=by rw[Xj,Yi hi64];all_goals rfl
 have hx:=xC hw (i/64);have hm:i%64<64:=V2 _ (ae);have hd:ws.getD (i/64) 0/2^(i%64)≤ws.getD (i/64) 0:=Nat.div_le_self ..;have hrng:(decide ((0:Int)≤(i:Int))&&decide (((i:Nat):Int)<(n:Int)))=true:=by rw[Ys (a8),Ys (a8)];all_goals rfl
 refine sWk func122 ?_;refine ws_ (wr_ (e_ asn (k:=on_ (qn_ (ws_ (wr_ (e_ mv (k:=e_ mv (k:=?_)))))))));refine d2_ rfl (QM) (k:=?_);rw[hrng];refine e_ mv (k:=dV 14 22 (k:=λh1=>eg_ mv (k:=eg_ nck (k:=eg_ fla (k:=eg_ ldv (k:=eg_ mv (k:=eg_ (fX rfl rfl i 64 rfl rfl (ae) (ai)) (k:=eg_ ixa (k:=eg_ lel (k:=eg_ mv (k:=eg_ (mw rfl rfl i 64 rfl rfl (ae)) (k:=eg_ (hX rfl rfl (ws.getD (i/64) 0) (i%64) rfl rfl (by show _≤64;omega)) (k:=eg_ (qd 18446744073709551616 rfl rfl rfl rfl (ws.getD (i/64) 0/2^(i%64)) 1 rfl rfl (a8) (a8)) (k:=eg_ ieq (k:=e_ pkt (k:=on_ (edq)))))))))))))))) (q:=e_ asn (k:=on_ (qn_ (wt_ (rT (k:=?_)))))));exact⟨_,hsb,congrArg Value.bool (by
  rw[l8,Xv,U2,Xq,←Qm];omega),rfl⟩
theorem HQ (hn:n≤1048576):SC G prog 120 [iN n] H (λv c=>∃b,v=pA b∧c=Ds b ⟨n,0,List.replicate ((n+63)/64) 0⟩::H):=by
 refine sWk func120 ?_;refine ws_ (wr_ (e_ asn (on_ (qn_ (ws_ (wr_ (e_ mv (e_ mv (e_ iad ?_)))))))));refine e_ (fX rfl rfl (n+63) 64 a8 rfl ae ai) ?_;refine s_ (gn eW 0 rfl rfl ((n+63)/64) ((n+63)/64) rfl rfl rfl a8 a8 a8) ?_;rintro _ _ ⟨s7,rfl,h7n,h7c,rfl⟩;refine e_ (bld [(0,_),(2,_)]) (bxx (k:=λa=>?_));refine gR ?_;exact⟨_,MC,a,rfl,rfl⟩
theorem NK (hn:n≤1048576):SC G prog 48 [iN n] H (λv a=>∃b,v=.tuple #[pA b,.nilIface]∧a=Ds b ⟨n,0,List.replicate ((n+63)/64) 0⟩::H):=by
 refine sWk func48 ?_;refine ws_ (wr_ (e_ asn (e_ asn (on_ (qn_ (ws_ (ws_ (wr_ (e_ mv (e_ ilt (e_ mv (ep 3 9 (k:=λh1=>eg_ mv (eg_ igt (e_ pkf (on_ edq)))) (q:=on_ ?_)))))))))))));refine qn_ (wi_ (k:=λh2=>?_) (m:=λh2=>?_))
 ·exact absurd h2 a8
 refine wk_ (qn_ (ws_ (wr_ (e_ mv ?_))));refine c1_ rfl (HQ hn) ?_;rintro _ _ ⟨b,rfl,rfl⟩;refine e_ asn (e_ asn (on_ (qn_ (wt_ (rT (k:=?_))))));exact⟨_,hsb,b,rfl,rfl⟩
theorem Zr {c:Nat} [hg:Glb G R] [hr:Rem H Ds b ⟨n,c,ws⟩ R] (hn:n≤1048576) (hc:c≤1000000000) (hl:ws.length=(n+63)/64) (d:okW ws):SC G prog 49 [pA b,.int .i64 i] H (λv g=>((i<0∨(n:Int)≤i)∧v=.tuple #[.bool false,G.err 1]∧g=R)∨(0≤i∧i<(n:Int)∧∃(x:Bool) (c':Nat) (ws':List Nat),v=.tuple #[.bool x,.nilIface]∧g=Ds b ⟨n,c',ws'⟩::R∧c'≤c+1∧ws'.length=ws.length∧okW ws'∧∀j:Nat,l8 ws' j=(decide (((j:Nat):Int)=i) ||l8 ws j))):=by
 refine SC.rem (h:=hr) ?_;refine Wt (b:=b) (p:=⟨n,c,ws⟩) (R:=R) inferInstance λs=>?_;dsimp only;refine sWk func49 ?_;refine go ?_;refine d2_ rfl QM (gW (λh1=>?_) (λh1=>?_))
 ·have hr:i<0∨(n:Int)≤i:=by have h9:=h1;omega
  refine go ?_;refine dX dN (gR ?_);exact⟨_,hsb,.inl ⟨hr,rfl,rfl⟩⟩
 have hr:0≤i∧i<(n:Int):=ao;obtain⟨m,rfl⟩:=Int.eq_ofNat_of_zero_le hr.1;have e:m<n:=a8;have a:m/64<ws.length:=a8;have hwi:ws[m/64]? =some (ws.getD (m/64) 0):=by rw[Xj,Yi a];all_goals rfl
 have hx:=xC d (m/64);have hp2:=QV (k:=m%64) (V2 _ ae);refine go ?_;refine d2_ rfl (RZ e hn hl d) (gW (λh2=>?_) (λh2=>?_))
 ·have f:l8 ws m=true:=h2;refine gR ?_;exact⟨_,MC,.inr ⟨a8,hr.2,false,c,ws,rfl,rfl,a8,rfl,d,λj=>by by_cases hj:((j:Nat):Int)=(m:Int) <;> simp[hj] <;> (obtain rfl:j=m:=by omega) <;> exact f⟩⟩
 refine go ?_;refine wD [13] (λk H=>(k=3→dQ H b [iN n,iN c,s.val])∧(k=6→Sl H s eW ws)∧(k=7→Sl H s eW ws)∧(k=12→Sl H s eW ws)) (aF 0 (k:=aF 1 (k:=aF 2 (k:=?_))));refine aN 3 rfl (λH hH=>ah) ?_;refine aF 4 (k:=?_);refine aN 5 rfl (λH hH=>fX rfl rfl m 64 rfl rfl ae ai) ?_;refine aN 6 rfl (λH hH=>bZ) ?_;refine aN 7 rfl (λH hH=>by have hN:=hH.2.2.1 rfl;exact lel) ?_;refine aF 8 (k:=?_);refine aN 9 rfl (λH hH=>mw rfl rfl m 64 rfl rfl ae) ?_;refine aN 10 rfl (λH hH=>Bc 18446744073709551616 rfl rfl rfl rfl 1 (m%64) rfl rfl a8) ?_;refine aN 11 rfl (λH hH=>ku 18446744073709551616 rfl rfl rfl rfl (ws.getD (m/64) 0) (1*2^(m%64)) rfl rfl a8 a8) (go ?_);refine aS 13 rfl (et (i:=m/64) rfl rfl rfl a8) ?_;rintro _ _ ⟨rfl,rfl⟩;rw[Nat.one_mul,show ws.set (m/64) (ws.getD (m/64) 0 ||| 2^(m%64))=J4 ws m from rfl];refine aZ (go ?_);refine gR ?_;exact⟨_,MC,.inr ⟨a8,hr.2,true,c+1,J4 ws m,rfl,rfl,Xl _,MZ ws m,Qo d m,λj=>by rw[MQ a];congr 1;exact Vm.2 a8⟩⟩
end
end Go.Sx
