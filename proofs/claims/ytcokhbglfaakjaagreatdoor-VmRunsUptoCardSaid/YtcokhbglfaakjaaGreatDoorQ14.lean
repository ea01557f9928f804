import Derived.Test.YtcokhbglfaakjaaGreatDoorQ10
import Derived.Test.YtcokhbglfaakjaaGreatDoorQ11
import Derived.Test.YtcokhbglfaakjaaGreatDoorQ12
import Derived.Laws.StructEq
import Derived.Test.YtcokhbglfaakjaaGreatDoorQ13
import Derived.Recover
set_option linter.all false
set_option maxHeartbeats 0
namespace Go.Sx
open Go Go.Proofs
set_option maxRecDepth 100000
section
variable {fs:List FV}{l:List Int}{most:Nat}
theorem zh {q:List Nat}(r:List Nat) (h:q.length≤most) (hm:most<18446744073709551616):mq most (uv q.length++q++r)=.ok (q,(uv q.length).length+q.length):=by
 rw[mq,Yf,gw _ a8 h];simp only[];rw[if_neg aj,Vg,T9]
theorem Tn:∀(k:Fin 4) (a b c:Bool),let x:=k.val+(if a then 4 else 0)+(if b then 8 else 0)+(if c then 16 else 0);x &&& 3=k.val∧decide (((x &&& 4:Nat):Int)≠0)=a∧decide (((x &&& 8:Nat):Int)≠0)=b∧decide (((x &&& 16:Nat):Int)≠0)=c∧x≤31:=ae
theorem Th {f:FV}(h1:0≤f.kind) (h2:f.kind≤3):mkF (dC f.name) (kB f)=f∧kB f≤31:=by
 have h:=Tn ⟨f.kind.toNat,a8⟩ f.fold f.stop f.stem;obtain⟨name,kind,a,b,c⟩:=f;simp only at h h1 h2;obtain⟨j,i,g,e,d⟩:=h;simp only[mkF,kB,jW,FV.mk.injEq,true_and];exact⟨⟨by rw[j];omega,i,g,e⟩,d⟩
theorem oE {x:Int}:rise (x::l)=true↔(∀y,l.head? =some y→x<y)∧rise l=true:=by
 cases l with
 |nil=>simp[rise]
 |cons y r=>simp[rise]
theorem pK:∀(l:List Int) (last:Int),l.length≤(iQ last l).length
 | [],_=>aq
 |x::l,last=>by
  have:=pK l x;have h:=sM (x-last-1).toNat;rw[iQ,Ya,Yb];omega
theorem vO:∀(l:List Int) (last:Int) (r:List Nat), -1≤last→rise (last::l)=true→(∀x∈l,x≤9223372036854775807)→oF l.length last (iQ last l++r)=.ok (l,(iQ last l).length)
 | [],last,r,_,_,_=>rfl
 |x::l,last,r,hl,hr,hb=>by
  rw[oE]at hr;obtain⟨h1,h2⟩:=hr;have h3:=h1 x rfl;have h4:=hb x aq;have a:=vO l x r a8 h2 λy hy=>hb y (by simp[hy]);rw[Yb,oF,iQ,Yf,tM _ a8];simp only[];rw[if_neg a8,Vg,show last+((x-last-1).toNat:Int)+1=x from a8,a];simp only[Ya]
theorem Cu (h1:o8 l=false) (h2:rise l=true) (a:∀x∈l,x≤9223372036854775807) (hl:l.length<18446744073709551616):
 gF (uv l.length++iQ (-1) l).length (uv l.length++iQ (-1) l)=.ok (l,(uv l.length++iQ (-1) l).length):=by
 have hge:=pK l (-1);rw[gF,gw _ hl bz];simp only[];have h3:rise (-1::l)=true:=by
  rw[oE];refine⟨λy hy=>?_,h2⟩;have:=(mX l).1 h1 0 y (by rw[List.head?_eq_getElem?]at hy;exact hy);omega
 have:=vO l (-1) [] (T8 _) h3 a;rw[Ym]at this;rw[Vg,this];simp only[Ya]
theorem sT:∀(n:Nat) (last:Int) (l:List Nat) (d:List Int) (m:Nat),(∀x∈l,x<256)→ -1≤last→oF n last l=.ok (d,m)→d.length=n∧m≤l.length∧l.take m=iQ last d∧rise (last::d)=true∧(∀x∈d,0≤x∧x≤9223372036854775807)
 | 0,last,l,d,m,hb,hl,h=>by
  simp only[oF,Except.ok.injEq,Prod.mk.injEq]at h;obtain⟨rfl,rfl⟩:=h;exact⟨rfl,Yl _,by simp[iQ],by simp[rise],λx hx=>by cases hx⟩
 |n+1,last,l,d,m,hb,hl,h=>by
  rw[oF]at h
  split at h
  ·cases h
  ·rename_i v c k
   split at h
   ·cases h
   ·rename_i hle
    split at h
    ·cases h
    ·rename_i r j hr;simp only[Except.ok.injEq,Prod.mk.injEq]at h;obtain⟨rfl,rfl⟩:=h;obtain⟨p1,p2,p3,p4,i,p6⟩:=k7 _ 0 v c hb a8 k;obtain⟨g,f,e,b,a⟩:=sT n _ _ r j (λy hy=>hb y (Yp hy)) a8 hr;rw[Yo]at f;refine⟨by simp[g],a8,?_,?_,?_⟩
     ·rw[iQ,show(last+(v:Int)+1-last-1).toNat=v from a8,←i,←e,List.take_add]
     ·rw[oE];exact⟨λy hy=>by simp at hy;omega,b⟩
     ·intro x hx;rcases Xo.1 hx with rfl|hx
      ·omega
      ·exact a x hx
theorem yN {l:List Nat}{d:List Int}{m:Nat}(b:∀x∈l,x<256) (h:gF most l=.ok (d,m)):m≤l.length∧l.take m=uv d.length++iQ (-1) d∧o8 d=false∧rise d=true∧(∀x∈d,0≤x∧x≤9223372036854775807):=by
 rw[gF]at h
 split at h
 ·cases h
 ·rename_i n c q;obtain⟨u1,u2,e,u4⟩:=lL b q
  split at h
  ·cases h
  ·rename_i r p hr;simp only[Except.ok.injEq,Prod.mk.injEq]at h;obtain⟨rfl,rfl⟩:=h;obtain⟨k,j,g,f,a⟩:=sT n _ _ r p (λy hy=>b y (Yp hy)) (T8 _) hr;rw[Yo]at j;refine⟨a8,?_,(mX r).2 λi x hx=>(a x (Yj hx)).1,(oE.1 f).2,a⟩;rw[k,←e,←g,List.take_add]
abbrev Pcs:=List (List Nat×List Int)
theorem PU (h:iK fs=true):∀x∈Bh fs,x<256:=by
 obtain⟨h1,h2⟩:=jx h;intro x hx;rcases Xm.1 hx with hx|hx
 ·exact kz _ x hx
 ·obtain⟨f,b,hx⟩:=U4.1 hx;obtain⟨k1,k2,a⟩:=h2 f b;simp only[kR,Xm,Vb]at hx;rcases hx with(hx|hx)|rfl
  ·exact kz _ x hx
  ·exact lZ _ x hx
  ·have:=(Th (f:=f) a8 a).2;omega
theorem zP:∀(fs:List FV),(∀f∈fs,f.name.size≤32)→(re fs).length≤43*fs.length
 | [],_=>by simp[re]
 |f::fs,h=>by
  have ih:=zP fs λg a=>h g (by simp[a]);have h1:=h f aq;have h2:=iw (n:=f.name.size) a8;have h3:=dI f.name;rw[show re (f::fs)=kR f++re fs by simp[re],kR];simp only[Ya,Yb,Yc];omega
theorem Dj (h:iK fs=true):(Bh fs).length≤1000:=by
 obtain⟨h1,h2⟩:=jx h;have h3:=zP fs λf a=>(h2 f a).1;have h4:=iw (n:=fs.length) a8;rw[Bh,Ya];omega
end
def eP:Enc (SV×SV):=⟨λp=>[p.1.val,p.2.val],2,true,λ_=>rfl,λp v h=>by simp at h;rcases h with rfl|rfl <;> rfl,ae,λh=>aK,ae⟩
instance {p:SV×SV}:kV eP p (.agg [p.1.val,p.2.val].toArray):=⟨rfl⟩
def yD (H:dD) (l:List (SV×SV)) (ps:Pcs):Prop:=l.length=ps.length∧∀(i:Nat) (p:SV×SV) (q:List Nat×List Int),l[i]? =some p→ps[i]? =some q→Sl H p.1 eB q.1∧Sl H p.2 eI q.2
def yH (F H:dD) (l:List (Nat×SV)) (bl:List (Nat×List Nat)):Prop:=l.length=bl.length∧∀(i:Nat) (p:Nat×SV) (q:Nat×List Nat),l[i]? =some p→bl[i]? =some q→p.1=q.1∧(Sl F p.2 eB q.2∨Sl H p.2 eB q.2)
theorem yH.snoc {F c H:dD}{l:List (Nat×SV)}{bl:List (Nat×List Nat)}(h:yH F H l bl) (x:Nat) (s:SV) (body:List Nat) (e:∀(s:SV) (b:List Nat),Sl F s eB b→Sl c s eB b) (hs:Sl c s eB body∨Sl H s eB body):yH c H (l++ [(x,s)]) (bl++ [(x,body)]):=by
 obtain⟨h1,h2⟩:=h;refine⟨by simp[h1],λi p q hp a=>?_⟩
 by_cases hi:i<l.length
 ·rw[Yv hi]at hp;rw[Yv a8]at a;obtain⟨h3,h4⟩:=h2 i p q hp a;exact⟨h3,h4.imp (e _ _) id⟩
 ·rw[Yu a8]at hp a;have d:i-l.length=0:=by
   have:=(Yk.1 hp).1;simp at this;omega
  rw[d]at hp;rw[←h1,d]at a;simp at hp a;subst hp;subst a;exact⟨rfl,hs⟩
theorem yH.nil {F H:dD}:yH F H [] []:=⟨rfl,λi p q h=>aK⟩
section
variable {F:dD}{bl:List (Nat×List Nat)}
theorem yD.snoc {d:dD}{l:List (SV×SV)}{ps:Pcs}(h:yD F l ps) (a b:SV) (x:List Nat) (y:List Int) (j:∀(s:SV) (b:List Nat),Sl F s eB b→Sl d s eB b) (e:∀(s:SV) (b:List Int),Sl F s eI b→Sl d s eI b) (ha:Sl d a eB x) (g:Sl d b eI y):yD d (l++ [(a,b)]) (ps++ [(x,y)]):=by
 obtain⟨h1,h2⟩:=h;refine⟨by simp[h1],λi p q hp c=>?_⟩
 by_cases hi:i<l.length
 ·rw[Yv hi]at hp;rw[Yv a8]at c;obtain⟨h3,h4⟩:=h2 i p q hp c;exact⟨j _ _ h3,e _ _ h4⟩
 ·rw[Yu a8]at hp c;have f:i-l.length=0:=by
   have:=(Yk.1 hp).1;simp at this;omega
  rw[f]at hp;rw[←h1,f]at c;simp at hp c;subst hp;subst c;exact⟨ha,g⟩
theorem yD.nil:yD F [] []:=⟨rfl,λi p q h=>aK⟩
theorem sy.ext {c:dD}{l:List (Nat×SV)}(h:sy F l bl) (d:∀(s:SV) (b:List Nat),Sl F s eB b→Sl c s eB b):sy c l bl:=⟨h.1,λi p q hp a=>⟨(h.2 i p q hp a).1,d _ _ (h.2 i p q hp a).2⟩⟩
theorem uj {q:Nat×List Nat}(h:q∈bl):q.2.length≤(fN bl).length:=Ho h
end
def xJ (e:Nat):Int:=([11,8,1,2,3,4,5,6,7,9,10,12,13,14,15,16,17,18,19,20,21,22,23,24]:List Int).getD e (-1)
def Du (l:List Nat):Nat:=l.foldr (λx a=>x%128+128*a) 0
theorem zV (x:Nat) (l:List Nat):Du (x::l)=x%128+128*Du l:=rfl
theorem IT (l:List Nat):∀j,Du (l.drop j)≤Du l:=by
 induction l with
 |nil=>intro j;simp
 |cons x l ih=>
  intro j;cases j with
  |zero=>exact Xl _
  |succ j=>rw[U9,zV];have:=ih j;omega
theorem Cs:∀(l:List Nat) (i k x:Nat),(∀j y,j<k→l[j]? =some y→128≤y)→l[k]? =some x→i+k≤9→(i+k=9→x≤1)→x<128→¬(x=0∧0<i+k)→iz i l=.ok (Du (l.take (k+1)),k+1)
 | [],_,_,_,_,h,_,_,_,_=>aK
 |y::l,i,0,x,h1,h2,h3,h4,h5,h6=>by
  simp at h2;subst h2;rw[iz,if_neg a8,if_neg a8,if_neg a8];simp[Du,Xw h5]
 |y::l,i,k+1,x,h1,h2,h3,h4,h5,h6=>by
  have hy:=h1 0 y a8 rfl;have a:=Cs l (i+1) k x (λj z hj b=>h1 (j+1) z a8 (by simpa using b)) cD a8 a8 h5 a8;rw[iz,if_neg a8,if_pos hy,a];all_goals rfl
theorem xp:∀(l:List Nat) (i k x:Nat),(∀j y,j<k→l[j]? =some y→128≤y)→l[k]? =some x→i+k≤9→((i+k=9∧1<x)∨(x=0∧0<i+k))→iz i l=.error 3
 | [],_,_,_,_,h,_,_=>aK
 |y::l,i,0,x,h1,h2,h3,h4=>by
  simp at h2;subst h2;rw[iz]
  by_cases c:i=9∧1<y
  ·rw[if_pos c]
  ·rw[if_neg c,if_neg a8,if_pos a8]
 |y::l,i,k+1,x,h1,h2,h3,h4=>by
  have hy:=h1 0 y a8 rfl;have a:=xp l (i+1) k x (λj z hj b=>h1 (j+1) z a8 (by simpa using b)) cD a8 a8;rw[iz,if_neg a8,if_pos hy,a]
theorem xo:∀(l:List Nat) (i:Nat),(∀y∈l,128≤y)→i+l.length≤9→iz i l=.error 2
 | [],_,_,_=>rfl
 |y::l,i,h,hl=>by
  simp only[Yb]at hl;rw[iz,if_neg a8,if_pos (h y aq),xo l (i+1) (λz a=>h z (by simp[a])) a8]
open Tryz
def ZF (p:Nat):Except Nat (Nat×Nat)→Value
 | .error e=>.tuple #[.int .u64 0,.int .i64 ((p:Nat):Int),.int .i64 (xJ e)]
 | .ok (v,n)=>.tuple #[.int .u64 ((v:Nat):Int),.int .i64 ((p+n:Nat):Int),.int .i64 0]
theorem Kq {G:dJ}{H:dD}{s:SV}{xs:List Nat}{p:Nat} [Sl H s eB xs] (hn:xs.length≤100000000000) (hp:p≤xs.length) (n:∀x∈xs,x<256):SC G prog 93 [s.val,iN p] H (λv t=>v=ZF p (iz 0 (xs.drop p))∧t=H):=by
 obtain⟨r,hr⟩:=ex (xs.drop p);have c:∀x∈r,x<256:=λx hx=>n x (Yp (hr ▸ hx));have hrl:r.length=xs.length-p:=by rw[hr,Yo]
 have e:∀j,r[j]? =xs[p+j]? :=λj=>by rw[hr,Xh]
 rw[←hr];refine sWk func93 ?_;refine go ?_;refine wl_ Nat (λk=>k≤r.length∧k≤9∧∀j y,j<k→r[j]? =some y→128≤y) (λk=>[(0,s.val),(1,iN p),(7,iN k)]) (λ_=>H) (λk=>10-k) (0) (h0:=?_) (k:=?_)
 ·exact⟨Yl _,a8,λj y h=>absurd h (Up _)⟩
 rintro k ⟨hk,hk9,a⟩
 try dsimp only at*
 refine gW (λh1=>?_) λh1=>?_
 ·have g:=xo r 0 (λy hy=>by obtain⟨j,hj⟩:=Vh.1 hy;exact a j y (by have:=(Yk.1 hj).1;omega) hj) a8;refine go ?_;refine rT (k:=?_);exact⟨_,dH.refl,by rw[g];all_goals rfl,rfl⟩
 obtain⟨x,hx⟩:=gE r k;have hxb:=c x (Yj hx);have hx':xs[p+k]? =some x:=by rw[←e];exact hx
 refine wk_ (qn_ (ws_ (wr_ (e_ mv (e_ mv (e_ mv (e_ iad ?_)))))));refine e_ (er rfl rfl (p+k) a8 a8) ?_;refine e_ (gT rfl bH bH x hx') ?_;refine e_ asn (on_ (qn_ (ws_ (wr_ (e_ mv (e_ iad (e_ asn (on_ (qn_ (ws_ ?_))))))))));refine Qz ([(0,s.val),(1,iN p),(7,.int .i64 (((k:Nat):Int)+1)),(8,.int .u8 ((x:Nat):Int)),(31,.bool (decide (k=9∧1<x)))]) ?_ ?_
 ·refine wr_ (e_ mv (e_ ieq (sp_ mv (k:=λh2=>?_) (m:=λh2=>?_))))
  ·refine gk (k:=ctt)
  refine gk (k:=ctt)
 refine wi_ (k:=λh3=>?_) (m:=λh3=>?_)
 ·have hbad:=xp r 0 k x a hx a8 a8;refine go ?_;refine rT (k:=?_);exact⟨_,dH.refl,cE,rfl⟩
 refine gW (λh4=>?_) λh4=>?_
 ·refine ws_ ?_;refine Qz ([(0,s.val),(1,iN p),(7,.int .i64 (((k:Nat):Int)+1)),(8,.int .u8 ((x:Nat):Int)),(40,.bool (decide (x=0∧0<k)))]) ?_ ?_
  ·refine wr_ (e_ mv (e_ ieq (sp_ mv (k:=λh5=>?_) (m:=λh5=>?_))))
   ·refine gk (k:=ctt)
   refine gk (k:=ctt)
  refine wi_ (k:=λh6=>?_) (m:=λh6=>?_)
  ·have hbad:=xp r 0 k x a hx a8 a8;refine go ?_;refine rT (k:=?_);exact⟨_,dH.refl,cE,rfl⟩
  have b:=Cs r 0 k x a hx a8 a8 a8 a8;obtain⟨p1,p2,p3,p4,p5,p6⟩:=k7 r 0 _ _ c a8 b;have l:=IT (r.take (k+1));refine gk (k:=bm_ (k:=go ?_));refine gk (k:=wl_ (Nat×Nat) (λy=>y.1≤k+1∧y.2=Du ((r.take (k+1)).drop y.1)) (λy=>[(0,s.val),(1,iN p),(7,.int .i64 (((k:Nat):Int)+1)),(9,uN y.2),(10,.int .i64 ((y.1:Int)-1))]) (λ_=>H) (λy=>y.1) ((k+1,0)) (hs:=?_) (h0:=?_) (k:=?_))
  ·rw[show((k+1:Nat):Int)-1=((k:Nat):Int)+1-1 from a8];repeat (first|exact Sub.nil|refine Sub.cons rfl ?_)
  ·try dsimp only
   refine⟨Xl _,?_⟩;rw[Vn az];all_goals rfl
  rintro⟨j,v⟩ ⟨hj,hv⟩
  try dsimp only at*
  refine gW (λq=>?_) λq=>?_
  ·obtain⟨d,rfl⟩:∃d,j=d+1:=⟨j-1,a8⟩;obtain⟨z,f⟩:=gE r d;have hz2:=c z (Yj f);have hz':xs[p+d]? =some z:=by rw[←e];exact f
   have i:Du ((r.take (k+1)).drop d)=z%128+128*v:=by
    rw[eh (show(r.take (k+1))[d]? =some z by rw[Vp a8];exact f),zV,hv]
   have hdl:=l d;refine wk_ (qn_ (ws_ (wb_ (wr_ (e_ mv ?_)))));refine e_ (nZ 18446744073709551616 rfl rfl rfl rfl 128 v rfl rfl) ?_;refine e_ mv (e_ mv (e_ mv (e_ iad ?_)));refine e_ (er rfl rfl (p+d) a8 a8) ?_;refine e_ (gT rfl bH bH z hz') ?_;refine e_ (mw rfl rfl z 128 rfl rfl a8) ?_;refine e_ ((ad)) ?_;refine e_ (lk 18446744073709551616 rfl rfl rfl rfl _ _ rfl rfl) ?_;rw[show(128*v%18446744073709551616+z%128)%18446744073709551616=z%128+128*v from a8];refine go ?_;refine ln_ ((d,z%128+128*v)) (h3:=?_) (k:=?_)
   ·(try rw[show((d+1:Nat):Int)-1-1=(d:Int)-1 from a8]);repeat (first|exact Sub.nil|refine Sub.cons rfl ?_)
   exact⟨a8,i.symm⟩
  obtain rfl:j=0:=a8;refine go ?_;refine gR ?_;exact⟨_,dH.refl,by rw[b,hv,show(p:Int)+(((k:Nat):Int)+1)=((p+(k+1):Nat):Int)from a8];all_goals rfl,rfl⟩
 refine go ?_;refine lN (k+1) ?_
 try dsimp only
 refine⟨a8,a8,λj y hj hy=>?_⟩;rcases Uq (V9 hj)with h|rfl
 ·exact a j y h hy
 ·rw[hx]at hy;cases hy;omega
theorem Pa {e:Nat}(h:e=2∨e=3):xJ e≠0:=by rcases h with rfl|rfl <;> decide
class Ja (G:dJ):Prop where
 out:G.eT=437
theorem Qg:∃k,prog.info? 437=some k∧k.comparable=true:=by
 have h:(prog.info? 437).map (·.comparable)=some true:=aa;cases hk:prog.info? 437 with
 |none=>rw[hk]at h;cases h
 |some k=>rw[hk]at h;exact⟨k,rfl,bA⟩
section
variable {G:dJ}{t:Tm}{H:dD}{dst:Option Tmp}{ty:TypeId}{pos:String}{after:Array Edge}{g:Option (Nat×Bool)}
theorem fb {T U:TypeId}{x y:Operand}{i j:Nat}{a:Array (String×TypeId)} [he:Ja G] [hT:Und prog T (.interface a)] [b:Glb G H] [h1:kx i] [h2:kx j] (hx:evo t x=some (G.err i)) (hy:evo t y=some (G.err j)):Ev G prog ⟨dst,.binOp .eql T x y U,ty,pos,after,g⟩ t H (.bool (decide (i=j))):=
 haveI:Und prog G.eT (.pointer 462):=⟨by rw[he.out];exact underlying437⟩
 Fu (by rw[he.out];exact Qg) ae b.inj hx hy
end
def Lf (e:Nat):Int:=if 15≤e∧e<24 then xJ e else -1
theorem Le:∀e:Fin 24,(e.val≠2∧e.val≠3∧e.val≠4∧e.val≠5∧e.val≠6∧e.val≠7∧e.val≠8∧e.val≠1∧e.val≠9∧e.val≠10∧e.val≠0∧e.val≠11∧e.val≠12∧e.val≠13∧e.val≠14)→Lf e.val=xJ e.val:=ae
theorem Pg {G:dJ}{H:dD} [hg:Glb G H] [Ja G] (e:Nat) [he:kx e]:SC G prog 24 [G.err e] H (λv b=>v=.int .i64 (Lf e)∧b=H):=by
 refine sWk func24 ?_;refine ws_ (wr_ (e_ asn (on_ (qn_ (ws_ (ws_ (wr_ (e_ mv (on_ (qn_ (wb_ (ws_ (wr_ ?_)))))))))))));refine e_ ldv ?_;refine e_ (fb rfl rfl) ?_;refine gW (λh1=>?_) λh1=>?_
 ·refine gR ?_;exact⟨_,dH.refl,aE,rfl⟩
 refine ws_ (wr_ (e_ ldv ?_));refine e_ (fb rfl rfl) ?_;refine gW (λh2=>?_) λh2=>?_
 ·refine gR ?_;exact⟨_,dH.refl,aE,rfl⟩
 refine ws_ (wr_ (e_ ldv ?_));refine e_ (fb rfl rfl) ?_;refine gW (λh3=>?_) λh3=>?_
 ·refine gR ?_;exact⟨_,dH.refl,aE,rfl⟩
 refine ws_ (wr_ (e_ ldv ?_));refine e_ (fb rfl rfl) ?_;refine gW (λh4=>?_) λh4=>?_
 ·refine gR ?_;exact⟨_,dH.refl,aE,rfl⟩
 refine ws_ (wr_ (e_ ldv ?_));refine e_ (fb rfl rfl) ?_;refine gW (λh5=>?_) λh5=>?_
 ·refine gR ?_;exact⟨_,dH.refl,aE,rfl⟩
 refine ws_ (wr_ (e_ ldv ?_));refine e_ (fb rfl rfl) ?_;refine gW (λh6=>?_) λh6=>?_
 ·refine gR ?_;exact⟨_,dH.refl,aE,rfl⟩
 refine ws_ (wr_ (e_ ldv ?_));refine e_ (fb rfl rfl) ?_;refine gW (λa=>?_) λa=>?_
 ·refine gR ?_;exact⟨_,dH.refl,aE,rfl⟩
 refine ws_ (wr_ (e_ ldv ?_));refine e_ (fb rfl rfl) ?_;refine gW (λh8=>?_) λh8=>?_
 ·refine gR ?_;exact⟨_,dH.refl,aE,rfl⟩
 refine ws_ (wr_ (e_ ldv ?_));refine e_ (fb rfl rfl) ?_;refine gW (λh9=>?_) λh9=>?_
 ·refine gR ?_;exact⟨_,dH.refl,aE,rfl⟩
 refine gR ?_;exact⟨_,dH.refl,by rw[Lf,if_neg (by have:=he.out;omega)];all_goals rfl,rfl⟩
theorem EK {G:dJ}{H:dD} [hg:Glb G H] [Ja G] (e:Nat) [he:kx e]:SC G prog 10 [G.err e] H (λv g=>v=.int .i64 (xJ e)∧g=H):=by
 refine sWk func10 ?_;refine ws_ (wr_ (e_ asn (on_ (qn_ (ws_ (ws_ (wr_ (e_ mv (on_ (qn_ (wb_ (ws_ (wr_ ?_)))))))))))));refine e_ (ny rfl) ?_;refine gk (k:=ir_ (k:=λh1=>?_) (m:=λh1=>?_))
 ·cases h1
 refine ws_ (wr_ (e_ ldv ?_));refine e_ (fb rfl rfl) ?_;refine gW (λh2=>?_) λh2=>?_
 ·refine gR ?_;exact⟨_,dH.refl,aE,rfl⟩
 refine ws_ (wr_ (e_ ldv ?_));refine e_ (fb rfl rfl) ?_;refine gW (λh3=>?_) λh3=>?_
 ·refine gR ?_;exact⟨_,dH.refl,aE,rfl⟩
 refine ws_ (wr_ (e_ ldv ?_));refine e_ (fb rfl rfl) ?_;refine gW (λh4=>?_) λh4=>?_
 ·refine gR ?_;exact⟨_,dH.refl,aE,rfl⟩
 refine ws_ (wr_ (e_ ldv ?_));refine e_ (fb rfl rfl) ?_;refine gW (λh5=>?_) λh5=>?_
 ·refine gR ?_;exact⟨_,dH.refl,aE,rfl⟩
 refine ws_ (wr_ (e_ ldv ?_));refine e_ (fb rfl rfl) ?_;refine gW (λh6=>?_) λh6=>?_
 ·refine gR ?_;exact⟨_,dH.refl,aE,rfl⟩
 refine ws_ (wr_ (e_ ldv ?_));refine e_ (fb rfl rfl) ?_;refine gW (λf=>?_) λf=>?_
 ·refine gR ?_;exact⟨_,dH.refl,aE,rfl⟩
 refine ws_ (wr_ (e_ ldv ?_));refine e_ (fb rfl rfl) ?_;refine gW (λh8=>?_) λh8=>?_
 ·refine gR ?_;exact⟨_,dH.refl,aE,rfl⟩
 refine ws_ (wr_ (e_ ldv ?_));refine e_ (fb rfl rfl) ?_;refine gW (λh9=>?_) λh9=>?_
 ·refine gR ?_;exact⟨_,dH.refl,aE,rfl⟩
 refine ws_ (wr_ (e_ ldv ?_));refine e_ (fb rfl rfl) ?_;refine gW (λh10=>?_) λh10=>?_
 ·refine gR ?_;exact⟨_,dH.refl,aE,rfl⟩
 refine ws_ (wr_ (e_ ldv ?_));refine e_ (fb rfl rfl) ?_;refine gW (λh11=>?_) λh11=>?_
 ·refine gR ?_;exact⟨_,dH.refl,aE,rfl⟩
 refine ws_ (wr_ (e_ ldv ?_));refine e_ (fb rfl rfl) ?_;refine gW (λh12=>?_) λh12=>?_
 ·refine gR ?_;exact⟨_,dH.refl,aE,rfl⟩
 refine ws_ (wr_ (e_ ldv ?_));refine e_ (fb rfl rfl) ?_;refine gW (λd=>?_) λd=>?_
 ·refine gR ?_;exact⟨_,dH.refl,aE,rfl⟩
 refine ws_ (wr_ (e_ ldv ?_));refine e_ (fb rfl rfl) ?_;refine gW (λc=>?_) λc=>?_
 ·refine gR ?_;exact⟨_,dH.refl,aE,rfl⟩
 refine ws_ (wr_ (e_ ldv ?_));refine e_ (fb rfl rfl) ?_;refine gW (λb=>?_) λb=>?_
 ·refine gR ?_;exact⟨_,dH.refl,aE,rfl⟩
 refine ws_ (wr_ (e_ ldv ?_));refine e_ (fb rfl rfl) ?_;refine gW (λa=>?_) λa=>?_
 ·refine gR ?_;exact⟨_,dH.refl,aE,rfl⟩
 refine go ?_;refine d1_ rfl (Pg e) (gR ?_);exact⟨_,dH.refl,by rw[Le ⟨e,y8 he.out⟩ bJ];all_goals rfl,rfl⟩
theorem Tg {G:dJ}{H:dD} [hg:Glb G H]:SC G prog 10 [.nilIface] H (λv a=>v=.int .i64 0∧a=H):=by
 refine sWk func10 ?_;refine ws_ (wr_ (e_ asn (on_ (qn_ (ws_ (ws_ (wr_ (e_ mv (on_ (qn_ (wb_ (ws_ (wr_ ?_)))))))))))));refine e_ (iB rfl) ?_;refine gk (k:=ir_ (k:=λh1=>?_) (m:=λh1=>?_))
 ·exact gZ
 cases h1
theorem yD.one {H:dD}{a b:SV}{x:List Nat}{y:List Int}(ha:Sl H a eB x) (c:Sl H b eI y):yD H [(a,b)] [(x,y)]:=
 (yD.nil (F:=H)).snoc a b x y (λ_ _ h=>h) (λ_ _ h=>h) ha c
theorem yD.ext {F c:dD}{l:List (SV×SV)}{ps:Pcs}(h:yD F l ps) (e:∀(s:SV) (b:List Nat),Sl F s eB b→Sl c s eB b) (a:∀(s:SV) (b:List Int),Sl F s eI b→Sl c s eI b):yD c l ps:=
 ⟨h.1,λi p q hp d=>⟨e _ _ (h.2 i p q hp d).1,a _ _ (h.2 i p q hp d).2⟩⟩
section
variable {G:dJ}{H R:dD}{b k most:Nat}{xs:List Nat}
theorem vJ:SC G prog 229 [.bool true] H (λv a=>v=.tuple #[]∧a=H):=by
 refine sWk func229 ?_;refine gW (λh1=>?_) λh1=>?_
 ·exact absurd h1 ae
 exact gZ
theorem NC {m:Nat}{q:List Nat} [hg:Glb G R] [hr:Rem H Rd b (xs,k) R] (hk:k≤xs.length) (hn:xs.length≤1000000000000) (c:∀x∈xs,x<256) (hm:most≤4611686018427387904) (h:mq most (xs.drop k)=.ok (q,m)):SC G prog 177 [pA b,iN most] H (λv a=>v=.tuple #[.string (eG q),.nilIface]∧a=Rd b (xs,k+m)::R):=
 SC.mono (QR hk hn c hm) λv a h2=>by
  rcases h2 with⟨e,h3,_⟩|⟨n',m',h3,h4,h5⟩
  ·rw[h]at h3;cases h3
  ·rw[h]at h3;cases h3;exact⟨h4,h5⟩
theorem wh {n m:Nat} [hg:Glb G R] [hr:Rem H Rd b (xs,k) R] (hk:k≤xs.length) (hn:xs.length≤1000000000000) (c:∀x∈xs,x<256) (hm:most≤4611686018427387904) (h:iH most (xs.drop k)=.ok (n,m)):SC G prog 176 [pA b,iN most] H (λv a=>v=.tuple #[iN n,.nilIface]∧a=Rd b (xs,k+m)::R):=
 SC.mono (Cv hk hn c hm) λv a h2=>by
  rcases h2 with⟨e,h3,_⟩|⟨n',m',h3,h4,h5⟩
  ·rw[h]at h3;cases h3
  ·rw[h]at h3;cases h3;exact⟨h4,h5⟩
theorem wi {n m:Nat} [hg:Glb G R] [hr:Rem H Rd b (xs,k) R] (hk:k≤xs.length) (hn:xs.length≤1000000000000) (a:∀x∈xs,x<256) (hm:most≤4611686018427387904) (h:iH most (xs.drop k)=.ok (n,m)):SC G prog 228 [pA b,iN most] H (λv c=>v=iN n∧c=Rd b (xs,k+m)::R):=by
 refine sWk func228 ?_;refine go ?_;refine d2_ rfl (wh hk hn a hm h) (e_ mv (e_ exr (e_ exr (e_ asn (e_ asn (on_ (qn_ (ws_ (wr_ (e_ mv ?_))))))))));refine e_ (iB rfl) ?_;refine d1_ rfl vJ (gR ?_);exact⟨_,hsb,rfl,rfl⟩
def ePt:Enc (Nat×Nat):=⟨λp=>[.pointer (some ⟨p.1,p.2,none⟩)],1,false,λ_=>rfl,λ_ v h=>bI,ae,λ_=>rfl,ae⟩
instance {b o:Nat}:gP ePt (.pointer (some ⟨b,o,none⟩)) (b,o):=⟨rfl⟩
instance {p:Nat×Nat}:kV ePt p (.pointer (some ⟨p.1,p.2,none⟩)):=⟨rfl⟩
theorem Ly (a b:List Nat):a.take (eY a b)++b.drop (eY a b)=b:=by rw[tG,Vd]
theorem JU {f:List Nat}{a:ByteArray}{first:Bool}{e:En} [hg:Glb G R] [hr:Rem H Rd b (xs,k) R] (hk:k≤xs.length) (hn:xs.length≤1000000000) (T:∀x∈xs,x<256) (h:xs.drop k=oX (dC a) e++f) (hks:1≤e.key.size∧e.key.size≤65) (hls:a.size≤65) (i:∀x∈jG e,x≤2147483647):
 SC G prog 230 [pA b,.string a,.bool first] H (λv V=>v=.agg #[.string e.key,iN e.docs,iN e.tot,iN e.at_,iN e.size]∧V=Rd b (xs,k+(oX (dC a) e).length)::R):=by
 obtain⟨F,E⟩:=n6 (dC a) (dC e.key);have hbl:=dI a;have hbk:=dI e.key;have r:k+(oX (dC a) e).length+f.length=xs.length:=by
  have:=congrArg List.length h;rw[Yo,Ya]at this;omega
 obtain⟨c,l⟩:=ex (eY (dC a) (dC e.key));rw[←l]at F E;have he:oX (dC a) e=uv c++(uv ((dC e.key).length-c)++(dC e.key).drop c)++(uv e.docs++uv e.tot++uv e.at_++uv e.size):=by rw[oX,l]
 have hdl:((dC e.key).drop c).length=(dC e.key).length-c:=Yo ..;have h0:iH a.size (xs.drop k)=.ok (c,(uv c).length):=by
  rw[h,he];simp only[Yf];exact gw _ a8 a8
 have z:xs.drop (k+(uv c).length)=uv ((dC e.key).drop c).length++(dC e.key).drop c++(uv e.docs++(uv e.tot++(uv e.at_++(uv e.size++f)))):=by
  rw[←Vt,h,he,hdl];simp only[Yf];rw[Vg]
 have h1:mq (65-c) (xs.drop (k+(uv c).length))=.ok ((dC e.key).drop c,(uv ((dC e.key).drop c).length).length+((dC e.key).drop c).length):=by
  rw[z];exact zh _ a8 a8
 obtain⟨g,m⟩:=ex (k+(uv c).length+((uv ((dC e.key).drop c).length).length+((dC e.key).drop c).length));have w:xs.drop g=uv e.docs++(uv e.tot++(uv e.at_++(uv e.size++f))):=by
  rw[m,←Vt,z,←Ya,Vg]
 have hlen:(oX (dC a) e).length=g-k+((uv e.docs).length+(uv e.tot).length+(uv e.at_).length+(uv e.size).length):=by
  rw[he,m,hdl];simp only[Ya,hdl];omega
 have hk1x:g+((uv e.docs).length+(uv e.tot).length+(uv e.at_).length+(uv e.size).length)≤xs.length:=a8;have s:a.extract 0 c++eG ((dC e.key).drop c)=e.key:=by
  apply jy.1;rw[fG,fD (λx hx=>lZ _ x (Yp hx)),iV,Va,l];exact Ly _ _
 have N:=i e.docs (by simp[jG]);have M:=i e.tot (by simp[jG]);have L:=i e.at_ (by simp[jG]);have K:=i e.size (by simp[jG]);have hss:(eG ((dC e.key).drop c)).size=(dC e.key).length-c:=by rw[j9,hdl]
 have hse:(a.extract 0 c).size=c:=by rw[ByteArray.size_extract];omega
 refine sWk func230 ?_;refine gk (k:=alc (k:=λb6=>?_));refine go ?_;refine d2_ rfl (wi hk a8 T a8 h0) (e_ asn (on_ (qn_ (ws_ (wr_ (e_ mv (e_ mv ?_)))))));refine e_ (evq isb (congrArg (Value.int .i64) (by omega:(65:Int)-(c:Int)=((65-c:Nat):Int)))) ?_;refine d2_ rfl (NC (most:=65-c) a8 a8 T a8 h1) ?_;rw[←m];refine e_ mv (e_ exr (e_ exr (e_ asn (e_ asn (on_ (qn_ (ws_ (wr_ (e_ mv ?_)))))))));refine e_ (iB rfl) ?_;refine d1_ rfl vJ (on_ (qn_ (ws_ (wr_ (e_ mv (e_ mv (e_ (tE (b:=c)) (gk (k:=e_ I4 ?_)))))))));rw[s];refine e_ (bld [(0,_)]) (alc (k:=λd=>?_));refine gk (k:=dV 10 47 (k:=λh1=>gk (k:=ep 7 46 (k:=λh2=>gk (k:=iU (vs:=[_,_]) (hc:=(FY a8 a8)) (k:=eg_ mv (eg_ (evq ieq (congrArg Value.bool (Ys a8))) (gk (k:=edq)))))) (q:=gk (k:=edq)))) (q:=?_));rw[show(decide ((0:Int)<(e.key.size:Int))&&(first ||true))=true from by rw[Ys a8];simp];refine d1_ rfl vJ (go ?_);refine s_ (ek ePt [(d,1),(d,2),(d,3),(d,4)] bH rfl ax) ?_;rintro _ _ ⟨s53,rfl,rfl⟩;refine gk (k:=e8 (Nat×Nat×Nat×Nat×Nat×Nat) (λy=>(y.1=0∧y.2.1=g∨y.1=1∧y.2.1=g+(uv e.docs).length∧y.2.2.1=e.docs∨y.1=2∧y.2.1=g+(uv e.docs).length+(uv e.tot).length∧y.2.2.1=e.docs∧y.2.2.2.1=e.tot∨y.1=3∧y.2.1=g+(uv e.docs).length+(uv e.tot).length+(uv e.at_).length∧y.2.2.1=e.docs∧y.2.2.2.1=e.tot∧y.2.2.2.2.1=e.at_∨y.1=4∧y.2.1=g+(uv e.docs).length+(uv e.tot).length+(uv e.at_).length+(uv e.size).length∧y.2.2.1=e.docs∧y.2.2.2.1=e.tot∧y.2.2.2.2.1=e.at_∧y.2.2.2.2.2=e.size)) (λy=>[(55,iN y.1)]) [(0,_),(6,_),(10,_),(53,_),(54,_)] (λy=>[Rd b (xs,y.2.1),Vr d [.string e.key,iN y.2.2.1,iN y.2.2.2.1,iN y.2.2.2.2.1,iN y.2.2.2.2.2]]) _ (λy=>4-y.1) ((0,g,0,0,0,0)) (h0:=?_) (k:=?_))
 ·exact .inl ⟨rfl,rfl⟩
 rintro⟨j,C,va,vb,vc,B⟩ hj
 try dsimp only[Yd,Ye]at*
 have hpl:([(d,1),(d,2),(d,3),(d,4)]:List (Nat×Nat)).length=4:=rfl;refine gW (λh3=>?_) λh3=>?_
 ·obtain⟨U,n⟩:∃U,([(d,1),(d,2),(d,3),(d,4)]:List (Nat×Nat))[j]? =some U:=⟨_,Yi a8⟩;have u:xs.drop (g+(uv e.docs).length)=uv e.tot++(uv e.at_++(uv e.size++f)):=by rw[←Vt,w,Vg]
  have t:xs.drop (g+(uv e.docs).length+(uv e.tot).length)=uv e.at_++(uv e.size++f):=by rw[←Vt,u,Vg]
  have S:xs.drop (g+(uv e.docs).length+(uv e.tot).length+(uv e.at_).length)=uv e.size++f:=by rw[←Vt,t,Vg]
  obtain⟨A,p,J,r⟩:∃A,(jG e)[j]? =some A∧iH 2147483647 (xs.drop C)=.ok (A,(uv A).length)∧C≤xs.length:=by
   rcases hj with⟨rfl,rfl⟩|⟨rfl,rfl,_⟩|⟨rfl,rfl,_⟩|⟨rfl,rfl,_⟩|⟨rfl,_⟩
   ·exact⟨e.docs,rfl,by rw[w];exact gw _ a8 N,a8⟩
   ·exact⟨e.tot,rfl,by rw[u];exact gw _ a8 M,a8⟩
   ·exact⟨e.at_,rfl,by rw[t];exact gw _ a8 L,a8⟩
   ·exact⟨e.size,rfl,by rw[S];exact gw _ a8 K,a8⟩
   ·omega
  refine go ?_;refine d2_ rfl (wi (most:=2147483647) r a8 T a8 J) ?_;rcases hj with⟨rfl,rfl⟩|⟨rfl,rfl,rfl⟩|⟨rfl,rfl,rfl,rfl⟩|⟨rfl,rfl,rfl,rfl,rfl⟩|⟨rfl,_⟩
  all_goals (first|(simp only[Xb,Xc,jG,Option.some.injEq]at n p;subst n;subst p)|(exfalso;omega))
  ·refine go ?_;refine lN ((1,C+(uv e.docs).length,e.docs,vb,vc,B)) ?_
   exact .inr (.inl ⟨rfl,rfl,rfl⟩)
  ·refine go ?_;refine lN ((2,g+(uv e.docs).length+(uv e.tot).length,e.docs,e.tot,vc,B)) ?_
   exact .inr (.inr (.inl ⟨rfl,rfl,rfl,rfl⟩))
  ·refine go ?_;refine lN ((3,g+(uv e.docs).length+(uv e.tot).length+(uv e.at_).length,e.docs,e.tot,e.at_,B)) ?_
   exact .inr (.inr (.inr (.inl ⟨rfl,rfl,rfl,rfl,rfl⟩)))
  refine go ?_;refine lN ((4,g+(uv e.docs).length+(uv e.tot).length+(uv e.at_).length+(uv e.size).length,e.docs,e.tot,e.at_,e.size)) ?_
  exact .inr (.inr (.inr (.inr ⟨rfl,rfl,rfl,rfl,rfl,rfl⟩)))
 rcases hj with⟨rfl,rfl⟩|⟨rfl,rfl,rfl⟩|⟨rfl,rfl,rfl,rfl⟩|⟨rfl,rfl,rfl,rfl,rfl⟩|⟨rfl,rfl,rfl,rfl,rfl,rfl⟩
 ·exfalso;omega
 ·exfalso;omega
 ·exfalso;omega
 ·exfalso;omega
 rw[show g+(uv e.docs).length+(uv e.tot).length+(uv e.at_).length+(uv e.size).length=k+(oX (dC a) e).length from a8];exact gZ
end
section
variable {G:dJ}{H:dD}
theorem Zu {P:Program}{t:Tm}{dst:Option Tmp}{ty:TypeId}{pos:String}{after:Array Edge}{g:Option (Nat×Bool)}{T U:TypeId}{x y:Operand}{a b:ByteArray}(hx:evo t x=some (.string a):=by exact rfl) (hy:evo t y=some (.string b):=by exact rfl):Ev G P ⟨dst,.binOp .gtr T x y U,ty,pos,after,g⟩ t H (.bool (decide (dC b<dC a))):=
 fun ρ hρ w _=>by
  have e:(!(Op.bytesLess a.toList b.toList ||a.toList==b.toList))=decide (dC b<dC a):=by
   rw[ly,Bv,U2];simp only[Uf,Ut,Xy,Xq];rw[←not_or,←List.le_iff_lt_or_eq,List.not_le]
  simp only[execOp,hρ _ _ hx,hρ _ _ hy,eqGuard,binOp_string_gtr,e];all_goals rfl
theorem G4 {R:dD}{b k:Nat}{xs:List Nat} [hr:Rem H Rd b (xs,k) R] (hk:k≤xs.length) (hn:xs.length≤1000000000000):SC G prog 82 [pA b] H (λv a=>v=iN (xs.length-k)∧a=Rd b (xs,k)::R):=
 SC.out (Cn hr λs=>SC.mono (left (k:=(k:Int)) (n:=(xs.length:Int)) (r:= [s.val]) a8) λv a ⟨h1,h2⟩=>⟨Rd b (xs,k)::R,by rw[h2];exact hsb,by rw[h1];exact congrArg (Value.int .i64) a8,rfl⟩)
theorem Eh {R:dD}{b:Nat}{l:List En} [hg:Glb G R] [hr:Rem H Rd b (iC l,0) R] (V:w9 l) (hl:l.length≤100000000) (hn:(iC l).length≤1000000000):SC G prog 179 [pA b] H (λv H'=>∃s:SV,v=s.val∧H'=Row s eEn l::R):=by
 have hb:=Dx l;have b1:=MH l;have hend:=IW l;have hbk:16*gO l≤l.length+15∧l.length≤16*gO l:=cS;obtain⟨c,g⟩:=ex (iC l);rw[←g]at hb b1 hend hn;obtain⟨A,hA⟩:=ex ((uv l.length).length);obtain⟨B,hB⟩:=ex (gO l);obtain⟨Z,hZ⟩:=ex (A+(eH l B).1.length);rw[←hB]at hbk hend;have h0:iH (c.length-0) (c.drop 0)=.ok (l.length,A):=by
  rw[Va,R8,g,iC,Yf,hA];exact gw _ (a8) (by rw[←Yf,←iC,←g];omega)
 have b3:∀j,j<B→(eH l j).1.length≤(eH l B).1.length:=λj hj=>by
  obtain⟨r,r',h1,_⟩:=lr l j B (a8);rw[h1,Ya];omega
 have a0:∀j,j≤B→(eH l j).2.length≤(eH l B).2.length:=λj hj=>by
  obtain⟨r,r',_,h1⟩:=lr l j B (a8);rw[h1,Ya];omega
 have hr':Rem H Rd b (c,0) R:=by rw[g];exact hr
 clear hr;refine SC.rem (h:=hr') ?_;refine sWk func179 ?_;refine go ?_;refine d1_ rfl (G4 (a8) (a8)) ?_;refine d2_ rfl (wi (most:=c.length-0) (a8) (a8) hb (a8) h0) ?_;refine eu (dH.nilRow (e:=eI) dH.refl) ?_;rw[show Row SV.nil eI ([]:List Int)=Row SV.nil eI (n5 l 0)from rfl,Vw];refine go ?_;refine gk (k:=e8 (Nat×Nat×SV×Nat) (λy=>y.1=16*y.2.1∧y.2.1≤B∧y.2.2.2=A+(eH l y.2.1).1.length) (λy=>[(4,y.2.2.1.val),(5,iN y.1)]) [(0,_),(3,_)] (λy=>[Row y.2.2.1 eI (n5 l y.2.1),Rd b (c,y.2.2.2)]) _ (λy=>B-y.2.1) ((0,0,SV.nil,A)) (h0:=?_) (k:=?_))
 ·try dsimp only
  exact⟨rfl,Yl _,rfl⟩
 rintro⟨i,j,u,m⟩ ⟨hi,hj,f⟩
 try dsimp only[Yd,Ye]at*
 refine gW (λh1=>?_) (λh1=>?_)
 ·have M:j<B:=by omega
  obtain⟨r,t,hdl⟩:=IU (l:=l) (j:=j) (a8);have hs1:=b3 j M;have a4:=xd l j;have n:m≤c.length:=a8;have E:c.drop m=uv (fe [] (gB l j)).length++r:=by rw[g,f,hA];exact t
  have a9:=congrArg List.length E;rw[Yo,Ya]at a9;have a5:iH (c.length-m) (c.drop m)=.ok ((fe [] (gB l j)).length,(uv (fe [] (gB l j)).length).length):=by
   rw[E];exact gw _ (a8) (a8)
  refine go ?_;refine d1_ rfl (G4 n (a8)) ?_;refine d2_ rfl (wi (most:=c.length-m) n (a8) hb (a8) a5) (fS eI (k:=λs31=>?_));refine app (k:=λa2=>?_);rw[←Cg];refine go ?_;refine lN ((i+16,j+1,a2,m+(uv (fe [] (gB l j)).length).length)) ?_
  try dsimp only
  exact⟨a8,a8,by rw[eH];simp only[Ya];omega⟩
 have L:j=B:=a8;rw[L]at f⊢;have a4:=xd l B;rw[←hZ]at f;refine we_ (qe_ (le_ (bh_ (qn_ (ws_ (wr_ (e_ asn (on_ (qn_ (ws_ (ws_ (wr_ (?_)))))))))))));refine eu (dH.nilRow (e:=eEn) dH.refl) ?_;rw[show Row SV.nil eEn ([]:List En)=Row SV.nil eEn (l.take (16*0))from rfl];refine gk (k:=e8 (Nat×SV×Nat) (λy=>y.1≤B∧y.2.2=Z+(eH l y.1).2.length) (λy=>[(6,y.2.1.val),(35,iN y.1)]) [(0,_),(3,_),(33,_),(34,_)] (λy=>[Row y.2.1 eEn (l.take (16*y.1)),Rd b (c,y.2.2)]) (Row u eI (n5 l B)::R) (λy=>B-y.1) ((0,SV.nil,m)) (h0:=?_) (k:=?_))
 ·try dsimp only
  exact⟨Yl _,f⟩
 rintro⟨j,w,m⟩ ⟨hj,f⟩
 try dsimp only[Yd,Ye]at*
 refine gW (λh2=>?_) (λh2=>?_)
 ·have M:j<B:=by omega
  have hgt:=Eo (l:=l) M;have hs2:=a0 j (a8);have U:=a0 (j+1) (a8);rw[eH]at U;simp only[Ya]at U;have n:m≤c.length:=a8;obtain⟨r,t⟩:=MG (l:=l) (j:=j) (a8);rw[←g,←hB,←hA,←hZ,←f]at t;have Y:=ri l j;refine go ?_;refine go ?_;refine d1_ rfl (xb) (go ?_);refine d1_ rfl (G4 n (a8)) ?_;refine e_ (evq ile (congrArg Value.bool (Ys (a8)))) ?_;refine d1_ rfl (vJ) (go ?_);refine gk (k:=e8 (Nat×SV×ByteArray×Nat) (λy=>y.1≤16∧(16*j+y.1≤l.length)∧dC y.2.2.1=nk [] ((gB l j).take y.1)∧y.2.2.1.size≤65∧y.2.2.2=m+(fe [] ((gB l j).take y.1)).length) (λy=>[(6,y.2.1.val),(10,.string y.2.2.1),(11,iN y.1)]) [(0,_),(3,_),(9,_),(33,_),(34,_),(35,_)] (λy=>[Row y.2.1 eEn (l.take (16*j+y.1)),Rd b (c,y.2.2.2)]) (Row u eI (n5 l B)::R) (λy=>16-y.1) ((0,w,ByteArray.empty,m)) (h0:=?_) (k:=?_))
  ·try dsimp only
   exact⟨a8,a8,rfl,ae,rfl⟩
  rintro⟨a,S,C,kq⟩ ⟨hk,hkl,K,a7,p⟩
  try dsimp only[Yd,Ye]at*
  have a3:(l.take (16*j+a)).length=16*j+a:=az;refine gk (k:=dV 5 59 (k:=λh3=>gk (k:=edq)) (q:=gW (λh4=>?_) (λh4=>?_)))
  ·obtain⟨e,he⟩:=gE l (16*j+a);obtain⟨r',N⟩:=Ql t (a8) he;rw[←p,←K]at N;obtain⟨e1,e2,e3,e4,e5,e6⟩:=V.1 e (Yj he);have z:(gB l j)[a]? =some e:=by rw[DL l j a (a8)];exact he
   have b0:=congrArg List.length N;rw[Yo,Ya]at b0;have X:kq≤c.length:=by
    have h9:=congrArg List.length (show gB l j=(gB l j).take a++(gB l j).drop a from(Vd ..).symm);have h8:fe [] (gB l j)=fe [] ((gB l j).take a)++fe (nk [] ((gB l j).take a)) ((gB l j).drop a):=by
     conv=>lhs;rw[show gB l j=(gB l j).take a++(gB l j).drop a from(Vd ..).symm]
     exact rN _ _ _
    have h7:=congrArg List.length h8;rw[Ya]at h7;omega
   have T:=dK he;refine go ?_;refine d3_ rfl (JU (e:=e) X (a8) hb N ⟨e1,e2⟩ a7 (λx hx=>by simp only[jG,Xo,S9,or_false]at hx;rcases hx with rfl|rfl|rfl|rfl <;> omega)) (alc (k:=λb4=>?_));refine go ?_;refine wD [15] (λk H=>(k=1→Sl H S eEn (l.take (16*j+a)))∧(k=5→dQ H b4 [.string e.key,iN e.docs,iN e.tot,iN e.at_,iN e.size])∧(k=8→Sl H S eEn (l.take (16*j+a)))∧(k=10→Sl H S eEn (l.take (16*j+a)))∧(k=11→Sl H S eEn (l.take (16*j+a)))∧(k=12→Sl H S eEn (l.take (16*j+a)))) (aF 0 (k:=?_));refine aN 1 rfl (λH hH=>by have hN:=hH.1 rfl;exact lnn) (?_);refine aF 2 (k:=?_);refine fH 3 rfl rfl (aa) rfl (ea λH hH=>mv) (λh5=>?_) (λh5=>?_)
   ·replace h5:=nrm h5;refine ao_ 4 (k:=ao_ 5 (k:=ao_ 6 (k:=ao_ 7 (k:=ao_ 8 (k:=ao_ 9 (k:=ao_ 10 (k:=ao_ 11 (k:=ao_ 12 (k:=ao_ 13 (k:=aF 14 (k:=?_)))))))))));refine aS 15 rfl (v1_ (vJ)) ?_;rintro _ _ ⟨rfl,rfl⟩;refine aZ (gk (k:=fS eEn (k:=λa1=>?_)));refine app (k:=λF=>?_);rw[show l.take (16*j+a)++ [(⟨e.key,e.docs,e.tot,e.at_,e.size⟩:En)]=l.take (16*j+(a+1))from T.symm];refine go ?_;refine go ?_;refine lN ((a+1,F,e.key,kq+(oX (dC C) e).length)) ?_
    try dsimp only
    exact⟨a8,a8,(sW z []).symm,e2,by rw[p,qe z,K,Ya];omega⟩
   replace h5:=nrm h5;obtain⟨d,hd⟩:=gE l (16*j+a-1);have a6:=V.2 (16*j+a-1) d e hd (by rw[Q7 (a8)];exact he);have hd2:(l.take (16*j+a))[(l.take (16*j+a)).length-1]? =some d:=by rw[a3,Vp (a8)];exact hd
   refine ag_ 4 (q:=ea λH hH=>fla) (k:=?_);refine lH 5 rfl rfl rfl rfl (aa) rfl (ea λH hH=>ar) (?_);refine ag_ 6 (q:=ea λH hH=>mv) (k:=ag_ 7 (q:=ea λH hH=>mv) (k:=?_));refine lH 8 rfl rfl rfl rfl (aa) rfl (ea λH hH=>by have hN:=hH.2.2.1 rfl;exact lnn) (?_);refine ag_ 9 (q:=ea λH hH=>isb) (k:=?_);refine lH 10 rfl rfl rfl rfl (aa) rfl (ea λH hH=>bu) (?_);refine lH 11 rfl rfl rfl rfl (aa) rfl (ea λH hH=>by have hN:=hH.2.2.2.2.1 rfl;exact fle) (?_);refine lH 12 rfl rfl rfl rfl (aa) rfl (ea λH hH=>by have hN:=hH.2.2.2.2.2 rfl;exact lfl) (?_);refine lH 13 rfl rfl rfl rfl (aa) rfl (ea λH hH=>evq Zu (congrArg Value.bool (Ys a6))) (?_);refine go ?_;refine aS 15 rfl (v1_ (vJ)) ?_;rintro _ _ ⟨rfl,rfl⟩;refine aZ (gk (k:=fS eEn (k:=λa1=>?_)));refine app (k:=λF=>?_);rw[show l.take (16*j+a)++ [(⟨e.key,e.docs,e.tot,e.at_,e.size⟩:En)]=l.take (16*j+(a+1))from T.symm];refine go ?_;refine go ?_;refine lN ((a+1,F,e.key,kq+(oX (dC C) e).length)) ?_
   try dsimp only
   exact⟨a8,a8,(sW z []).symm,e2,by rw[p,qe z,K,Ya];omega⟩
  have b2:(gB l j).take a=gB l j:=Xr (by rw[Y];omega);rw[b2]at p;have J:l.take (16*j+a)=l.take (16*(j+1)):=by
   by_cases h9:a=16
   ·rw[h9];all_goals rfl
   ·rw[Xr (a8),Xr (a8)]
  rw[J];refine go ?_;refine d1_ rfl (xb) (e_ mv ?_);refine e_ (evq ieq (congrArg Value.bool (Ys (a8)))) ?_;refine d1_ rfl (vJ) (go ?_);refine lN ((j+1,S,kq)) ?_
  try dsimp only
  exact⟨a8,by rw[eH];simp only[Ya];omega⟩
 have L:j=B:=a8;rw[L]at f⊢;rw[show l.take (16*B)=l from Xr (a8)];have n:m=c.length:=a8;refine go ?_;refine d1_ rfl (SC.mono (tC (a8)) (λv H' h=>(by
  rcases h with⟨h1,(⟨h2,_⟩|⟨_,h3⟩)⟩
  ·omega
  ·exact⟨h3,h1⟩:v=.nilIface∧H'=_))) ?_
 refine e_ (iB rfl) ?_;refine d1_ rfl (vJ) (gR ?_);exact⟨_,hsb,w,rfl,rfl⟩
end
theorem l6 (a:Act) (ds:List Deferred) (dst:Option Tmp) (v:Value):({a with defers:=a.defers++ds}:Act).put dst v={a.put dst v with defers:=(a.put dst v).defers++ds}:=by cases dst <;> rfl
theorem vF {P:Program}{ops:Array Oper}{Q:Exit→Act→World→Prop}(ds:List Deferred):∀(l:List Oper) (a:Act) (w:World),wpList P ops (λe a' w'=>Q e {a' with defers:=a'.defers++ds} w') l a w→wpList P ops Q l {a with defers:=a.defers++ds} w
 | [],_,_,h=>h
 |o::l,a,w,h=>by
  have ih:=vF (P:=P) (ops:=ops) (Q:=Q) ds l;unfold wpList at h⊢
  by_cases hw:Region.wanted o (yielded ops a.tmps)=true
  ·rw[if_pos hw]at h;rw[if_pos (by exact hw)];rcases h with h|⟨h,a0,w0,hq⟩
   ·left;change o.upon P a _ _ ((execOp a.eval o).run P w)at h;show o.upon P {a with defers:=a.defers++ds} _ _ ((execOp a.eval o).run P w);generalize (execOp a.eval o).run P w=r at h⊢;unfold Oper.upon at h⊢
    split at h
    ·rw[l6];exact ih _ _ h
    ·rw[l6];exact ih _ _ h
    ·rename_i d w';have:=l6 {a with defers:=d::a.defers} ds o.dst undef;simp only at this⊢;rw[show(d::(a.defers++ds))=(d::a.defers)++ds from rfl,this];exact ih _ _ h
    ·exact Calls.mono h λe w' he=>by
       cases e with
       |returned v=>simp only at he⊢;rw[l6];exact ih _ _ he
       |panicked chain=>exact he
       |outgrown=>obtain⟨a0,w0,hq⟩:=he;exact⟨_,w0,hq⟩
    ·exact Rows.mono h λv w' he=>by rw[l6];exact ih _ _ he
    ·exact h
    ·exact h.elim
   ·exact .inr ⟨h,_,w0,hq⟩
  ·rw[if_neg hw]at h;rw[if_neg (by exact hw),l6];exact ih _ _ h
theorem vG {P:Program}{ops:Array Oper}{Q Q':Exit→Act→World→Prop}(hq:∀e a w,Q e a w→Q' e a w):∀(l:List Oper) (a:Act) (w:World),wpList P ops Q l a w→wpList P ops Q' l a w
 | [],_,_,h=>hq _ _ _ h
 |o::l,a,w,h=>by
  have ih:=vG (P:=P) (ops:=ops) hq l;unfold wpList at h⊢
  by_cases hw:Region.wanted o (yielded ops a.tmps)=true
  ·rw[if_pos hw]at h⊢;rcases h with h|⟨h,a0,w0,hq0⟩
   ·left;change o.upon P a _ _ ((execOp a.eval o).run P w)at h;show o.upon P a _ _ ((execOp a.eval o).run P w);generalize (execOp a.eval o).run P w=r at h⊢;unfold Oper.upon at h⊢
    split at h
    ·exact ih _ _ h
    ·exact ih _ _ h
    ·exact ih _ _ h
    ·exact Calls.mono h λe w' he=>by
       cases e with
       |returned v=>exact ih _ _ he
       |panicked chain=>exact hq _ _ _ he
       |outgrown=>obtain⟨a0,w0,hq0⟩:=he;exact⟨_,w0,hq _ _ _ hq0⟩
    ·exact Rows.mono h λv w' he=>ih _ _ he
    ·exact hq _ _ _ h
    ·exact h.elim
   ·exact .inr ⟨h,_,w0,hq _ _ _ hq0⟩
  ·rw[if_neg hw]at h⊢;exact ih _ _ h
theorem KG (h g:Value) (w:World):CallsD prog 178 #[h,g] .returning w λe c b=>e=.returned (.tuple #[])∧c=.returning∧b=w:=by
 have a:∀w:World,(binOp BinOp.neq 20 .nilIface .nilIface).run prog w=.ok (.bool false) w:=λ_=>aa;refine callsD_of_wpS func178 rfl λf cs d=>?_;apply wpS_seq;apply wpS_region;simp[wpOpsS,go_sem,recoverD,d,ntmps178,Exit.thenS];apply wpS_seq;apply wpS_region;simp[wpOpsS,go_sem,a,Exit.thenS];refine wpS_cond (t:=false) (by simp[Act.eval,Array.replicate]) ?_;simp only[Xx,if_false];refine wpS_of_wp (wp_skip ?_);cases f
 simp_all [bodyPostS,results,results178]
theorem n7 {P:Program}{f:FuncId}{a:Func}{c:Code}(hf:P.funcs[f]? =some a) (b:a.body=some c) (hn:(a.name== "runtime.NumGoroutine")=false) (xs:Array Value) (w:World):(callFunc f xs).run P w=.ok (.enter f xs) w:=by
 have hn':¬a.name= "runtime.NumGoroutine" :=by simpa using hn
 simp[callFunc,hf,b,hn']
theorem HR {G:dJ}{H:dD}{s:SV}{l:List En} [hg:Glb G H] [hs:Sl H s eB (iC l)] (B:w9 l) (hl:l.length≤100000000) (hn:(iC l).length≤1000000000):SC G prog 119 [s.val] H (λv p=>∃(b:Nat) (i:SV),v=.tuple #[pA b,.nilIface]∧p=Vr b [i.val]::Row i eEn l::H):=by
 refine⟨n7 func119 rfl aa,λw L=>?_⟩;refine calls_of_wp_defers func119 rfl ?_;have hN:f119.ntmps=10:=rfl;have E:Fr 10 (w3 0 [s.val]) {tmps:= #[s.val]++Array.replicate (f119.ntmps - #[s.val].size) undef,defers:= []}:=by
  refine⟨by simp[hN],rfl,λn v hv=>?_⟩;obtain⟨_,h2⟩:=xN [s.val] 0 n v hv;have C:=(Yk.1 h2).1;rw[Uu (by simpa using C)]
  simpa using h2
 have F:W G prog 10 (Code.region 0 #[(⟨some 2,.alloc 158,0, "dict.go:79", #[],none⟩:Oper),⟨some 3,.alloc 47,0, "dict.go:79", #[],none⟩] false) (λe t p=>e=.normal∧∃g c:Nat,t=put (put (w3 0 [s.val]) (some 2) (pA g)) (some 3) (pA c)∧p=Vr c [.nilIface]::Vr g [.pointer none]::H) (w3 0 [s.val]) H:=
  wr_ (alc (k:=λg=>alc (k:=λc=>on_ ⟨rfl,g,c,rfl,rfl⟩)))
 refine wp_seq (wp_mono (F.go _ w E L) ?_);rintro e q m ⟨t1,H1,a,z,rfl,g,c,rfl,rfl⟩;simp only[Exit.then];have hL0:=a.look 0 s.val rfl;have hL2:=a.look 2 _ rfl;have hL3:=a.look 3 _ rfl;refine wp_seq (wp_region_lit (l:= [(⟨some 4,.makeFunc (.func 178) #[] #[.tmp 2,.tmp 3],1, "dict.go:80", #[],none⟩:Oper),⟨none,.defer ⟨.value (.tmp 4), #[], #[]⟩,0, "dict.go:80", #[⟨0,.data⟩],none⟩]) ?_);have T:q.eval (.tmp 2)=pA g:=a.agree _ _ rfl;have S:q.eval (.tmp 3)=pA c:=a.agree _ _ rfl;unfold wpList;rw[if_pos cM];left;show Oper.upon _ _ _ _ _ ((execOp q.eval _).run _ _);have hx:(execOp q.eval ⟨some 4,.makeFunc (.func 178) #[] #[.tmp 2,.tmp 3],1, "dict.go:80", #[],none⟩).run prog m=.ok (.value (.func (.func 178) #[] #[pA g,pA c])) m:=by
  simp[execOp,Instr.makeFunc,T,S,Sem.run_bind,Sem.run_pure,Result.andThen_ok]
 rw[hx,Oper.upon_value];have j:=a.put (d:=some 4) rfl (.func (.func 178) #[] #[pA g,pA c]);obtain⟨h,y⟩:=ex (q.put (some 4) (.func (.func 178) #[] #[pA g,pA c]));rw[←y]at j;show wpList _ _ _ _ (q.put (some 4) _) m;rw[←y];have R:h.eval (.tmp 4)=.func (.func 178) #[] #[pA g,pA c]:=j.agree _ _ rfl;unfold wpList;rw[if_pos cM];left;show Oper.upon _ _ _ _ _ ((execOp h.eval _).run _ _);have hy:(execOp h.eval ⟨none,.defer ⟨.value (.tmp 4), #[], #[]⟩,0, "dict.go:80", #[⟨0,.data⟩],none⟩).run prog m=.ok (.defer ⟨.fn (.func 178) #[pA g,pA c], #[]⟩) m:=by
  simp[execOp,resolve,R,Deferred.ofValue,Sem.run_bind,Sem.run_pure,Result.andThen_ok]
 rw[hy,Oper.upon_defer];refine wpList_nil ?_;simp only[Exit.then];have N:h.defers= []:=j.defers;obtain⟨d,hd⟩:∃d:Deferred,d=⟨.fn (.func 178) #[pA g,pA c], #[]⟩:=⟨_,rfl⟩;rw[←hd,show Act.put {h with defers:=d::h.defers} none undef={h with defers:=h.defers++ [d]}from by rw[N];all_goals rfl];refine wp_seq (wp_region_lit (l:= [(⟨some 5,.move (.tmp 0),31, "dict.go:85", #[],none⟩:Oper),⟨some 6,.call ⟨.value (.func 81), #[.tmp 5], #[31]⟩,170, "dict.go:85", #[⟨0,.data⟩],none⟩,⟨some 7,.call ⟨.value (.func 179), #[.tmp 6], #[170]⟩,261, "dict.go:85", #[⟨1,.data⟩,⟨1,.chain⟩],none⟩,⟨some 8,.build 263 #[(0,.tmp 7)],263, "dict.go:85", #[⟨2,.data⟩],none⟩,⟨some 9,.box 263 (.tmp 8),158, "dict.go:85", #[⟨3,.data⟩],none⟩,⟨none,.store 158 (.tmp 2) (.tmp 9),0, "dict.go:85", #[⟨4,.data⟩,⟨2,.chain⟩,⟨0,.phase⟩,⟨1,.phase⟩,⟨2,.phase⟩,⟨3,.phase⟩,⟨4,.phase⟩],none⟩,⟨none,.store 47 (.tmp 3) (.const .nilIface),0, "dict.go:85", #[⟨5,.chain⟩,⟨0,.phase⟩,⟨1,.phase⟩,⟨2,.phase⟩,⟨3,.phase⟩,⟨4,.phase⟩,⟨5,.phase⟩],none⟩]) (vF [d] _ h m ?_));refine vG (Q:=up G 10 (λe t p=>e=.normal∧∃(b:Nat) (i:SV),dH p (Vr b [i.val]::Row i eEn l::H)∧N9 prog f119 (λv _=>v=.tuple #[pA b,.nilIface]) .ret t p)) (λe J K M=>?_) _ _ _ (O.go ?_ h m j z)
 ·obtain⟨t',p,x,r,rfl,b,i,A,he,v,rfl,u⟩:=M;simp only[Exit.then];refine wp_ret ?_;show Leaves _ _ J.tmps _ (J.defers++ [d]) .returning K;rw[x.defers,Ye,hd];refine leaves_cons (f:=178) (args:= #[pA g,pA c]) aq ?_ ?_
  ·show(callFunc 178 (#[]++ #[_,_])).run _ _=_;exact n7 func178 rfl aa _ _
  ·refine(KG _ _ K).mono ?_;rintro e u' w'' ⟨rfl,rfl,rfl⟩;exact⟨_,u G 10 J _ x r,_,A.sat r,b,i,rfl,rfl⟩
 ·refine e_ mv (k:=c1_ rfl (l3 (xs:=iC l) a8) (k:=?_));rintro _ _ ⟨br,rfl,rfl⟩;refine c1_ rfl (Eh B hl hn) (k:=?_);rintro _ _ ⟨i,rfl,rfl⟩;refine e_ (bld [(0,_)]) (k:=bxx (k:=λU=>sto (k:=sto (k:=on_ ⟨rfl,U,i,hsb,?_⟩))));exact rt_ results119 (k:=rfl)
section
variable {G:dJ}{H R:dD}{P:Program}{after:Array Edge}{dst:Option Tmp}{g:Option (Nat×Bool)}{pos:String}{t:Tm}{ty:TypeId}{xs:List Nat}
theorem Mx {T U:TypeId}{x y:Operand}{i j:Int}(hx:evo t x=some (.int .i64 i)) (hy:evo t y=some (.int .i64 j)) (a b:Nat) (ha:i=a) (c:j=b) (hla:a<9223372036854775808) (hlb:b<9223372036854775808):
 Ev G P ⟨dst,.binOp .and T x y U,ty,pos,after,g⟩ t H (iN (a &&& b)):=
 fun ρ hρ w _=>by
  have h2:a &&& b≤a:=Nat.and_le_left;have e:(BitVec.ofInt 64 (a:Int) &&& BitVec.ofInt 64 (b:Int)).toNat=a &&& b:=by
   rw[iL,iL,BitVec.toNat_and,BitVec.toNat_ofNat,BitVec.toNat_ofNat,Xw a8,Xw a8]
  have f:IntKind.wrap .i64 ((a &&& b:Nat):Int)=((a &&& b:Nat):Int):=kH a8;have d:IntKind.wrap .i64 (((BitVec.ofInt (IntKind.bits .i64) (a:Int) &&& BitVec.ofInt (IntKind.bits .i64) (b:Int)).toNat:Nat):Int)=((a &&& b:Nat):Int):=by rw[←f];exact congrArg (λn:Nat=>IntKind.wrap .i64 (n:Int)) e
  simp only[execOp,hρ _ _ hx,hρ _ _ hy,eqGuard,binOp,Op.intBits,ha,c];simp only[Sem.run_bind,Sem.run_pure,ne_eq,not_true_eq_false,↓reduceIte];rw[d];all_goals rfl
theorem H4 {T U:TypeId}{x y:Operand}{a b:Int}(hx:evo t x=some (.int .i64 a)) (hy:evo t y=some (.int .i64 b)):
 Ev G P ⟨dst,.binOp .sub T x y U,ty,pos,after,g⟩ t H (.int .i64 (IntKind.i64.wrap (a-b))):=
 fun ρ hρ w _=>by simp[execOp,hρ _ _ hx,hρ _ _ hy,eqGuard,binOp,Op.intArith]
theorem Hm {s:SV}{m N a w:Nat} [hs:Sl H s eB (leB m N)] (hm:a+w≤8*m) (hw:w≤40) (hm9:m≤10000000000):SC G prog 296 [s.val,iN a,iN w] H (λv i=>v=iN (N/2^a%2^w)∧i=H):=by
 have hlen:=gH m N;refine sWk func296 ?_;refine go ?_;refine gk (k:=e8 (Nat×Nat) (λy=>y.1≤w∧y.2=N/2^a%2^y.1) (λy=>[(7,iN y.2),(8,iN y.1)]) [(0,_),(1,_),(2,_)] (λy=>[]) _ (λy=>w-y.1) ((0,0)) (h0:=?_) (k:=?_))
 ·try dsimp only
  exact⟨Yl _,by simp[Nat.mod_one]⟩
 rintro⟨d,v⟩ ⟨hd,hv⟩
 try dsimp only[Yd,Ye]at*
 refine gW (λh1=>?_) λh1=>?_
 ·obtain⟨b,htk⟩:=ex (min (8-(a+d)%8) (w-d));obtain⟨x,hx,hx8,g⟩:=J2 (m:=m) (N:=N) (T:=a+d) (t:=b) a8 a8;have hlt:(a+d)/8<(leB m N).length:=a8;have hp8:2^b≤2^8:=X0 ae a8;have h:0<2^b:=U3 b;have hv40:v<2^40:=by rw[hv];exact Q6 (V2 _ (U3 d)) (X0 ae a8)
  have hxs:x/2^((a+d)%8)≤x:=Nat.div_le_self _ _;have f:x/2^((a+d)%8) &&& (2^b-1)=N/2^(a+d)%2^b:=by rw[Nat.and_two_pow_sub_one_eq_mod,g]
  have hy256:N/2^(a+d)%2^b<256:=by have:=V2 (N/2^(a+d)) h;omega
  have e:2^d≤2^40:=X0 ae a8;have hsh:N/2^(a+d)%2^b*2^d≤255*2^40:=Uv a8 e;have c:=J1 (N:=N) (at_:=a) (got:=d) (t:=b);rw[←hv]at c;refine wk_ (qn_ (wb_ (ws_ (wr_ (e_ mv (e_ mv (e_ mv (e_ iad ?_))))))));refine e_ (fX rfl rfl (a+d) 8 a8 rfl ae ai) ?_;refine e_ ixa (e_ (lel (hy:=hx)) ?_);refine e_ (ew rfl a8) ?_;refine e_ mv (e_ mv (e_ iad ?_));refine e_ (mw rfl rfl (a+d) 8 a8 rfl ae) ?_;refine e_ (hX rfl rfl x ((a+d)%8) rfl rfl (by show _≤64;omega)) ?_;refine e_ asn (on_ (qn_ (ws_ (wr_ (e_ mv (e_ mv (e_ iad ?_)))))));refine e_ (mw rfl rfl (a+d) 8 a8 rfl ae) ?_;refine e_ isb (e_ mv (e_ mv (e_ isb ?_)));refine e_ (oh rfl rfl) ?_;refine e_ (asv (v:=iN b) rfl (congrArg (Value.int .i64) a8)) ?_;refine on_ (qn_ (ws_ (wr_ (e_ mv (e_ mv (e_ mv ?_))))));refine e_ (ye rfl rfl 1 b rfl rfl a8 a8) ?_;refine e_ (evq isb (congrArg (Value.int .i64) (show _=((2^b-1:Nat):Int)from a8))) ?_;refine e_ (evq (Mx rfl rfl (x/2^((a+d)%8)) (2^b-1) rfl rfl a8 a8) (congrArg (λn:Nat=>iN n) f)) ?_;refine e_ mv ?_;refine e_ (ye rfl rfl (N/2^(a+d)%2^b) d rfl rfl a8 a8) ?_;refine e_ (evq (Bd rfl rfl v (N/2^(a+d)%2^b*2^d) rfl rfl a8 a8) (congrArg (λn:Nat=>iN n) c)) (go ?_);refine lN ((d+b,N/2^a%2^(d+b))) ?_
  exact⟨a8,rfl⟩
 obtain rfl:d=w:=a8;refine gR ?_;exact⟨_,hsb,by rw[←hv];all_goals rfl,rfl⟩
theorem G7 {b k x:Nat} [hg:Glb G R] [hr:Rem H Rd b (xs,k) R] (hx:xs[k]? =some x) (hn:xs.length≤1000000000000):SC G prog 83 [pA b] H (λv a=>v=.tuple #[.int .u8 (x:Int),.nilIface]∧a=Rd b (xs,k+1)::R):=
 SC.mono (WZ (Nat.le_of_lt (Yk.1 hx).1) hn) λv a h2=>by
  have hlt:=(Yk.1 hx).1;rcases h2 with⟨h3,_⟩|⟨y,h3,h4,h5⟩
  ·omega
  ·rw[hx]at h3;cases h3;exact⟨h4,h5⟩
theorem Mk {α:Type}{full:List α}{z:α}{i:Nat}{x:α}(h:full[i]? =some x):(gx full z (i+1))[i]? =some x:=by
 have hi:=(Yk.1 h).1;rw[gx,Yv az,Vp a8,h]
theorem SN {b k most:Nat}{ns d:List Nat} [hg:Glb G R] [hr:Rem H Rd b (xs,k) R] (hn:xs.length≤10000000000) (hb:∀x∈xs,x<256) (h:xs.drop k=ff ns++d) (hm:ns.length≤most) (hmo:most≤65536) (hl:∀x∈ns,x<1099511627776):
 SC G prog 269 [pA b,iN most] H (λv H'=>∃s:SV,v=.tuple #[s.val,.nilIface]∧H'=Row s eI (dT ns)::Rd b (xs,k+(ff ns).length)::R):=by
 have p:=eJ ns;have hpl:(ff ns).length+d.length=xs.length-k:=by rw[←Ya,←h,Yo]
 have hpos:1≤(ff ns).length:=by have:=sM ns.length;rw[ff,Ya];omega
 obtain⟨A,hA⟩:=ex ((uv ns.length).length);have h0:iH most (xs.drop k)=.ok (ns.length,A):=by rw[h,ff,Yf,hA];exact gw _ a8 hm
 refine SC.rem (h:=hr) ?_;refine sWk func269 ?_;refine ws_ (wr_ (e_ asn (e_ asn (on_ (qn_ (ws_ (wr_ (e_ mv (e_ mv ?_)))))))));refine d2_ rfl (wh a8 a8 hb a8 h0) (e_ mv (e_ exr (e_ exr (e_ asn (e_ asn (on_ (qn_ (ws_ (ws_ (wr_ (e_ mv ?_)))))))))));refine e_ (dL rfl) ?_;refine e_ mv (eg_ mv (eg_ ieq (e_ pkf (on_ (qn_ (wi_ (k:=λh1=>?_) (m:=λh1=>?_)))))))
 ·have l:ns= []:=Uc a8;have U:(ff ns).length=A:=by rw[ff,if_pos l,Ym,hA]
  rw[U];subst l;refine ws_ (wr_ (e_ mv (e_ asn (e_ asn (on_ (qn_ (wt_ (qr_ (rT (k:=?_))))))))));exact⟨_,hsb,SV.nil,rfl,rfl⟩
 have V:¬ns= []:=λh=>by have h9:=h1;rw[h]at h9;exact h9 rfl
 obtain⟨W,K⟩:=ex (fO (orL ns));have f:W≤40:=by rw[K,j7];exact qU (k:=40) ae hl
 have B:∀x∈ns,x<2^W:=λx hx=>by rw[K];exact KT hx
 obtain⟨m,C⟩:=ex ((ns.length*W+7)/8);obtain⟨N,hN⟩:=ex (jd W ns);have j:ff ns=uv ns.length++(W::leB m N):=by rw[ff,if_neg V,←K,Gu,C,hN]
 have S:(ff ns).length=A+1+m:=by rw[j,Ya,Yb,gH,hA];omega
 have J:xs.drop (k+A)=W::(leB m N++d):=by rw[←Vt,h,j,Yf,hA,Vg];all_goals rfl
 have M:xs[k+A]? =some W:=by have:=congrArg (·[0]?) J;simpa using this
 have Y:xs.drop (k+A+1)=leB m N++d:=by rw[←Vt,J];all_goals rfl
 have r:(xs.take (k+A+1+m)).drop (k+A+1)=leB m N:=by
  rw[List.drop_take,show k+A+1+m-(k+A+1)=m from a8,Y];exact List.take_left' (gH m N)
 have hnW:ns.length*W≤ns.length*40:=V7 _ f;have t:(ns.length:Int)*(W:Int)=((ns.length*W:Nat):Int):=aq;refine wk_ (qn_ (ws_ (wr_ (e_ mv ?_))));refine d1_ rfl (G7 M a8) (e_ mv (e_ exr (e_ exr (e_ asn (e_ asn (on_ (qn_ (ws_ (ws_ (wr_ (e_ mv ?_)))))))))));refine e_ (dL rfl) ?_;refine on_ (qn_ (fM (k:=wk_ (qn_ (ws_ (wr_ (e_ mv ?_)))))));refine e_ (ew rfl a8) ?_;refine e_ asn (on_ (qn_ (ws_ (wb_ (ws_ (ws_ (wr_ (e_ mv (e_ igt (e_ asn (on_ (qn_ (wi_ (k:=λh2=>?_) (m:=λh2=>?_))))))))))))))
 ·exact absurd h2 a8
 refine wr_ (e_ mv (e_ ieq (e_ mv (dV 3 47 (k:=λh3=>eg_ mv (eg_ igt (e_ pkt (on_ edq)))) (q:=e_ asn (on_ (qn_ (wi_ (k:=λh4=>?_) (m:=λh4=>?_)))))))))
 ·obtain⟨c1,Z⟩:=h4;exact absurd Z a8
 refine ws_ (wr_ ?_);refine pO b λs=>?_;have hcutS:Sl (Row s eB xs::R) (s.cut 1 (k+A+1) (k+A+1+m)) eB (leB m N):=by
  have:=Sl.cut (H:=Row s eB xs::R) (s:=s) (e:=eB) (xs:=xs) inferInstance (lo:=k+A+1) (hi:=k+A+1+m) a8 a8;rw[r]at this;exact this
 have T:0<W→ns.length≤(xs.length-(k+A+1))*8/W:=λhw=>by rw[Nat.le_div_iff_mul_le hw];omega
 refine e_ mv (e_ igt (e_ mv (dV 10 62 (c:=decide ((((xs.length-(k+A+1))*8/W:Nat):Int)<(ns.length:Int))) (k:=λh6=>?_) (q:=?_))))
 ·have hW0:0<W:=by have h9:=h6;omega
  refine eg_ mv (eg_ mv (eg_ nck (eg_ fla ?_)));refine sg_ (lU (vs:= [_]) rfl (left (k:=((k+A+1:Nat):Int)) a8)) (k:=?_);rintro _ _ ⟨rfl,rfl⟩;refine eg_ (evq iml (congrArg (Value.int .i64) (show _=(((xs.length-(k+A+1))*8:Nat):Int)from a8))) ?_;refine eg_ mv ?_;refine eg_ (fX rfl rfl ((xs.length-(k+A+1))*8) W rfl rfl a8 ai) ?_;refine eg_ igt (e_ pkt (on_ edq))
 refine e_ asn (on_ (qn_ (wi_ (k:=λh7=>?_) (m:=λh7=>?_))))
 ·obtain⟨c1,Z⟩:=h7;have:=T a8;exact absurd Z a8
 refine wk_ (bn_ (qn_ (ws_ (wr_ (e_ mv (e_ mv ?_))))));refine e_ (evq iml (congrArg (Value.int .i64) t)) ?_;refine e_ iad ?_;refine e_ (evq (fX rfl rfl (ns.length*W+7) 8 a8 rfl ae ai) (congrArg (λn:Nat=>iN n) C.symm)) ?_;refine e_ asn (on_ (qn_ (ws_ ?_)));refine dX dN (as_ 0 (q:=mv) (k:=as_ 1 (q:=nck) (k:=as_ 2 (q:=fla) (k:=as_ 3 (q:=ldv) (k:=as_ 4 (q:=mv) (k:=as_ 5 (q:=nck) (k:=as_ 6 (q:=fla) (k:=as_ 7 (q:=fla) (k:=as_ 8 (q:=ldv) (k:=as_ 9 (q:=mv) (k:=as_ 10 (q:=nck) (k:=as_ 11 (q:=fla) (k:=as_ 12 (q:=fla) (k:=?_))))))))))))));refine as_ 13 (q:=ldv) (k:=as_ 14 (q:=mv) (k:=as_ 15 (q:=iad) (k:=?_)));refine dS 16 rfl rfl aa rfl (ey (fV rfl bH (k+A+1) (k+A+1+m) ⟨_,_,rfl,rfl⟩ ⟨_,_,rfl,a8⟩ a8 a8)) ?_;refine as_ 17 (q:=asn) (k:=az_ (k:=qn_ (ws_ (wr_ (e_ mv ?_)))));refine s_ (gn eI 0 rfl rfl ns.length ns.length rfl rfl rfl (Xl _) a8 a8) ?_;rintro _ _ ⟨L,rfl,hsln,hslc,rfl⟩;rw[show List.replicate ns.length (0:Int)=gx (dT ns) 0 0 from by rw[mW,p]];refine e_ asn (on_ (qn_ (ws_ (wr_ (e_ asn (e_ asn (on_ (qn_ (ws_ (ws_ (wr_ (e_ mv ?_))))))))))));have hfl:=kG (full:=dT ns) (z:=(0:Int)) (i:=0) (Yl _);refine e_ lnn (e_ mv (on_ (qn_ (wb_ (e8 (Nat×Nat) (λy=>y.1≤ns.length∧y.2=y.1*W) (λy=>[(13,iN y.2),(14,iN (orL (ns.take y.1))),(90,iN y.1)]) [(0,_),(9,_),(10,_),(11,_),(12,_),(89,_)] (λy=>[Row L eI (gx (dT ns) 0 y.1)]) _ (λy=>ns.length-y.1) ((0,0)) (h0:=?_) (k:=?_))))))
 ·try dsimp only
  exact⟨Yl _,by rw[Nat.zero_mul]⟩
 rintro⟨i,g⟩ ⟨hi,X⟩
 try dsimp only[Yd,Ye]at*
 subst X;refine ws_ (wr_ (e_ ilt (on_ (qn_ (ws_ (wi_ (k:=λh8=>?_) (m:=λh8=>?_)))))))
 ·obtain⟨x,hx⟩:=gE ns i;have u:=gh hx;have hx40:=hl x (Yj hx);have hiW:i*W≤i*40:=V7 _ f;have hi1:(i+1)*W≤ns.length*W:=Vu _ a8;have hi2:(i+1)*W=i*W+W:=by rw[Vy,Nat.one_mul]
  have F:N/2^(i*W)%2^W=x:=by rw[hN,V5];exact Ig hx B
  have hfi:=kG (full:=dT ns) (z:=(0:Int)) (i:=i) a8;have hfi1:=kG (full:=dT ns) (z:=(0:Int)) (i:=i+1) a8;have E:=Mk (z:=(0:Int)) u;have ho:orL (ns.take i)<2^40:=qU ae λy hy=>hl y (Yq hy);refine wk_ (qn_ (ws_ (wb_ (ws_ (wr_ (e_ mv (e_ asn (on_ (qn_ (ws_ (wr_ (e_ mv (e_ mv ?_)))))))))))));refine e_ mv (e_ mv (e_ mv ?_));refine d3_ rfl (Hm (m:=m) (N:=N) (a:=i*W) (w:=W) a8 f a8) ?_;rw[F];refine e_ ixa ?_;refine s_ (et (i:=i) rfl rfl rfl a8) ?_;rintro _ _ ⟨rfl,rfl⟩;rw[oT u];refine on_ (qn_ (ws_ (wr_ (e_ mv (e_ mv ?_)))));refine e_ (evq iad (congrArg (Value.int .i64) (show _=(((i+1)*W:Nat):Int)from a8))) ?_;refine e_ asn (on_ (qn_ (wr_ (e_ mv (e_ mv (e_ mv (e_ ixa (e_ (lel (hy:=E)) ?_))))))));refine e_ (evq (Bd rfl rfl (orL (ns.take i)) x rfl rfl a8 a8) (congrArg (λn:Nat=>iN n) (CF hx).symm)) ?_;refine e_ asn (on_ (bn_ (qn_ (wr_ (e_ iad (e_ mv (on_ ?_)))))));refine lN ((i+1,(i+1)*W)) ?_
  exact⟨a8,rfl⟩
 obtain rfl:i=ns.length:=a8;have ho:orL ns<2^40:=qU ae hl;rw[Xn,show gx (dT ns) (0:Int) ns.length=dT ns from by rw[←p,nu]];have hend:N/2^(ns.length*W)%2^(m*8-ns.length*W)=0:=by rw[hN,V5];exact Ih B _
 refine we_ (qe_ (le_ (bh_ (qn_ (ws_ (ws_ (wr_ (e_ mv ?_))))))));refine e_ (dW 18446744073709551616 rfl rfl rfl (orL ns) rfl a8) ?_;refine d1_ rfl (Wb a8) ?_;rw[←K];refine e_ mv ?_;refine e_ (evq ine (congrArg Value.bool (show _=false from Yr (λh=>h rfl)))) ?_;refine e_ mv (eg_ mv (eg_ mv (eg_ mv ?_)));refine eg_ (evq iml (congrArg (Value.int .i64) (show _=((m*8:Nat):Int)from a8))) ?_;refine eg_ mv ?_;refine eg_ (evq isb (congrArg (Value.int .i64) (show _=((m*8-ns.length*W:Nat):Int)from a8))) ?_;refine sg_ (lU (vs:= [_,_,_]) rfl (Hm (m:=m) (N:=N) (a:=ns.length*W) (w:=m*8-ns.length*W) a8 a8 a8)) (k:=?_);rintro _ _ ⟨rfl,rfl⟩;rw[hend];refine eg_ (evq ine (congrArg Value.bool (show _=false from Yr (λh=>h rfl)))) ?_;refine e_ pkf (on_ (qn_ (fM (k:=wk_ (qn_ (ws_ (wr_ (e_ mv (e_ nck (e_ fla (e_ fla (e_ ldv (e_ mv ?_)))))))))))));refine e_ (evq iad (congrArg (Value.int .i64) (show _=((k+A+1+m:Nat):Int)from a8))) ?_;refine e_ nck (e_ fla (e_ fla (sto (k:=on_ (qn_ (ws_ (wr_ (e_ mv (e_ asn (e_ asn (on_ (qn_ (wt_ ?_)))))))))))));refine rT (k:=?_);rw[S];exact⟨Row L eI (dT ns)::Rd b (xs,k+A+1+m)::R,hsb,L,rfl,by rw[show k+(A+1+m)=k+A+1+m from a8]⟩
theorem Gn {b k most:Nat}{ns a:List Nat} [hg:Glb G R] [hr:Rem H Rd b (xs,k) R] (hn:xs.length≤10000000000) (e:∀x∈xs,x<256) (h:xs.drop k=ff ns++a) (hm:ns.length≤most) (d:most≤65536) (hl:∀x∈ns,x<1099511627776):
 SC G prog 234 [pA b,iN most] H (λv H'=>∃s:SV,v=.tuple #[s.val,.nilIface]∧H'=Row s eI (dT ns)::Rd b (xs,k+(ff ns).length)::R):=by
 refine SC.rem (h:=hr) ?_;refine sWk func234 ?_;refine go ?_;refine pO b λs=>?_;refine go ?_;refine eu (H':=Rd b (xs,k)::R) hsb ?_;refine go ?_;refine c2_ rfl (SN hn e h hm d hl) ?_;rintro _ _ ⟨c,rfl,rfl⟩;refine e_ mv (e_ exr (e_ exr (e_ asn (e_ asn (on_ (qn_ (ws_ (ws_ (wr_ (e_ mv ?_))))))))));refine e_ (dL rfl) ?_;refine gk (k:=fM (k:=gR ?_));exact⟨_,hsb,c,rfl,rfl⟩
end
end Go.Sx
