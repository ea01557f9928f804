import Derived.Test.YtjhdcheijnegnaaGreatDoorQ8
set_option linter.all false
set_option maxHeartbeats 0
namespace Go.Sx
open Go Go.Proofs Tryz
set_option maxRecDepth 100000
section
variable {G:cJ}{H:cG}{q:ByteArray}
theorem Nn (hq:q.size≤1000000000):SC G prog 448 [.string q] H (λv f=>v=.string (dQ (iS (cF q)))∧f=H):=by
 have hl:=cI q;refine sWk func448 ?_;refine go ?_;refine s_ (JR rfl) ?_;rintro _ _ ⟨b,rfl,rfl⟩;have d:cH (Row b eB (cF q)::H) (Row b eB (jv (cF q) 0)::H):=by rw[A5];exact cH.refl
 refine gk (k:=wl2_ Nat (λy=>y≤q.size) (λy=>[(10,iN y)]) [(0,_),(3,_),(8,_),(9,_)] (λy=>[Row b eB (jv (cF q) y)]) H (λy=>q.size-y) (0) (hh:=?_) (h0:=?_) (k:=?_))
 ·exact d
 ·exact Yl _
 rintro i hi
 try dsimp only[Yd,Ye]at*
 have hp:=pP (w:=cF q) (i:=i) a8;refine gW (λh1=>?_) λh1=>?_
 ·have e:=v8 (w:=cF q) (i:=i) a8;refine wk_ (qn_ (ws_ (wb_ (ws_ (wr_ (e_ mv ?_))))));refine e_ (cV rfl rfl i rfl a8) ?_;refine e_ (dS rfl bA bA _ e) ?_;refine gk (k:=cQ 3 20 (k:=λh2=>gk (k:=edq)) (q:=gk (k:=dz 22 43 (k:=λh3=>gk (k:=cQ 6 30 (k:=λh4=>gk (k:=edq)) (q:=gk (k:=cQ 3 34 (k:=λh5=>gk (k:=edq)) (q:=gk (k:=cQ 3 38 (k:=λh6=>gk (k:=edq)) (q:=gk (k:=cQ 3 42 (k:=λh7=>gk (k:=edq)) (q:=gk (k:=edq)))))))))) (q:=go ?_))));refine ir_ (k:=λc=>?_) (m:=λc=>?_)
  ·have a:jw (cF q) i=true:=by rw[←c];exact bq (by simp[jw] <;> omega)
   have hx:at0 (cF q) i≤158:=by simp only[jw,Ub,Xu,Xs]at a;omega
   refine wr_ (e_ mv (e_ mv (e_ mv ?_)));refine e_ (jm 256 rfl rfl rfl rfl _ 32 rfl rfl a8) ?_;refine e_ (cV rfl rfl i rfl a8) ?_;refine s_ (dc rfl rfl rfl a8) ?_;rintro _ _ ⟨rfl,rfl⟩;rw[CU a8 a];refine go ?_;refine lN (i+1) ?_
   try dsimp only
   omega
  have a:jw (cF q) i=false:=by rw[←c];exact bq (by simp[jw] <;> omega)
  rw[Gd a8 a];refine go ?_;refine lN (i+1) ?_
  try dsimp only
  omega
 obtain rfl:i=q.size:=a8;refine we_ (qe_ (le_ (bh_ (qn_ (ws_ (wr_ (e_ mv ?_)))))));refine e_ (dX rfl) ?_;refine gR ?_;refine⟨_,hsb,?_,rfl⟩;rw[←hl,CV];all_goals rfl
theorem NX (hq:q.size≤1000000000):SC G prog 175 [.string q] H (λv l=>v=.string (dQ (iS (cF q)))∧l=H):=by
 have hl:=cI q;refine sWk func175 ?_;refine go ?_;refine s_ (fK eB rfl) ?_;rintro _ _ ⟨h,rfl,rfl⟩;refine gk (k:=wl2_ (SV×Nat) (λy=>y.2≤q.size) (λy=>[(3,y.1.val),(4,iN y.2)]) [(0,_)] (λy=>[Row y.1 eB ((iS (cF q)).take y.2)]) _ (λy=>q.size-y.2) ((h,0)) (h0:=?_) (k:=?_))
 ·exact Yl _
 rintro⟨s,i⟩ hi
 try dsimp only[Yd,Ye]at*
 refine gW (λh1=>?_) λh1=>?_
 ·have c:=tB (w:=cF q) (i:=i) a8;have hll:=fG (cF q);have b:jw (cF q) i=true→k9 (cF q) i=at0 (cF q) i+32:=λf=>by rw[k9,f];all_goals rfl
  have e:jw (cF q) i=false→k9 (cF q) i=at0 (cF q) i:=λf=>by rw[k9,f];all_goals rfl
  refine go ?_;refine gk (k:=cQ 3 21 (k:=λh2=>gk (k:=edq)) (q:=gW (λh3=>?_) (λh3=>?_)))
  ·rw[b (by simp[jw];omega)]at c;refine wr_ (e_ mv ?_);refine e_ (jm 256 rfl rfl rfl rfl _ 32 rfl rfl a8) ?_;refine gk (k:=cQ 6 32 (k:=λh4=>gk (k:=edq)) (q:=gk (k:=cQ 3 36 (k:=λh5=>gk (k:=edq)) (q:=gk (k:=cQ 3 40 (k:=λh6=>gk (k:=edq)) (q:=?_))))));refine gk (k:=cQ 3 44 (k:=λh7=>gk (k:=edq)) (q:=gW (λj=>?_) (λj=>?_)))
   ·exfalso;omega
   try rw[e (by cases f:jw (cF q) i with
    |false=>rfl
    |true=>exfalso;simp[jw]at*;omega)]at c
   refine gk (k:=fX eB (k:=λd=>?_));refine app (k:=λa=>?_);rw[←c];refine go ?_;refine lN ((a,i+1)) ?_
   try dsimp only
   omega
  refine gk (k:=cQ 6 32 (k:=λh9=>gk (k:=edq)) (q:=gk (k:=cQ 3 36 (k:=λh10=>gk (k:=edq)) (q:=gk (k:=cQ 3 40 (k:=λh11=>gk (k:=edq)) (q:=go ?_))))));refine cQ 3 44 (k:=λh12=>gk (k:=edq)) (q:=gW (λg=>?_) (λg=>?_))
  ·rw[b (by simp[jw]at*;omega)]at c;refine wr_ (e_ mv ?_);refine e_ (jm 256 rfl rfl rfl rfl _ 32 rfl rfl a8) ?_;refine gk (k:=fX eB (k:=λd=>?_));refine app (k:=λa=>?_);rw[←c];refine go ?_;refine lN ((a,i+1)) ?_
   try dsimp only
   omega
  try rw[e (by cases f:jw (cF q) i with
   |false=>rfl
   |true=>exfalso;simp[jw]at*;omega)]at c
  refine gk (k:=fX eB (k:=λd=>?_));refine app (k:=λa=>?_);rw[←c];refine go ?_;refine lN ((a,i+1)) ?_
  try dsimp only
  omega
 obtain rfl:i=q.size:=a8;refine we_ (qe_ (le_ (bh_ (qn_ (ws_ (wr_ (e_ mv ?_)))))));refine e_ (dX rfl) ?_;refine gR ?_;refine⟨_,hsb,?_,rfl⟩;rw[←hl,Xq (by rw[fG];exact Xj _)];all_goals rfl
end
section
variable {q:ByteArray}
instance:Str prog 413 [] []:=fh underlying413 LP (λ_=>aa) rfl
instance:Str prog 416 [] []:=fh underlying416 LN (λ_=>aa) rfl
inductive Stp where
 |fold
 |stop (s:SV)
 |stem
def Lj:Stp→Value
 | .fold=>.iface 413 (.agg #[])
 | .stop s=>.iface 415 (.agg #[s.val])
 | .stem=>.iface 416 (.agg #[])
def oR:Enc Stp:=⟨λp=>[Lj p],1,false,λ_=>rfl,λp v h=>by simp at h;subst h;cases p <;> rfl,ae,λ_=>rfl,ae⟩
instance {x:Stp}:kX oR x (Lj x):=⟨rfl⟩
instance:i6 oR (.iface 413 (.agg [].toArray)) .fold:=⟨rfl⟩
instance:i6 oR (.iface 416 (.agg [].toArray)) .stem:=⟨rfl⟩
instance {s:SV}:i6 oR (.iface 415 (.agg [s.val].toArray)) (.stop s):=⟨rfl⟩
def k7:Stp→List Nat→Option (List Nat)
 | .fold,w=>some (iS w)
 | .stop _,w=>bif decide (w∈i9)then none else some w
 | .stem,w=>some (iq w)
def nd:List Stp→List Nat→Option (List Nat)
 | [],w=>some w
 |x::l,w=>match k7 x w with
  |some u=>nd l u
  |none=>none
def qR (o:Option (List Nat)) (r:ByteArray) (b:Bool):Prop:=match o with
 |some u=>cF r=u∧b=true
 |none=>b=false
theorem ve (q:ByteArray):∀x∈iS (cF q),x<256:=by
 intro x hx;rw[iS]at hx;obtain⟨i,_,rfl⟩:=Xw.1 hx;exact CX (jQ q) i
theorem NN {G:cJ}{H:cG}(hq:q.size≤5000000):SC G prog 447 [.agg #[],.string q] H (λv a=>∃r b,v=.tuple #[.string r,.bool b]∧qR (some (iS (cF q))) r b∧a=H):=by
 refine sWk func447 ?_;refine gk (k:=bxx (k:=λb2=>?_));refine go ?_;refine d1_ rfl (Nn a8) (gR ?_);exact⟨_,hsb,_,_,rfl,⟨ec (ve _),rfl⟩,rfl⟩
theorem NM {G:cJ}{H:cG}(hq:q.size≤5000000):SC G prog 452 [.agg #[],.string q] H (λv c=>∃r b,v=.tuple #[.string r,.bool b]∧qR (some (iq (cF q))) r b∧c=H):=by
 refine sWk func452 ?_;refine gk (k:=bxx (k:=λb2=>?_));refine go ?_;refine c1_ rfl (MV a8) ?_;rintro _ _ ⟨r1,rfl,a,rfl⟩;refine gR ?_;exact⟨_,hsb,_,_,rfl,⟨a,rfl⟩,rfl⟩
theorem NL {G:cJ}{H:cG}{s:SV} [hs:Sl H s eS gQ]:SC G prog 449 [.agg #[s.val],.string q] H (λv a=>∃r b,v=.tuple #[.string r,.bool b]∧qR (bif decide (cF q∈i9)then none else some (cF q)) r b∧a=H):=by
 refine sWk func449 ?_;refine gk (k:=bxx (k:=λb2=>?_));refine go ?_;refine d2_ rfl (Cp ae) (gR ?_);refine⟨_,hsb,_,_,rfl,?_,rfl⟩;rw[l6];cases h:decide (cF q∈i9) <;> simp[qR]
section
variable {G:cJ}{N:Nat}{Q:Post}{t:Tm}{H:cG}{ops:Array Oper}{dst:Option Tmp}{ty:TypeId}{pos:String}{after:Array Edge}{g:Option (Nat×Bool)}{l:List Oper}
theorem Lk {a y:Operand}{d:Array TypeId}{x:Stp}(hr:evo t a=some (Lj x)) (hx:evo t y=some (.string q)) (e:q.size≤5000000) (hs:∀s,x=.stop s→Sl H s eS gQ):
 St G prog ⟨dst,.call ⟨.invoke a "concord/tokens.do", #[y],d⟩,ty,pos,after,g⟩ t H (λv h=>∃r b,v=.tuple #[.string r,.bool b]∧qR (k7 x (cF q)) r b∧h=H):=by
 have c:oP t [y]=some [.string q]:=by simp[oP,hx]
 cases x with
 |fold=>exact qp (xs:= [y]) (ws:= [.agg #[],.string q]) (f:=447) hr c (λw=>aa) (NN e)
 |stop s=>
  haveI:=hs s rfl;exact qp (xs:= [y]) (ws:= [.agg #[s.val],.string q]) (f:=449) hr c (λw=>aa) NL
 |stem=>exact qp (xs:= [y]) (ws:= [.agg #[],.string q]) (f:=452) hr c (λw=>aa) (NM e)
end
end
end Go.Sx
