import Derived.Test.YtcbidldebfibkaaGreatDoorQ12
import Derived.Test.YtcbidldebfibkaaGreatDoorQ8
set_option linter.unusedVariables false
set_option linter.unusedSimpArgs false
set_option linter.unusedSectionVars false
set_option linter.unnecessarySimpa false
set_option maxHeartbeats 0
namespace Go.Sx
open Go Go.Proofs
set_option maxRecDepth 100000
theorem vn {most:Nat}{q:List Nat}(r:List Nat) (h:q.length≤most) (hm:most<18446744073709551616):hX most (uv q.length++q++r)= .ok (q,(uv q.length).length+q.length):=by
 rw[hX,Yf,gL _ (a8) h]
 simp only[]
 rw[if_neg (ah),List.drop_left,List.take_left]
theorem Kx:∀(k:Fin 4) (a b c:Bool),let x:=k.val+(if a then 4 else 0)+(if b then 8 else 0)+(if c then 16 else 0);x &&& 3=k.val∧decide (((x &&& 4:Nat):Int)≠0)=a∧decide (((x &&& 8:Nat):Int)≠0)=b∧decide (((x &&& 16:Nat):Int)≠0)=c∧x≤31:=ag
theorem zY {f:FV}(h1:0≤f.kind) (h2:f.kind≤3):mkF (cF f.name) (kB f)=f∧kB f≤31:=by
 have h:=Kx ⟨f.kind.toNat,a8⟩ f.fold f.stop f.stem
 obtain⟨name,kind,a,b,c⟩:=f
 simp only at h h1 h2
 obtain⟨q1,q2,q3,q4,q5⟩:=h
 simp only[mkF,kB,jk,FV.mk.injEq,true_and]
 exact⟨⟨by rw[q1];omega,q2,q3,q4⟩,q5⟩
theorem Lu:∀k:Fin 32,(k.val &&& 3)+(if decide (((k.val &&& 4:Nat):Int)≠0)then 4 else 0)+(if decide (((k.val &&& 8:Nat):Int)≠0)then 8 else 0)+(if decide (((k.val &&& 16:Nat):Int)≠0)then 16 else 0)=k.val∧k.val &&& 3≤3:=ag
theorem Kv {q:List Nat}{k:Nat}(h:k≤31):kB (mkF q k)=k:=by
 have:=(Lu ⟨k,a8⟩).1
 simp only[kB,mkF,Int.toNat_natCast]
 exact this
theorem wW (f:FV):eM f=uv (cF f.name).length++cF f.name++ [kB f]:=by rw[eM,cJ]
theorem tP:∀(fs:List FV) (r:List Nat),(∀f∈fs,f.name.size≤32∧0≤f.kind∧f.kind≤3)→lj fs.length false (gC fs++r)=some (fs,false,(gC fs).length)
 | [],r,_=> rfl
 |f::fs,r,h=> by
  obtain⟨h1,h2,h3⟩:=h f (aj)
  obtain⟨k1,k2⟩:=zY h2 h3
  have ih:=tP fs r fun g hg=> h g (by simp[hg])
  have hl:=cJ f.name
  have he:gC (f::fs)++r=uv (cF f.name).length++cF f.name++(kB f::(gC fs++r)):=by
   simp[gC,wW]
  have hx:(uv (cF f.name).length++cF f.name).length=(uv (cF f.name).length).length+(cF f.name).length:=Ya
  rw[Yb,lj,he,vn _ (a8) (ag)]
  simp only[]
  rw[←hx,Yu (Nat.le_refl _),Nat.sub_self,Xb]
  simp only[]
  rw[show(uv (cF f.name).length++cF f.name++(kB f::(gC fs++r))).drop ((uv (cF f.name).length++cF f.name).length+1)=gC fs++r by
   rw[←List.drop_drop,List.drop_left,List.drop_succ_cons,List.drop_zero]]
  rw[show(false ||decide (31<kB f))=false from au,ih]
  simp only[k1,Option.some.injEq,Prod.mk.injEq,true_and]
  rw[show gC (f::fs)=eM f++gC fs from cC,wW]
  simp only[Ya,Yb,Yc]
theorem CY {fs:List FV}(h:e7 fs=true):kI (fq fs)=some fs:=by
 obtain⟨⟨h1,h2⟩,h3⟩:=eG h
 have hr:rdS (fq fs)=some fs:=by
  rw[rdS,fq,gL _ (a8) h2]
  simp only[]
  have:=tP fs [] fun f hf=> ⟨(h3 f hf).1,by have:=(h3 f hf).2.1;omega,(h3 f hf).2.2⟩
  rw[Ym]at this
  rw[List.drop_left,this]
  simp only[]
  rw[if_neg (by rw[Ya];simp)]
 rw[kI,hr]
 simp only[h,↓reduceIte]
theorem vp:∀(n:Nat) (odd:Bool) (l:List Nat) (fs:List FV) (c:Nat),(∀x∈l,x<256)→lj n odd l=some (fs,false,c)→odd=false∧fs.length=n∧c≤l.length∧l.take c=gC fs
 | 0,odd,l,fs,c,hb,h=> by
  simp only[lj,Option.some.injEq,Prod.mk.injEq]at h
  obtain⟨rfl,rfl,rfl⟩:=h
  exact⟨rfl,rfl,Yl _,cC⟩
 |n+1,odd,l,fs,c,hb,h=> by
  rw[lj]at h
  split at h
  ·cases h
  ·rename_i q m hr
   obtain⟨p1,p2,p3,p4⟩:=jm hb hr
   split at h
   ·cases h
   ·rename_i k hk
    split at h
    ·cases h
    ·rename_i r o c' hrr
     simp only[Option.some.injEq,Prod.mk.injEq]at h
     obtain⟨rfl,rfl,rfl⟩:=h
     obtain⟨q1,q2,q3,q4⟩:=vp n _ _ r c' (fun y hy=> hb y (Yp hy)) hrr
     simp only[Bool.or_eq_false_iff,decide_eq_false_iff_not]at q1
     have hm:=(Yk.1 hk).1
     rw[Yo]at q3
     refine⟨q1.1,by simp[q2],a8,?_⟩
     rw[show gC (mkF q k::r)=eM (mkF q k)++gC r from cC,wW,Kv (a8)]
     have hn:cF (mkF q k).name=q:=dK p3
     rw[hn,←p4,List.take_add,←q4,cP hk]
theorem CZ {l:List Nat}{fs:List FV}(hb:∀x∈l,x<256) (h:kI l=some fs):e7 fs=true∧l=fq fs:=by
 rw[kI]at h
 split at h
 ·cases h
 ·rename_i fs' hr
  split at h
  ·rename_i hc
   simp only[Option.some.injEq]at h
   subst h
   refine⟨hc,?_⟩
   rw[rdS]at hr
   split at hr
   ·cases hr
   ·rename_i n m hu
    obtain⟨u1,u2,u3,u4⟩:=dI hb hu
    split at hr
    ·cases hr
    ·rename_i g odd c hf
     split at hr
     ·cases hr
     ·rename_i hno
      simp only[Option.some.injEq]at hr
      subst hr
      obtain rfl:odd=false:=by
       cases odd with
       |false=> rfl
       |true=> exact absurd (Or.inr rfl) hno
      obtain⟨q1,q2,q3,q4⟩:=vp n _ _ g c (fun y hy=> hb y (Yp hy)) hf
      rw[Yo]at q3
      have hcl:m+c=l.length:=by
       have:¬(m+c<l.length):=fun h=> hno (.inl h)
       omega
      have e5:(l.drop m).take c=l.drop m:=List.take_of_length_le (aC)
      rw[fq,q2,←u3,←q4,e5,List.take_append_drop]
  ·cases h
theorem kY {x:Int}{l:List Int}:rise (x::l)=true↔(∀y,l.head? =some y→x<y)∧rise l=true:=by
 cases l with
 |nil=> simp[rise]
 |cons y r=> simp[rise]
theorem jy:∀(l:List Int) (last:Int),l.length≤(dz last l).length
 | [],_=> aj
 |x::l,last=> by
  have:=jy l x
  have h:=ju (x - last - 1).toNat
  rw[dz,Ya,Yb];omega
theorem rV:∀(l:List Int) (last:Int) (r:List Nat), -1≤last→rise (last::l)=true→(∀x∈l,x≤9223372036854775807)→iV l.length last (dz last l++r)= .ok (l,(dz last l).length)
 | [],last,r,_,_,_=> rfl
 |x::l,last,r,hl,hr,hb=> by
  rw[kY]at hr
  obtain⟨h1,h2⟩:=hr
  have h3:=h1 x rfl
  have h4:=hb x (aj)
  have ih:=rV l x r (a8) h2 fun y hy=> hb y (by simp[hy])
  rw[Yb,iV,dz,Yf,pW _ (a8)]
  simp only[]
  rw[if_neg (a8),List.drop_left,show last+((x - last - 1).toNat:Int)+1=x from a8,ih]
  simp only[Ya]
theorem xY {l:List Int}(h1:iW l=false) (h2:rise l=true) (hb:∀x∈l,x≤9223372036854775807) (hl:l.length<18446744073709551616):
 dL (uv l.length++dz (-1) l).length (uv l.length++dz (-1) l)= .ok (l,(uv l.length++dz (-1) l).length):=by
 have hge:=jy l (-1)
 rw[dL,gL _ hl (aS)]
 simp only[]
 have h3:rise (-1::l)=true:=by
  rw[kY]
  refine⟨fun y hy=> ?_,h2⟩
  have:=(il l).1 h1 0 y (by rw[List.head?_eq_getElem?]at hy;exact hy)
  omega
 have:=rV l (-1) [] (Int.le_refl _) h3 hb
 rw[Ym]at this
 rw[List.drop_left,this]
 simp only[Ya]
theorem lh:∀(n:Nat) (last:Int) (l:List Nat) (d:List Int) (m:Nat),(∀x∈l,x<256)→ -1≤last→iV n last l= .ok (d,m)→d.length=n∧m≤l.length∧l.take m=dz last d∧rise (last::d)=true∧(∀x∈d,0≤x∧x≤9223372036854775807)
 | 0,last,l,d,m,hb,hl,h=> by
  simp only[iV,Except.ok.injEq,Prod.mk.injEq]at h
  obtain⟨rfl,rfl⟩:=h
  exact⟨rfl,Yl _,by simp[dz],by simp[rise],fun x hx=> by cases hx⟩
 |n+1,last,l,d,m,hb,hl,h=> by
  rw[iV]at h
  split at h
  ·cases h
  ·rename_i v c hu
   split at h
   ·cases h
   ·rename_i hle
    split at h
    ·cases h
    ·rename_i r m' hr
     simp only[Except.ok.injEq,Prod.mk.injEq]at h
     obtain⟨rfl,rfl⟩:=h
     obtain⟨p1,p2,p3,p4,p5,p6⟩:=gZ _ 0 v c hb (a8) hu
     obtain⟨q1,q2,q3,q4,q5⟩:=lh n _ _ r m' (fun y hy=> hb y (Yp hy)) (a8) hr
     rw[Yo]at q2
     refine⟨by simp[q1],a8,?_,?_,?_⟩
     ·rw[dz,show(last+(v:Int)+1 - last - 1).toNat=v from a8,←p5,←q3,List.take_add]
     ·rw[kY]
      exact⟨fun y hy=> by simp at hy;omega,q4⟩
     ·intro x hx
      rcases List.mem_cons.1 hx with rfl|hx
      ·omega
      ·exact q5 x hx
theorem gx {most:Nat}{l:List Nat}{d:List Int}{m:Nat}(hb:∀x∈l,x<256) (h:dL most l= .ok (d,m)):m≤l.length∧l.take m=uv d.length++dz (-1) d∧iW d=false∧rise d=true∧(∀x∈d,0≤x∧x≤9223372036854775807):=by
 rw[dL]at h
 split at h
 ·cases h
 ·rename_i n c hu
  obtain⟨u1,u2,u3,u4⟩:=dI hb hu
  split at h
  ·cases h
  ·rename_i r m' hr
   simp only[Except.ok.injEq,Prod.mk.injEq]at h
   obtain⟨rfl,rfl⟩:=h
   obtain⟨q1,q2,q3,q4,q5⟩:=lh n _ _ r m' (fun y hy=> hb y (Yp hy)) (Int.le_refl _) hr
   rw[Yo]at q2
   refine⟨a8,?_,(il r).2 fun i x hx=> (q5 x (Yj hx)).1,(kY.1 q4).2,q5⟩
   rw[q1,←u3,←q3,List.take_add]
abbrev Pcs:=List (List Nat×List Int)
def ee:Pcs→Except Nat (List (Nat×List Nat))
 | []=> .ok []
 |p::r=> if iW p.2=true then .error 1 else if rise p.2=false then .error 5 else
  match ee r with
  | .error e=> .error e
  | .ok bl=> .ok ((3,p.1)::(4,uv p.2.length++dz (-1) p.2)::bl)
def fG (fs:List FV) (next:Int) (ps:Pcs):Except Nat (List Nat):=
 if e7 fs=false then .error 0 else
 if next<0∨1099511627776<next then .error 1 else
 match ee ps with
 | .error e=> .error e
 | .ok bl=> .ok (jW 73 ((1,fq fs)::(2,uv next.toNat)::bl))
def ky:List (Nat×List Nat)→Option Pcs
 | []=> some []
 | [_]=> none
 |a::b::r=> if a.1≠3∨b.1≠4 then none else
  match dL b.2.length b.2 with
  | .error _=> none
  | .ok (d,m)=> if m<b.2.length then none else
   match ky r with
   |none=> none
   |some ps=> some ((a.2,d)::ps)
def uU (a b:Nat×List Nat):Option (List FV×Nat):=
 if a.1≠1∨b.1≠2 then none else
 match kI a.2 with
 |none=> none
 |some fs=>
  match ec 1099511627776 b.2 with
  | .error _=> none
  | .ok (n,m)=> if m<b.2.length then none else some (fs,n)
def nG:List (Nat×List Nat)→Option (List FV×Nat×Pcs)
 |a::b::r=> if r.length % 2≠0 then none else
  match uU a b with
  |none=> none
  |some (fs,n)=>
   match ky r with
   |none=> none
   |some ps=> some (fs,n,ps)
 |_=> none
def unE (l:List Nat):Option (List FV×Nat×Pcs):=
 match eZ 73 l with
 |none=> none
 |some bl=> nG bl
def sH (ps:Pcs):Prop:=∀p∈ps,(∀x∈p.1,x<256)∧p.1.length≤1000000000∧(∀x∈p.2,x≤9223372036854775807)∧p.2.length≤1000000000
theorem mu:∀(ps:Pcs) (bl:List (Nat×List Nat)),sH ps→ee ps= .ok bl→ky bl=some ps∧bl.length % 2=0∧∀q∈bl,0<q.1∧q.1<256∧(∀x∈q.2,x<256)∧q.2.length<18446744073709551616
 | [],bl,_,h=> by
  simp only[ee,Except.ok.injEq]at h
  subst h
  exact⟨rfl,rfl,fun q hq=> by cases hq⟩
 |p::ps,bl,hk,h=> by
  obtain⟨k1,k2,k3,k4⟩:=hk p (aj)
  rw[ee]at h
  split at h
  ·cases h
  ·rename_i hb
   split at h
   ·cases h
   ·rename_i hr
    simp only[Bool.not_eq_true,Bool.not_eq_false]at hb hr
    split at h
    ·cases h
    ·rename_i bl' hp
     simp only[Except.ok.injEq]at h
     subst h
     obtain⟨q1,q2,q3⟩:=mu ps bl' (fun p hp=> hk p (by simp[hp])) hp
     have hrl:=mq hb k3
     have hul:=dc (n:=p.2.length) (a8)
     refine⟨?_,aJ,?_⟩
     ·rw[ky,if_neg (aj),xY hb hr k3 (a8)]
      simp only[Nat.lt_irrefl,↓reduceIte,q1]
     ·intro q hq
      rcases List.mem_cons.1 hq with rfl|hq
      ·exact⟨aj,aj,k1,aP⟩
      ·rcases List.mem_cons.1 hq with rfl|hq
       ·refine⟨aj,aj,?_,ah⟩
        intro x hx
        rcases List.mem_append.1 hx with hx|hx
        ·exact gH _ x hx
        ·have:∀(l:List Int) (last:Int),∀x∈dz last l,x<256:=by
          intro l
          induction l with
          |nil=> intro last x hx;cases hx
          |cons y l ih=>
           intro last x hx
           rw[dz]at hx
           rcases List.mem_append.1 hx with hx|hx
           ·exact gH _ x hx
           ·exact ih y x hx
         exact this _ _ x hx
       ·exact q3 q hq
theorem qz {fs:List FV}(h:e7 fs=true):∀x∈fq fs,x<256:=by
 obtain⟨h1,h2⟩:=eG h
 intro x hx
 rcases List.mem_append.1 hx with hx|hx
 ·exact gH _ x hx
 ·obtain⟨f,hf,hx⟩:=List.mem_flatMap.1 hx
  obtain⟨k1,k2,k3⟩:=h2 f hf
  simp only[eM,List.mem_append,List.mem_singleton]at hx
  rcases hx with(hx|hx)|rfl
  ·exact gH _ x hx
  ·exact ko _ x hx
  ·have:=(zY (f:=f) (a8) k3).2;omega
theorem vT:∀(fs:List FV),(∀f∈fs,f.name.size≤32)→(gC fs).length≤43*fs.length
 | [],_=> cC
 |f::fs,h=> by
  have ih:=vT fs fun g hg=> h g (by simp[hg])
  have h1:=h f (aj)
  have h2:=dc (n:=f.name.size) (a8)
  have h3:=cJ f.name
  rw[show gC (f::fs)=eM f++gC fs from cC,eM]
  simp only[Ya,Yb,Yc];omega
theorem nY {fs:List FV}(h:e7 fs=true):(fq fs).length≤1000:=by
 obtain⟨h1,h2⟩:=eG h
 have h3:=vT fs fun f hf=> (h2 f hf).1
 have h4:=dc (n:=fs.length) (a8)
 rw[fq,Ya];omega
theorem AQ {fs:List FV}{next:Int}{ps:Pcs}{img:List Nat}(hk:sH ps) (hn:ps.length≤1000000000) (h:fG fs next ps= .ok img):unE img=some (fs,next.toNat,ps)∧0≤next∧next≤1099511627776∧e7 fs=true:=by
 rw[fG]at h
 split at h
 ·cases h
 ·rename_i hc
  simp only[Bool.not_eq_false]at hc
  split at h
  ·cases h
  ·rename_i hx
   split at h
   ·cases h
   ·rename_i bl hp
    simp only[Except.ok.injEq]at h
    subst h
    obtain⟨q1,q2,q3⟩:=mu ps bl hk hp
    have hes:=nY hc
    have hun:=dc (n:=next.toNat) (a8)
    have hbl:bl.length=2*ps.length:=by
     have:∀(ps:Pcs) (bl:List (Nat×List Nat)),ee ps= .ok bl→bl.length=2*ps.length:=by
      intro ps
      induction ps with
      |nil=> intro bl h;simp only[ee,Except.ok.injEq]at h;subst h;rfl
      |cons p ps ih=>
       intro bl h
       rw[ee]at h
       split at h
       ·cases h
       ·split at h
        ·cases h
        ·split at h
         ·cases h
         ·rename_i bl' hp
          simp only[Except.ok.injEq]at h
          subst h
          have:=ih bl' hp
          simp only[Yb];omega
     exact this ps bl hp
    have hall:∀q∈(1,fq fs)::(2,uv next.toNat)::bl,0<q.1∧q.1<256∧(∀x∈q.2,x<256)∧q.2.length<18446744073709551616:=by
     intro q hq
     rcases List.mem_cons.1 hq with rfl|hq
     ·exact⟨aj,aj,qz hc,aP⟩
     ·rcases List.mem_cons.1 hq with rfl|hq
      ·exact⟨aj,aj,gH _,aP⟩
      ·exact q3 q hq
    have hrd:=tO (kind:=73) (ag) (ag) (aJ) hall
    refine⟨?_,a8,a8,hc⟩
    rw[unE,hrd]
    simp only[nG]
    rw[if_neg (a8)]
    have hu:=gL (most:=1099511627776) (v:=next.toNat) [] (a8) (a8)
    rw[Ym]at hu
    rw[uU,if_neg (aj),CY hc,hu]
    simp only[Nat.lt_irrefl,↓reduceIte,q1]
theorem rh:∀(bl:List (Nat×List Nat)) (ps:Pcs),(∀q∈bl,∀x∈q.2,x<256)→ky bl=some ps→ee ps= .ok bl
 | [],ps,_,h=> by simp only[ky,Option.some.injEq]at h;subst h;rfl
 | [_],ps,_,h=> bC
 |a::b::r,ps,hb,h=> by
  rw[ky]at h
  split at h
  ·cases h
  ·rename_i hab
   split at h
   ·cases h
   ·rename_i d m hr
    split at h
    ·cases h
    ·rename_i hm
     split at h
     ·cases h
     ·rename_i ps' hp
      simp only[Option.some.injEq]at h
      subst h
      have ih:=rh r ps' (fun q hq=> hb q (by simp[hq])) hp
      obtain⟨q1,q2,q3,q4,q5⟩:=gx (fun x hx=> hb b (aj) x hx) hr
      have ha1:a.1=3:=Classical.byContradiction fun e=> hab (.inl e)
      have hb1:b.1=4:=Classical.byContradiction fun e=> hab (.inr e)
      rw[List.take_of_length_le (a8)]at q2
      obtain⟨a1,a2⟩:=a
      obtain⟨b1,b2⟩:=b
      simp only at ha1 hb1 q2
      subst ha1 hb1
      simp only[ee,q3,q4,ih,←q2,Bool.false_eq_true,Bool.true_eq_false,↓reduceIte]
theorem Bf {l:List Nat}{fs:List FV}{n:Nat}{ps:Pcs}(hb:∀x∈l,x<256) (h:unE l=some (fs,n,ps)):fG fs n ps= .ok l:=by
 rw[unE]at h
 split at h
 ·cases h
 ·rename_i bl hi
  obtain⟨e1,e2,e3⟩:=jS hb hi
  match bl,e1,e3,h with
  |a::b::r,e1,e3,h=>
   simp only[nG]at h
   split at h
   ·cases h
   ·split at h
    ·cases h
    ·rename_i fs' n' hh
     split at h
     ·cases h
     ·rename_i ps' hp
      simp only[Option.some.injEq,Prod.mk.injEq]at h
      obtain⟨rfl,rfl,rfl⟩:=h
      have hps:=rh r ps' (fun q hq=> (e3 q (by simp[hq])).2) hp
      rw[uU]at hh
      split at hh
      ·cases hh
      ·rename_i hab
       split at hh
       ·cases hh
       ·rename_i fs'' hd
        split at hh
        ·cases hh
        ·rename_i n'' m hu
         split at hh
         ·cases hh
         ·rename_i hm
          simp only[Option.some.injEq,Prod.mk.injEq]at hh
          obtain⟨rfl,rfl⟩:=hh
          obtain⟨d1,d2⟩:=CZ (fun x hx=> (e3 a (aj)).2 x hx) hd
          obtain⟨u1,u2,u3,u4⟩:=dI (fun x hx=> (e3 b (aj)).2 x hx) hu
          rw[List.take_of_length_le (a8)]at u3
          have ha1:a.1=1:=Classical.byContradiction fun e=> hab (.inl e)
          have hb1:b.1=2:=Classical.byContradiction fun e=> hab (.inr e)
          obtain⟨a1,a2⟩:=a
          obtain⟨b1,b2⟩:=b
          simp only at ha1 hb1 d2 u3
          subst ha1 hb1
          rw[fG,d1,if_neg (aj),if_neg (a8),hps]
          simp only[Int.toNat_natCast,←d2,←u3]
          rw[e1]
open Go
theorem y6:∀{bl:List (Nat×List Nat)}{ps:Pcs},(∀a∈bl,∀x∈a.2,x<256)→ky bl=some ps→∀q∈ps,(∃a∈bl,q.1=a.2)∧∃b∈bl,q.2.length≤b.2.length
 | [],ps,_,h=> by simp[ky]at h;subst h;intro q hq;simp at hq
 | [a],ps,_,h=> by simp[ky]at h
 |a::b::r,ps,hb,h=> by
  rw[ky]at h
  split at h
  ·cases h
  ·split at h
   ·cases h
   ·rename_i d m hr
    split at h
    ·cases h
    ·split at h
     ·cases h
     ·rename_i ps' hps
      obtain rfl:=Option.some.inj h
      obtain⟨h1,h2,_⟩:=gx (hb b (aj)) hr
      intro q hq
      rcases List.mem_cons.1 hq with rfl|hq
      ·refine⟨⟨a,aj,rfl⟩,b,aj,?_⟩
       have h3:=congrArg List.length h2
       rw[Yg,Ya]at h3
       have:=jy d (-1)
       simp only;omega
      ·obtain⟨⟨a',ha,hqa⟩,b',hb',hqb⟩:=y6 (fun a ha=> hb a (by simp[ha])) hps q hq
       exact⟨⟨a',by simp[ha],hqa⟩,b',by simp[hb'],hqb⟩
theorem pL {xs:List Nat}{fs:List FV}{n:Nat}{ps:Pcs}(hb:∀x∈xs,x<256) (h:unE xs=some (fs,n,ps)):∀q∈ps,q.1.length≤xs.length∧(∀x∈q.1,x<256)∧q.2.length≤xs.length:=by
 rw[unE]at h
 split at h
 ·cases h
 ·rename_i bl hi
  obtain⟨e1,e2,e3⟩:=jS hb hi
  have hxl:=congrArg List.length e1
  rw[kA]at hxl
  have hq:∀a∈bl,a.2.length≤xs.length:=fun a ha=> by have:=qI ha;omega
  match bl,h,e3,hq with
  |a::b::r,h,e3,hq=>
   rw[nG]at h
   split at h
   ·cases h
   ·split at h
    ·cases h
    ·split at h
     ·cases h
     ·rename_i ps' hps
      simp only[Option.some.injEq,Prod.mk.injEq]at h
      obtain⟨_,_,rfl⟩:=h
      intro q hqm
      obtain⟨⟨a',ha,hqa⟩,b',hb',hqb⟩:=y6 (fun a ha=> (e3 a (by simp[ha])).2) hps q hqm
      refine⟨by rw[hqa];exact hq a' (by simp[ha]),by rw[hqa];exact(e3 a' (by simp[ha])).2,Xi hqb (hq b' (by simp[hb']))⟩
  | [],h,_,_=> simp[nG]at h
  | [a],h,_,_=> simp[nG]at h
def jJ (ws:List Nat) (i:Nat):Bool:=(ws.getD (i / 64) 0).testBit (i % 64)
def D7 (ws:List Nat) (i:Nat):List Nat:=ws.set (i / 64) (ws.getD (i / 64) 0 ||| 2 ^ (i % 64))
def okW (ws:List Nat):Prop:=∀x∈ws,x<18446744073709551616
theorem nR {ws:List Nat}(h:okW ws) (i:Nat):ws.getD i 0<18446744073709551616:=by
 rw[List.getD_eq_getElem?_getD]
 cases hi:ws[i]? with
 |none=> simp
 |some x=> exact h x (Yj hi)
theorem Ew {k:Nat}(h:k<64):2 ^ k<18446744073709551616:=by
 have:(18446744073709551616:Nat)=2 ^ 64:=ag
 rw[this];exact Nat.pow_lt_pow_right (ag) h
theorem J0 {ws:List Nat}(h:okW ws) (i:Nat):okW (D7 ws i):=fun x hx=> by
 rcases List.mem_or_eq_of_mem_set hx with hx|rfl
 ·exact h x hx
 ·have h1:=nR h (i / 64)
  have h2:=Ew (k:=i % 64) (Nat.mod_lt _ (ag))
  have e:(18446744073709551616:Nat)=2 ^ 64:=ag
  rw[e]at h1 h2⊢
  exact Nat.or_lt_two_pow h1 h2
theorem Gk (ws:List Nat) (i:Nat):(D7 ws i).length=ws.length:=List.length_set ..
theorem Gi {ws:List Nat}{i:Nat}(h:i / 64<ws.length) (j:Nat):jJ (D7 ws i) j=(decide (j=i) ||jJ ws j):=by
 unfold jJ D7
 by_cases hj:j / 64=i / 64
 ·rw[hj,List.getD_eq_getElem?_getD,List.getElem?_set_self h,Option.getD_some,Nat.testBit_or,Nat.testBit_two_pow,Bool.or_comm]
  congr 1
  exact decide_eq_decide.2 (a8)
 ·rw[List.getD_eq_getElem?_getD,List.getElem?_set_ne (fun h=> hj h.symm),←List.getD_eq_getElem?_getD,Yr (by rintro rfl;exact hj rfl),Bool.false_or]
theorem D4 (n j:Nat):jJ (List.replicate n 0) j=false:=by
 unfold jJ
 rw[List.getD_eq_getElem?_getD,List.getElem?_replicate]
 split <;> simp
theorem IZ (x k:Nat):(x / 2 ^ k &&& 1=1)↔x.testBit k=true:=by
 rw[Nat.and_one_is_mod,Nat.testBit_eq_decide_div_mod_eq,decide_eq_true_eq]
def tzT:List Nat:= [0,1,56,2,57,49,28,3,61,58,42,50,38,29,17,4,62,47,59,36,45,43,51,22,53,39,33,30,24,18,12,5,63,55,48,27,60,41,37,16,46,35,44,21,52,32,23,11,54,26,40,15,34,20,31,10,25,14,19,9,13,8,7,6]
theorem JC:∀k:Fin 64,tzT[2 ^ k.val*285870213051353865 % 18446744073709551616 / 2 ^ 58]? =some k.val∧2 ^ k.val*285870213051353865 % 18446744073709551616 / 2 ^ 58<64:=an
theorem Mt {p:Nat→Prop} [DecidablePred p]:∀n,p n→∃b,p b∧b≤n∧∀j,j<b→¬p j:=by
 intro n
 induction n using Nat.strongRecOn with
 |_ n ih=>
  intro h
  by_cases hx:∃j,j<n∧p j
  ·obtain⟨j,hj,hp⟩:=hx
   obtain⟨b,h1,h2,h3⟩:=ih j hj hp
   exact⟨b,h1,a8,h3⟩
  ·exact⟨n,h,Nat.le_refl _,fun j hj hp=> hx ⟨j,hj,hp⟩⟩
theorem Ic {w:Nat}(h0:w≠0) (hw:w<18446744073709551616):∃b,b<64∧w.testBit b=true∧∀j,j<b→w.testBit j=false:=by
 obtain⟨i,hi⟩:=Nat.exists_testBit_of_ne_zero h0
 obtain⟨b,h1,h2,h3⟩:=Mt (p:=fun b=> w.testBit b=true) i hi
 refine⟨b,?_,h1,fun j hj=> by simpa using h3 j hj⟩
 by_cases hb:b<64
 ·exact hb
 ·have e:(18446744073709551616:Nat)=2 ^ 64:=by decide
  rw[e]at hw
  have:=Nat.testBit_lt_two_pow (Nat.lt_of_lt_of_le hw (Nat.pow_le_pow_right (ag) (show 64≤b from a8)))
  rw[this]at h1;cases h1
theorem I7 {w b:Nat}(hw:w<18446744073709551616) (hb:b<64) (h1:w.testBit b=true) (h2:∀j,j<b→w.testBit j=false):w &&& (18446744073709551616 - w)=2 ^ b:=by
 have e:(18446744073709551616:Nat)=2 ^ 64:=ag
 have hm0:w % 2 ^ b=0:=by
  apply Nat.eq_of_testBit_eq
  intro i
  rw[Nat.testBit_mod_two_pow,Nat.zero_testBit]
  by_cases hi:i<b
  ·rw[h2 i hi,Bool.and_false]
  ·rw[Yr hi,Bool.false_and]
 have hodd:w / 2 ^ b % 2=1:=by
  rw[Nat.testBit_eq_decide_div_mod_eq]at h1;exact Yt h1
 obtain⟨q,hq⟩:∃q,w / 2 ^ b=2*q+1:=⟨w / 2 ^ b / 2,a8⟩
 have hwq:w=2 ^ (b+1)*q+2 ^ b:=by
  have h3:=Nat.div_add_mod w (2 ^ b)
  rw[hm0,hq,Nat.add_zero]at h3
  rw[←h3,Nat.mul_add,Nat.mul_one,Nat.pow_succ,Nat.mul_assoc]
 have hp:=Nat.two_pow_pos b
 have hlt:2 ^ b - 1<2 ^ (b+1):=by rw[Nat.pow_succ];omega
 have hlt2:2 ^ b<2 ^ (b+1):=by rw[Nat.pow_succ];omega
 have hw1:w - 1=2 ^ (b+1)*q+(2 ^ b - 1):=a8
 have hwl:w - 1<2 ^ 64:=a8
 have hsub:18446744073709551616 - w=2 ^ 64 - ((w - 1)+1):=by rw[←e];omega
 rw[hsub]
 apply Nat.eq_of_testBit_eq
 intro i
 rw[Nat.testBit_and,Nat.testBit_two_pow_sub_succ hwl,Nat.testBit_two_pow]
 by_cases hi:i<b
 ·rw[h2 i hi,Bool.false_and,Yr (show ¬b=i from a8)]
 ·by_cases hib:i=b
  ·subst hib
   rw[h1,hw1,Nat.testBit_two_pow_mul_add _ hlt,if_pos (a8),Nat.testBit_two_pow_sub_one]
   simp[hb]
  ·rw[hw1,Nat.testBit_two_pow_mul_add _ hlt,if_neg (a8),Yr (show ¬b=i from fun h=> hib h.symm)]
   have:w.testBit i=q.testBit (i - (b+1)):=by rw[hwq,Nat.testBit_two_pow_mul_add _ hlt2,if_neg (a8)]
   rw[this]
   cases q.testBit (i - (b+1)) <;> simp
theorem sQ {l:List Int}(h:rise l=true):∀{i j:Nat}{x y:Int},l[i]? =some x→l[j]? =some y→i<j→x<y:=by
 intro i j
 induction j with
 |zero=> intro x y _ _ h;omega
 |succ j ih=>
  intro x y hx hy hij
  have hj:=(Yk.1 hy).1
  obtain⟨z,hz⟩:∃z,l[j]? =some z:=⟨_,Yi (a8)⟩
  have h1:=(gJ l).1 h j z y hz hy
  by_cases he:i=j
  ·subst he;rw[hx]at hz;cases hz;exact h1
  ·have:=ih hx hz (a8);omega
theorem ED {G:cM}{H:cG}{s:SV}{l:List Int} [hg:Glb G H] [Sl H s eI l] (hm:l.length≤10000000000) (hl:∀x∈l,x≤9223372036854775807):SC G Tryz.prog 39 [s.val] H (fun v H'=>
 (iW l=true∧v= .tuple #[.slice none 0 0,G.err 1]∧H'=H)∨(iW l=false∧rise l=false∧v= .tuple #[.slice none 0 0,G.err 5]∧H'=H)∨(iW l=false∧rise l=true∧∃s':SV,v= .tuple #[s'.val, .nilIface]∧H'=Row s' eB (uv l.length++dz (-1) l)::H)):=by
 refine sWk Tryz.func39 Tryz.ntmps39 ?_
 refine go ?_
 refine gk (k:=wl_ (Nat) (fun i=> i≤l.length∧∀j x,j<i→l[j]? =some x→0≤x) (fun i=> [(0,s.val),(7,s.val),(8, .int .i64 ((l.length:Nat):Int)),(9, .int .i64 ((i:Nat):Int))]) (fun _=> H) (fun i=> l.length - i) (0) (h0:=?_) (k:=?_))
 ·try dsimp only
  exact⟨Yl _,fun j x h=> absurd h (Nat.not_lt_zero _)⟩
 rintro i ⟨hi,hall⟩
 try dsimp only at*
 refine gk (k:=wi_ (k:=fun h1=>?_) (m:=fun h1=>?_))
 ·obtain⟨x,hx⟩:∃x,l[i]? =some x:=⟨_,Yi (a8)⟩
  refine go ?_
  refine gk (k:=wi_ (k:=fun h2=>?_) (m:=fun h2=>?_))
  ·refine go ?_
   refine cW cL (as_ 0 (q:=ldv) (k:=as_ 1 (q:=asn) (k:=as_ 2 (q:=asn) (k:=az_ (k:=gk (k:=rt_ Tryz.results39 (k:=?_)))))))
   exact⟨_,cK.refl, .inl ⟨np hx h2,rfl,rfl⟩⟩
  refine go ?_
  refine ln_ (i+1) (k:=?_)
  try dsimp only
  refine⟨a8,fun j y hj hy=> ?_⟩
  rcases Nat.lt_or_eq_of_le (Nat.le_of_lt_succ hj)with h|rfl
  ·exact hall j y h hy
  ·rw[hx]at hy;cases hy;omega
 have hb:iW l=false:=(il l).2 fun j x hx=> hall j x (by have:=(Yk.1 hx).1;omega) hx
 refine go ?_
 refine c0_ rfl (fC) (k:=?_)
 rintro _ _ ⟨b1,rfl,rfl⟩
 refine go ?_
 refine c2_ rfl (AN (aj) hm hl) (k:=?_)
 rintro v1 H1 hK
 rcases hK with⟨hbt,_,_⟩|⟨_,hr,rfl,rfl⟩|⟨_,hr,rfl,rfl⟩
 ·exact absurd hbt (by rw[hb];simp)
 ·refine e_ (cR rfl) (k:=?_)
  refine gk (k:=ift (k:=go ?_))
  refine cW cL (as_ 0 (q:=ldv) (k:=as_ 1 (q:=asn) (k:=as_ 2 (q:=asn) (k:=az_ (k:=gk (k:=rt_ Tryz.results39 (k:=?_)))))))
  exact⟨_,hsb, .inr (.inl ⟨hb,hr,rfl,rfl⟩)⟩
 have hlen:(([]:List Nat)++(uv l.length++dz (-1) l)).length≤1000000000000:=by
  have h1:=mq hb hl
  have h2:=dc (n:=l.length) (a8)
  simp only[Ya,Yc];omega
 refine e_ (cN rfl) (k:=?_)
 refine gk (k:=dw (k:=go ?_))
 refine c1_ rfl (iB hlen) (k:=?_)
 rintro _ _ ⟨s1,rfl,rfl⟩
 refine gk (k:=rt_ Tryz.results39 (k:=?_))
 exact⟨_,hsb, .inr (.inr ⟨hb,hr,s1,rfl,rfl⟩)⟩
def eP:Enc (SV×SV):=⟨fun p=> [p.1.val,p.2.val],2,true,fun _=> rfl,fun p v h=> by simp at h;rcases h with rfl|rfl <;> rfl,ag,fun h=> aR,ag⟩
instance {p:SV×SV}:kK eP p (.agg [p.1.val,p.2.val].toArray):=⟨rfl⟩
instance {a b:SV}:fH eP (.agg [a.val,b.val].toArray) (a,b):=⟨rfl⟩
def iA (H:cG) (l:List (SV×SV)) (ps:Pcs):Prop:=l.length=ps.length∧∀(i:Nat) (p:SV×SV) (q:List Nat×List Int),l[i]? =some p→ps[i]? =some q→Sl H p.1 eB q.1∧Sl H p.2 eI q.2
def ji (F H:cG) (l:List (Nat×SV)) (bl:List (Nat×List Nat)):Prop:=l.length=bl.length∧∀(i:Nat) (p:Nat×SV) (q:Nat×List Nat),l[i]? =some p→bl[i]? =some q→p.1=q.1∧(Sl F p.2 eB q.2∨Sl H p.2 eB q.2)
theorem ji.bods {F H:cG}{l:List (Nat×SV)}{bl:List (Nat×List Nat)}{s:SV}{α:Type}{e:Enc α}{xs:List α}(h:ji F H l bl):kL (Row s e xs::dH F::H) l bl:=
 ⟨h.1,fun i p q hp hq=> by
   obtain⟨h1,h2⟩:=h.2 i p q hp hq
   rcases h2 with h2|h2 <;> exact⟨h1,inferInstance⟩⟩
theorem ji.snoc {F F' H:cG}{l:List (Nat×SV)}{bl:List (Nat×List Nat)}(h:ji F H l bl) (x:Nat) (s:SV) (body:List Nat) (hF:∀(s:SV) (b:List Nat),Sl F s eB b→Sl F' s eB b) (hs:Sl F' s eB body∨Sl H s eB body):ji F' H (l++ [(x,s)]) (bl++ [(x,body)]):=by
 obtain⟨h1,h2⟩:=h
 refine⟨by simp[h1],fun i p q hp hq=> ?_⟩
 by_cases hi:i<l.length
 ·rw[Yv hi]at hp
  rw[Yv (a8)]at hq
  obtain⟨h3,h4⟩:=h2 i p q hp hq
  exact⟨h3,h4.imp (hF _ _) id⟩
 ·rw[Yu (a8)]at hp hq
  have hz:i - l.length=0:=by
   have:=(Yk.1 hp).1
   simp at this;omega
  rw[hz]at hp
  rw[←h1,hz]at hq
  simp at hp hq
  subst hp;subst hq
  exact⟨rfl,hs⟩
theorem ji.nil {F H:cG}:ji F H [] []:=⟨rfl,fun i p q h=> aR⟩
def vL (bl:List (Nat×List Nat)):Except Nat (List (Nat×List Nat))→Except Nat (List (Nat×List Nat))
 | .ok r=> .ok (bl++r)
 | .error e=> .error e
def jK (ps:Pcs):Nat:=(ps.map fun p=> p.1.length+10*p.2.length+100).sum
theorem mU:∀(ps:Pcs) (bl:List (Nat×List Nat)),sH ps→ee ps= .ok bl→(da bl).length≤jK ps∧bl.length=2*ps.length
 | [],bl,_,h=> by
  simp only[ee,Except.ok.injEq]at h
  subst h
  simp[da,jK]
 |p::ps,bl,hk,h=> by
  obtain⟨k1,k2,k3,k4⟩:=hk p (aj)
  rw[ee]at h
  split at h
  ·cases h
  ·rename_i hb
   split at h
   ·cases h
   ·split at h
    ·cases h
    ·rename_i bl' hp
     simp only[Except.ok.injEq]at h
     subst h
     simp only[Bool.not_eq_true]at hb
     obtain⟨q1,q2⟩:=mU ps bl' (fun p hp=> hk p (by simp[hp])) hp
     have hrl:=mq hb k3
     have hul:=dc (n:=p.2.length) (a8)
     have hu1:=dc (n:=p.1.length) (a8)
     have hu2:=dc (n:=(uv p.2.length++dz (-1) p.2).length) (aS)
     have e:da ((3,p.1)::(4,uv p.2.length++dz (-1) p.2)::bl')=fK 3 p.1++(fK 4 (uv p.2.length++dz (-1) p.2)++da bl'):=bu
     refine⟨?_,aJ⟩
     rw[e,Ya,Ya,ft,ft,jK,List.map_cons,List.sum_cons,←jK]
     rw[Ya]at hu2⊢
     omega
theorem iT {H R H' F:cG}{s:SV}{α:Type}{e:Enc α}{xs:List α} [hr:pI H s e xs R] (h:cK R (dH F::H')):cK H (dH (Row s e xs::F)::H'):=
 (jr hr h.keep).trans (qQ cK.refl)
theorem DJ {G:cM}{H:cG}{sf sp:SV}{fs:List FV}{lp:List (SV×SV)}{ps:Pcs}{next:Int} [hg:Glb G H] [Tab H 26 ig] [Tab H 24 fF] [Sl H sf eF fs] [hsp:Sl H sp eP lp] (hP:iA H lp ps) (hk:sH ps) (hn:fs.length≤1000000000) (hf:∀f∈fs,f.name.size≤1000000000000) (hpl:ps.length≤100000000) (hsum:jK ps≤900000000):
 SC G Tryz.prog 11 [.agg [sf.val, .int .i64 next,sp.val].toArray] H (fun v H'=> (∃e,fG fs next ps= .error e∧v= .tuple #[.slice none 0 0,G.err e]∧H'=H)∨(∃img,∃s':SV,fG fs next ps= .ok img∧v= .tuple #[s'.val, .nilIface]∧H'=Row s' eB img::H)):=by
 obtain⟨hlen,hin⟩:=hP
 refine sWk Tryz.func11 Tryz.ntmps11 ?_
 refine gk (k:=bxx (k:=fun b1=>?_))
 refine go ?_
 refine c1_ rfl (B1 hn hf) (k:=?_)
 rintro v1 H1 hK
 rcases hK with⟨hc,rfl,rfl⟩|⟨hc,s1,rfl,rfl⟩
 ·refine e_ mv (k:=e_ exr (k:=e_ exr (k:=e_ asn (k:=e_ asn (k:=on_ (qn_ (ws_ (ws_ (wr_ (e_ mv (k:=?_)))))))))))
  refine e_ (cR rfl) (k:=?_)
  refine gk (k:=ift (k:=go ?_))
  refine cW cL (as_ 0 (q:=ldv) (k:=as_ 1 (q:=asn) (k:=as_ 2 (q:=asn) (k:=az_ (k:=gk (k:=rt_ Tryz.results11 (k:=?_)))))))
  exact⟨_,hsb, .inl ⟨0,by rw[fG,if_pos hc],rfl,rfl⟩⟩
 have hes:=nY hc
 refine e_ mv (k:=e_ exr (k:=e_ exr (k:=e_ asn (k:=e_ asn (k:=on_ (qn_ (ws_ (ws_ (wr_ (e_ mv (k:=?_)))))))))))
 refine e_ (cN rfl) (k:=?_)
 refine gk (k:=dw (k:=wk_ (qn_ (ws_ (ws_ (wr_ (e_ fla (k:=e_ ldv (k:=e_ ilt (k:=sp_ (mv) (k:=fun h1=>?_) (m:=fun h1=>?_)))))))))))
 ·refine gk (k:=ift (k:=go ?_))
  refine cW cL (as_ 0 (q:=ldv) (k:=as_ 1 (q:=asn) (k:=as_ 2 (q:=asn) (k:=az_ (k:=gk (k:=rt_ Tryz.results11 (k:=?_)))))))
  exact⟨_,hsb, .inl ⟨1,aW,rfl,rfl⟩⟩
 refine gk (k:=wi_ (k:=fun h2=>?_) (m:=fun h2=>?_))
 ·refine go ?_
  refine cW cL (as_ 0 (q:=ldv) (k:=as_ 1 (q:=asn) (k:=as_ 2 (q:=asn) (k:=az_ (k:=gk (k:=rt_ Tryz.results11 (k:=?_)))))))
  exact⟨_,hsb, .inl ⟨1,aW,rfl,rfl⟩⟩
 refine go ?_
 refine c0_ rfl (fC) (k:=?_)
 rintro _ _ ⟨bw,rfl,rfl⟩
 refine e_ asn (k:=on_ (qn_ (ws_ (wr_ (?_)))))
 have e0:fG fs next ps=match ee ps with
  | .error e=> .error e
  | .ok bl=> .ok (jW 73 ((1,fq fs)::(2,uv next.toNat)::bl)):=by
  rw[fG,if_neg (by rw[hc];simp),if_neg (a8)]
  all_goals rfl
 have hun:=dc (n:=next.toNat) (a8)
 refine e_ mv (k:=e_ fla (k:=e_ ldv (k:=?_)))
 refine e_ (cS 18446744073709551616 rfl rfl rfl next.toNat (a8) (a8)) (k:=?_)
 refine d2_ rfl (eC next.toNat (a8) (aj)) (k:=on_ (qn_ (ws_ (wr_ (?_)))))
 rw[Ye]
 refine e_ mv (k:=e_ (bld [(0,_),(1,_)]) (k:=go ?_))
 refine c1_ rfl (iB (a8)) (k:=?_)
 rintro _ _ ⟨s2,rfl,rfl⟩
 refine e_ (bld [(0,_),(1,_)]) (k:=?_)
 refine s_ (mi eK rfl rfl rfl) (k:=?_)
 rintro _ _ ⟨s3,rfl,rfl⟩
 refine gk (k:=wl_ (SV×Nat×List (Nat×SV)×List (Nat×List Nat)×cG) (fun y=> y.2.1≤ps.length∧ji y.2.2.2.2 H y.2.2.1 ((1,fq fs)::(2,uv next.toNat)::y.2.2.2.1)∧y.2.2.1.length=2*y.2.1+2∧ee ps=vL y.2.2.2.1 (ee (ps.drop y.2.1))) (fun y=> [(7,y.1.val),(43,sp.val),(44, .int .i64 ((ps.length:Nat):Int)),(45, .int .i64 ((y.2.1:Nat):Int))]) (fun y=> Row y.1 eK y.2.2.1::dH y.2.2.2.2::H) (fun y=> ps.length - y.2.1) ((s3,0, [(1,s1),(2,s2)], [], [Row s2 eB (uv next.toNat),Row s1 eB (fq fs)])) (hs:=?_) (hh:=?_) (h0:=?_) (k:=?_))
 ·rw[hlen]
  repeat (first|exact Sub.nil|refine Sub.cons rfl ?_)
 ·try dsimp only
  refine cK.row (iT (iT (jH ?_)))
  exact hsb
 ·try dsimp only
  refine⟨Yl _,?_,rfl,?_⟩
  ·have h1:ji [Row s2 eB (uv next.toNat),Row s1 eB (fq fs)] H ([]++ [(1,s1)]) ([]++ [(1,fq fs)]):=(ji.nil (F:= [Row s2 eB (uv next.toNat),Row s1 eB (fq fs)])).snoc 1 s1 _ (fun _ _ h=> h) (.inl inferInstance)
   exact h1.snoc 2 s2 _ (fun _ _ h=> h) (.inl inferInstance)
  ·rw[List.drop_zero]
   cases ee ps with
   |ok r=> rfl
   |error e=> rfl
 rintro⟨s,i,l,bl,F⟩ ⟨hi,hB,hl,hI⟩
 try dsimp only at*
 refine gk (k:=wi_ (k:=fun h3=>?_) (m:=fun h3=>?_))
 ·obtain⟨p,hp⟩:∃p,lp[i]? =some p:=⟨_,Yi (a8)⟩
  obtain⟨q,hq⟩:∃q,ps[i]? =some q:=⟨_,Yi (a8)⟩
  obtain⟨hS1,hS2⟩:=hin i p q hp hq
  obtain⟨k1,k2,k3,k4⟩:=hk q (Yj hq)
  rw[dV hq,ee]at hI
  refine gk (k:=alc (k:=fun b2=>?_))
  refine go ?_
  refine c1_ rfl (ED (l:=q.2) (a8) k3) (k:=?_)
  rintro v1 H1 hK
  rcases hK with⟨hb,rfl,rfl⟩|⟨hb,hr,rfl,rfl⟩|⟨hb,hr,s4,rfl,rfl⟩
  ·rw[if_pos hb]at hI
   refine e_ mv (k:=e_ exr (k:=e_ exr (k:=e_ asn (k:=e_ asn (k:=on_ (qn_ (ws_ (ws_ (wr_ (e_ mv (k:=?_)))))))))))
   refine e_ (cR rfl) (k:=?_)
   refine gk (k:=ift (k:=go ?_))
   refine gk (k:=rt_ Tryz.results11 (k:=?_))
   exact⟨_,hsb, .inl ⟨_,by rw[e0,hI];all_goals rfl,rfl,rfl⟩⟩
  ·rw[if_neg (by rw[hb];simp),if_pos hr]at hI
   refine e_ mv (k:=e_ exr (k:=e_ exr (k:=e_ asn (k:=e_ asn (k:=on_ (qn_ (ws_ (ws_ (wr_ (e_ mv (k:=?_)))))))))))
   refine e_ (cR rfl) (k:=?_)
   refine gk (k:=ift (k:=go ?_))
   refine gk (k:=rt_ Tryz.results11 (k:=?_))
   exact⟨_,hsb, .inl ⟨_,by rw[e0,hI];all_goals rfl,rfl,rfl⟩⟩
  rw[if_neg (by rw[hb];simp),if_neg (by rw[hr];simp)]at hI
  refine e_ mv (k:=e_ exr (k:=e_ exr (k:=e_ asn (k:=e_ asn (k:=on_ (qn_ (ws_ (ws_ (wr_ (e_ mv (k:=?_)))))))))))
  refine e_ (cN rfl) (k:=?_)
  refine gk (k:=dw (k:=wk_ (qn_ (wr_ (e_ mv (k:=e_ fla (k:=e_ ldv (k:=e_ (bld [(0,_),(1,_)]) (k:=e_ mv (k:=e_ (bld [(0,_),(1,_)]) (k:=?_)))))))))))
  refine s_ (mi eK rfl rfl rfl) (k:=?_)
  rintro _ _ ⟨s5,rfl,rfl⟩
  refine app (hlim:=by simp only[Yb,Yc];omega) (hlim2:=by simp only[Yb,Yc];omega) (k:=fun s6=>?_)
  refine go ?_
  refine ln_ ((s6,i+1,l++ [(3,p.1),(4,s4)],bl++ [(3,q.1),(4,uv q.2.length++dz (-1) q.2)],Row s4 eB (uv q.2.length++dz (-1) q.2)::F)) (k:=?_)
  try dsimp only
  refine⟨a8,?_,aB,?_⟩
  ·have h1:=(hB.snoc (F':=Row s4 eB (uv q.2.length++dz (-1) q.2)::F) 3 p.1 q.1 (fun _ _ h=> inferInstance) (.inr hS1)).snoc (F':=Row s4 eB (uv q.2.length++dz (-1) q.2)::F) 4 s4 (uv q.2.length++dz (-1) q.2) (fun _ _ h=> h) (.inl inferInstance)
   simpa using h1
  ·rw[hI]
   cases ee (ps.drop (i+1))with
   |ok r=> simp[vL]
   |error e=> rfl
 obtain rfl:i=ps.length:=a8
 rw[List.drop_of_length_le (Nat.le_refl _),ee]at hI
 have hI':ee ps= .ok bl:=by rw[hI];simp[vL]
 obtain⟨m1,m2⟩:=mU ps bl hk hI'
 obtain⟨n1,n2,n3⟩:=mu ps bl hk hI'
 have hall:∀q∈(1,fq fs)::(2,uv next.toNat)::bl,0<q.1∧q.1<256∧∀x∈q.2,x<256:=by
  intro q hq
  rcases List.mem_cons.1 hq with rfl|hq
  ·exact⟨aj,aj,qz hc⟩
  ·rcases List.mem_cons.1 hq with rfl|hq
   ·exact⟨aj,aj,gH _⟩
   ·exact⟨(n3 q hq).1,(n3 q hq).2.1,(n3 q hq).2.2.1⟩
 have hel:(da ((1,fq fs)::(2,uv next.toNat)::bl)).length≤1000000000:=by
  have hu1:=dc (n:=(fq fs).length) (a8)
  have hu2:=dc (n:=(uv next.toNat).length) (a8)
  rw[show da ((1,fq fs)::(2,uv next.toNat)::bl)=fK 1 (fq fs)++(fK 2 (uv next.toNat)++da bl)from bu,Ya,Ya,ft,ft]
  omega
 refine go ?_
 refine c2_ rfl (Jt (bl:=(1,fq fs)::(2,uv next.toNat)::bl) 73 (ag) (ag) hB.bods hall hel (aJ)) (k:=?_)
 rintro _ _ ⟨s5,rfl,rfl⟩
 refine gk (k:=rt_ Tryz.results11 (k:=?_))
 exact⟨_,hsb, .inr ⟨_,s5,by rw[e0,hI'],rfl,rfl⟩⟩
end Go.Sx
