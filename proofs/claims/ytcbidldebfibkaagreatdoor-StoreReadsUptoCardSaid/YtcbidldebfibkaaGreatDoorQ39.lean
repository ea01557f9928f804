import Derived.Test.YtcbidldebfibkaaGreatDoorQ38
set_option linter.unusedVariables false
set_option linter.unusedSimpArgs false
set_option linter.unusedSectionVars false
set_option linter.unnecessarySimpa false
set_option maxHeartbeats 0
namespace Go.Sx
open Go Go.Proofs
set_option maxRecDepth 100000
def kg:Nat→Int→List Nat→Option (List Int×Nat)
 | 0,_,_=> some ([],0)
 |n+1,last,r=>
  match fj 0 r with
  |none=> none
  |some (x,m)=> if last=9223372036854775807∨9223372036854775806 - last<(x:Int)then none else
   match kg n (last+1+x) (r.drop m)with
   |none=> none
   |some (l,k)=> some ((last+1+x)::l,m+k)
def ux (zs:List Int) (a:Nat):Option (List Int×Nat)→Option (List Int×Nat)
 |none=> none
 |some (l,k)=> some (zs++l,a+k)
def j1 (xs:List Nat):Option (List Int×Nat):=
 match fj 0 xs with
 |none=> none
 |some (n,m)=> if xs.length<n then none else ux [] m (kg n (-1) (xs.drop m))
theorem mh:∀(l:List Nat) (i v n:Nat),i≤9→fj i l=some (v,n)→v<2 ^ (63 - 7*i)∧n≤l.length∧1≤n
 | [],i,v,n,_,h=> by rw[fj]at h;cases h
 |x::r,i,v,n,hi,h=> by
  rw[fj]at h
  split at h
  ·cases h
  ·split at h
   ·rename_i h9 hx
    cases h
    have h7:2 ^ 7≤2 ^ (63 - 7*i):=Nat.pow_le_pow_right (ag) (a8)
    exact⟨a8,aj,Nat.le_refl _⟩
   ·split at h
    ·rename_i h9 hx v' n' he
     cases h
     obtain⟨h1,h2,h3⟩:=mh r (i+1) v' n' (a8) he
     have h7:2 ^ (63 - 7*i)=128*2 ^ (63 - 7*(i+1)):=by
       rw[show 63 - 7*i=63 - 7*(i+1)+7 from a8,Nat.pow_add];omega
     exact⟨a8,aJ,a8⟩
    ·cases h
def tkN:Option (Nat×Nat)→Int
 |some (v,_)=> v
 |none=> 0
def tkP (p:Nat):Option (Nat×Nat)→Int
 |some (_,n)=> ((p+n:Nat):Int)
 |none=> -1
theorem pO {p:Nat}{r:Option (Nat×Nat)}:Jb p r= .tuple #[.int .i64 (tkN r), .int .i64 (tkP p r)]:=by
 cases r <;> rfl
theorem GL {p:Nat}{r:Option (Nat×Nat)}(h:tkP p r<0):r=none:=by
 cases r with
 |none=> rfl
 |some q=> obtain⟨v,n⟩:=q;simp only[tkP]at h;omega
theorem wi {p:Nat}{r:Option (Nat×Nat)}(h:¬tkP p r<0):∃v n,r=some (v,n):=by
 cases r with
 |none=> exact absurd (show(-1:Int)<0 from ag) h
 |some q=> exact⟨q.1,q.2,rfl⟩
theorem E8 {G:cM}{H:cG}{s:SV}{xs:List Nat} [hs:Sl H s eB xs] (hn:xs.length≤1000000000) (hb:∀x∈xs,x<256):SC G Tryz.prog 53 [s.val] H (fun v H'=>
 (j1 xs=none∧v= .tuple #[.slice none 0 0, .bool false]∧H'=H)∨(∃l k,∃s':SV,j1 xs=some (l,k)∧v= .tuple #[s'.val, .bool (decide (k=xs.length))]∧H'=Row s' eI l::H)):=by
 refine sWk Tryz.func53 Tryz.ntmps53 ?_
 refine go ?_
 refine c2_ rfl (sS (p:=0) (a8) (ag) hb) (k:=?_)
 rintro _ H ⟨rfl,rfl⟩
 rw[List.drop_zero,pO]
 refine e_ mv (k:=e_ exr (k:=e_ exr (k:=e_ asn (k:=e_ asn (k:=on_ (qn_ (ws_ (?_))))))))
 refine nt ([(0,s.val),(4, .int .i64 (tkN (fj 0 xs))),(5, .int .i64 (tkP 0 (fj 0 xs))),(23, .bool (decide (tkP 0 (fj 0 xs)<0∨(xs.length:Int)<tkN (fj 0 xs))))]) ?_ ?_
 ·refine wr_ (e_ mv (k:=e_ ilt (k:=sp_ (mv) (k:=fun h1=>?_) (m:=fun h1=>?_))))
  ·refine gk (k:=ctt)
  refine gk (k:=ctt)
 refine wi_ (k:=fun h2=>?_) (m:=fun h2=>?_)
 ·have hN:j1 xs=none:=by
   rw[j1]
   rcases hr:fj 0 xs with _|⟨n,m⟩
   ·rfl
   ·rw[hr]at h2
    simp only[tkP,tkN]at h2
    simp only[]
    rw[if_pos (a8)]
  refine gk (k:=rt_ Tryz.results53 (k:=?_))
  exact⟨_,cK.refl, .inl ⟨hN,rfl,rfl⟩⟩
 obtain⟨n,m,hr⟩:=wi (r:=fj 0 xs) (p:=0) (fun h=> h2 (.inl h))
 rw[hr]at h2⊢
 simp only[tkP,tkN,Nat.zero_add]at h2⊢
 obtain⟨q1,q2,q3⟩:=mh xs 0 n m (a8) hr
 have e0:j1 xs=ux [] m (kg n (-1) (xs.drop m)):=by rw[j1,hr];simp only[];rw[if_neg (a8)]
 refine go ?_
 refine gk (k:=wl_ (SV×Nat×Int×Nat×List Int) (fun y=> y.2.1≤n∧y.2.2.2.1≤xs.length∧y.2.2.2.2.length=y.2.1∧ -1≤y.2.2.1∧y.2.2.1≤9223372036854775807∧j1 xs=ux y.2.2.2.2 y.2.2.2.1 (kg (n - y.2.1) y.2.2.1 (xs.drop y.2.2.2.1))) (fun y=> [(0,s.val),(4, .int .i64 ((n:Nat):Int)),(5, .int .i64 ((y.2.2.2.1:Nat):Int)),(6,y.1.val),(7, .int .i64 y.2.2.1),(8, .int .i64 ((y.2.1:Nat):Int))]) (fun y=> Row y.1 eI y.2.2.2.2::H) (fun y=> n - y.2.1) ((SV.nil,0, -1,m, [])) (h0:=?_) (k:=?_))
 ·try dsimp only
  exact⟨Yl _,q2,rfl,ag,ag,e0⟩
 rintro⟨sb,i,last,p,zs⟩ ⟨hi,hp,hz,hl1,hl2,hI⟩
 try dsimp only at*
 refine gk (k:=wi_ (k:=fun h3=>?_) (m:=fun h3=>?_))
 ·obtain⟨d,hd⟩:∃d,n - i=d+1:=⟨n - i - 1,a8⟩
  rw[hd,kg]at hI
  refine go ?_
  refine c2_ rfl (sS (p:=p) (a8) (a8) hb) (k:=?_)
  rintro _ H2 ⟨rfl,rfl⟩
  rw[pO]
  refine e_ mv (k:=e_ exr (k:=e_ exr (k:=e_ asn (k:=e_ asn (k:=on_ (qn_ (ws_ (?_))))))))
  refine nt ([(0,s.val),(4, .int .i64 ((n:Nat):Int)),(5, .int .i64 ((p:Nat):Int)),(6,sb.val),(7, .int .i64 last),(8, .int .i64 ((i:Nat):Int)),(9, .int .i64 (tkN (fj 0 (xs.drop p)))),(10, .int .i64 (tkP p (fj 0 (xs.drop p)))),(46, .bool (decide (tkP p (fj 0 (xs.drop p))<0∨last=9223372036854775807∨9223372036854775806 - last<tkN (fj 0 (xs.drop p)))))]) ?_ ?_
  ·refine wr_ (e_ mv (k:=e_ ilt (k:=sp_ (mv) (k:=fun h4=>?_) (m:=fun h4=>?_))))
   ·refine gk (k:=ctt)
   refine eg_ mv (k:=eg_ ieq (k:=e_ pkf (k:=sp_ (mv) (k:=fun h5=>?_) (m:=fun h5=>?_))))
   ·refine gk (k:=ctt)
   refine gk (k:=ctt)
  refine wi_ (k:=fun h6=>?_) (m:=fun h6=>?_)
  ·have hN:j1 xs=none:=by
    rw[hI]
    rcases hr2:fj 0 (xs.drop p)with _|⟨x,k⟩
    ·rfl
    ·rw[hr2]at h6
     simp only[tkP,tkN]at h6
     simp only[]
     rw[if_pos (a8)];all_goals rfl
   refine gk (k:=rt_ Tryz.results53 (k:=?_))
   exact⟨_,hsb, .inl ⟨hN,rfl,rfl⟩⟩
  obtain⟨x,k,hr2⟩:=wi (r:=fj 0 (xs.drop p)) (p:=p) (fun h=> h6 (.inl h))
  rw[hr2]at h6⊢
  simp only[tkP,tkN]at h6⊢
  obtain⟨q4,q5,q6⟩:=mh (xs.drop p) 0 x k (a8) hr2
  rw[Yo]at q5
  rw[hr2]at hI
  simp only[]at hI
  rw[if_neg (a8),List.drop_drop]at hI
  refine go ?_
  refine gk (k:=dD eI (k:=fun s1=>?_))
  refine app (hlim:=by simp only[Yb,Yc];omega) (hlim2:=by simp only[Yb,Yc];omega) (k:=fun s2=>?_)
  refine go ?_
  refine ln_ ((s2,i+1,last+1+x,p+k,zs++ [last+1+x])) (k:=?_)
  try dsimp only
  refine⟨a8,a8,by rw[Ya,hz];all_goals rfl,a8,a8,?_⟩
  rw[hI,show n - (i+1)=d from a8]
  cases kg d (last+1+x) (xs.drop (p+k))with
  |none=> rfl
  |some q=> obtain⟨l,j⟩:=q;simp[ux,Nat.add_assoc]
 obtain rfl:i=n:=a8
 rw[Nat.sub_self,kg]at hI
 refine go ?_
 refine gk (k:=rt_ Tryz.results53 (k:=?_))
 exact⟨_,hsb, .inr ⟨zs,p,sb,by rw[hI];simp[ux],by rw[show decide (p=xs.length)=decide ((p:Int)=((xs.length:Nat):Int))from decide_eq_decide.2 (a8)];all_goals rfl,rfl⟩⟩
theorem sK:∀(l:List Nat) (i v n:Nat),(∀x∈l,x<256)→i≤9→eY i l= .ok (v,n)→v<2 ^ (63 - 7*i)→fj i l=some (v,n)
 | [],i,v,n,_,_,h,_=> by rw[eY]at h;cases h
 |x::r,i,v,n,hb,hi,h,hv=> by
  have hx:=hb x (aj)
  rw[eY]at h
  split at h
  ·cases h
  ·rename_i h9
   split at h
   ·rename_i h128
    split at h
    ·rename_i v' n' hr
     cases h
     have hi9:i<9:=a8
     have h7:2 ^ (63 - 7*i)=128*2 ^ (63 - 7*(i+1)):=by
       rw[show 63 - 7*i=63 - 7*(i+1)+7 from a8,Nat.pow_add];omega
     rw[fj,if_neg (a8),if_neg (a8),sK r (i+1) v' n' (fun y hy=> hb y (by simp[hy])) (a8) hr (a8)]
    ·cases h
   ·rename_i h128
    split at h
    ·cases h
    ·rename_i h0
     cases h
     by_cases hi9:i=9
     ·subst hi9
      simp at hv
      omega
     ·rw[fj,if_neg (a8),if_pos (a8)]
theorem vi:∀(n:Nat) (last:Int) (l:List Nat) (d:List Int) (m:Nat),(∀x∈l,x<256)→ -1≤last→iV n last l= .ok (d,m)→kg n last l=some (d,m)
 | 0,last,l,d,m,_,_,h=> by
  simp only[iV,Except.ok.injEq,Prod.mk.injEq]at h
  obtain⟨rfl,rfl⟩:=h
  rfl
 |n+1,last,l,d,m,hb,hl,h=> by
  rw[iV]at h
  split at h
  ·cases h
  ·rename_i v c hu
   split at h
   ·cases h
   ·rename_i hle
    split at h
    ·cases h
    ·rename_i r' m' hr
     cases h
     have e1:=sK l 0 v c hb (a8) hu (by show v<9223372036854775808;omega)
     rw[kg,e1]
     simp only[]
     rw[if_neg (a8),show last+1+(v:Int)=last+v+1 from a8,vi n _ _ r' m' (fun y hy=> hb y (Yp hy)) (a8) hr]
theorem wz {most:Nat}{l:List Nat}{d:List Int}{m:Nat}(hm:most≤l.length) (hl:l.length≤1000000000) (hb:∀x∈l,x<256) (h:dL most l= .ok (d,m)):j1 l=some (d,m):=by
 rw[dL]at h
 split at h
 ·cases h
 ·rename_i n c hu
  obtain⟨u1,u2,u3,u4⟩:=dI hb hu
  have hu2:eY 0 l= .ok (n,c):=by
   rw[ec]at hu
   split at hu
   ·cases hu
   ·rename_i v' c' hr
    split at hu
    ·cases hu
    ·rw[hr];exact hu
  split at h
  ·cases h
  ·rename_i r m' hr
   cases h
   rw[j1,sK l 0 n c hb (a8) hu2 (by show n<9223372036854775808;omega)]
   simp only[]
   rw[if_neg (a8),vi n (-1) _ _ m' (fun y hy=> hb y (Yp hy)) (a8) hr]
   simp[ux]
def psR:List (Nat×List Nat)→Option Pcs
 | []=> some []
 | [_]=> none
 |a::b::r=>
  match j1 b.2 with
  |none=> none
  |some (d,k)=> if k=b.2.length then
   match psR r with
   |none=> none
   |some ps=> some ((a.2,d)::ps)
   else none
theorem xZ:∀(bl:List (Nat×List Nat)) (ps:Pcs),(∀q∈bl,(∀x∈q.2,x<256)∧q.2.length≤1000000000)→ky bl=some ps→psR bl=some ps
 | [],ps,_,h=> by rw[ky]at h;cases h;rfl
 | [_],ps,_,h=> by rw[ky]at h;cases h
 |a::b::r,ps,hb,h=> by
  rw[ky]at h
  split at h
  ·cases h
  ·split at h
   ·cases h
   ·rename_i d m hr
    obtain⟨b1,b2⟩:=hb b (aj)
    obtain⟨q1,_⟩:=gx b1 hr
    split at h
    ·cases h
    ·rename_i hm
     split at h
     ·cases h
     ·rename_i ps' hp
      cases h
      rw[psR,wz (Nat.le_refl _) b2 b1 hr]
      simp only[]
      rw[if_pos (a8),xZ r ps' (fun q hq=> hb q (by simp[hq])) hp]
def vj (bl:List (Nat×List Nat)):Option (List FV×Nat×Pcs):=
 match bl with
 |a::b::r=> if r.length % 2≠0 then none else
  match kI a.2,fj 0 b.2,psR r with
  |some fs,some (n,_),some ps=> some (fs,n,ps)
  |_,_,_=> none
 |_=> none
theorem xo {bl:List (Nat×List Nat)}{r:List FV×Nat×Pcs}(hb:∀q∈bl,(∀x∈q.2,x<256)∧q.2.length≤1000000000) (h:nG bl=some r):vj bl=some r:=by
 match bl,h with
 |a::b::t,h=>
  rw[nG]at h
  split at h
  ·cases h
  ·rename_i h2
   split at h
   ·cases h
   ·rename_i fs n hd
    split at h
    ·cases h
    ·rename_i ps hp
     cases h
     rw[uU]at hd
     split at hd
     ·cases hd
     ·split at hd
      ·cases hd
      ·rename_i fs' hs
       split at hd
       ·cases hd
       ·rename_i n' m hu
        split at hd
        ·cases hd
        ·cases hd
         obtain⟨b1,b2⟩:=hb b (aj)
         obtain⟨u1,u2,u3,u4⟩:=dI b1 hu
         have hu2:eY 0 b.2= .ok (n,m):=by
          rw[ec]at hu
          split at hu
          ·cases hu
          ·rename_i v' c' hr
           split at hu
           ·cases hu
           ·rw[hr];exact hu
         rw[vj,if_neg h2,hs,sK b.2 0 n m b1 (a8) hu2 (by show n<9223372036854775808;omega),xZ t ps (fun q hq=> hb q (by simp[hq])) hp]
theorem uP:∀(n:Nat) (last:Int) (l:List Nat) (d:List Int) (k:Nat),kg n last l=some (d,k)→d.length=n∧n≤k∧∀x∈d,x≤9223372036854775807
 | 0,last,l,d,k,h=> by
  simp only[kg,Option.some.injEq,Prod.mk.injEq]at h
  obtain⟨rfl,rfl⟩:=h
  exact⟨rfl,Nat.le_refl _,fun x hx=> by cases hx⟩
 |n+1,last,l,d,k,h=> by
  rw[kg]at h
  split at h
  ·cases h
  ·rename_i x m ht
   obtain⟨_,_,t3⟩:=mh l 0 x m (a8) ht
   split at h
   ·cases h
   ·rename_i hle
    split at h
    ·cases h
    ·rename_i l' k' hr
     cases h
     obtain⟨h1,h2,h3⟩:=uP n _ _ l' k' hr
     refine⟨by simp[h1],a8,fun y hy=> ?_⟩
     rcases List.mem_cons.1 hy with rfl|hy
     ·omega
     ·exact h3 y hy
theorem AA {l:List Nat}{d:List Int}{k:Nat}(h:j1 l=some (d,k)):d.length+1≤k∧∀x∈d,x≤9223372036854775807:=by
 rw[j1]at h
 split at h
 ·cases h
 ·rename_i n m ht
  obtain⟨_,_,t3⟩:=mh l 0 n m (a8) ht
  split at h
  ·cases h
  ·cases hr:kg n (-1) (l.drop m)with
   |none=> rw[hr]at h;cases h
   |some q=>
    obtain⟨d',k'⟩:=q
    rw[hr]at h
    simp only[ux,Ye,Option.some.injEq,Prod.mk.injEq]at h
    obtain⟨rfl,rfl⟩:=h
    obtain⟨h1,h2,h3⟩:=uP n _ _ d' k' hr
    exact⟨a8,h3⟩
theorem Et:∀(bl:List (Nat×List Nat)) (ps:Pcs),(∀q∈bl,(∀x∈q.2,x<256)∧q.2.length≤1000000000)→psR bl=some ps→sH ps∧jK ps≤20*(da bl).length∧bl.length=2*ps.length
 | [],ps,_,h=> by
  rw[psR]at h;cases h
  refine⟨?_,by simp[jK],rfl⟩
  intro p hp;cases hp
 | [_],ps,_,h=> by rw[psR]at h;cases h
 |a::b::r,ps,hb,h=> by
  rw[psR]at h
  split at h
  ·cases h
  ·rename_i d k ha
   split at h
   ·rename_i hk
    split at h
    ·cases h
    ·rename_i ps' hp
     cases h
     obtain⟨i1,i2,i3⟩:=Et r ps' (fun q hq=> hb q (by simp[hq])) hp
     obtain⟨a1,a2⟩:=AA ha
     obtain⟨b1,b2⟩:=hb b (aj)
     obtain⟨c1,c2⟩:=hb a (aj)
     refine⟨fun p hp=> ?_,?_,aJ⟩
     ·rcases List.mem_cons.1 hp with rfl|hp
      ·exact⟨c1,c2,a2,aP⟩
      ·exact i1 p hp
     ·have e:da (a::b::r)=fK a.1 a.2++(fK b.1 b.2++da r):=by simp[da]
      have hu2:=ju a.2.length
      have hu3:=ju b.2.length
      rw[e,Ya,Ya,ft,ft,jK,List.map_cons,List.sum_cons,←jK]
      simp only
      omega
   ·cases h
end Go.Sx
namespace Go.Sx
open Go Go.Proofs
def o6 (xs:List Nat):Bool:=
 match j1 xs with
 |none=> false
 |some (_,k)=> decide (k=xs.length)
theorem Co {G:cM}{H:cG}{s:SV}{xs:List Nat} [hs:Sl H s eB xs] (hn:xs.length≤1000000000) (hb:∀x∈xs,x<256):SC G Tryz.prog 53 [s.val] H (fun v H'=>
 ∃d,∃s':SV,v= .tuple #[s'.val, .bool (o6 xs)]∧(o6 xs=true→j1 xs=some (d,xs.length))∧H'=Row s' eI d::H):=
 SC.out ((E8 hn hb).mono fun v H' h=> by
  rcases h with⟨ha,h1,h2⟩|⟨l,k,s',ha,h1,h2⟩
  ·rw[h1,h2]
   exact⟨_,cK.nilRow cK.refl, [],SV.nil,by rw[o6,ha];all_goals rfl,(fun h=> by rw[o6,ha]at h;cases h),rfl⟩
  ·rw[h1,h2]
   exact⟨_,cK.refl,l,s',by rw[o6,ha],(fun h=> by rw[o6,ha]at h;rw[ha,Yt h]),rfl⟩)
theorem HR {a b:Nat×List Nat}{r:List (Nat×List Nat)}(h:o6 b.2=false):psR (a::b::r)=none:=by
 rw[psR]
 rw[o6]at h
 split
 ·rfl
 ·rename_i d k ha
  rw[ha]at h
  rw[if_neg (of_decide_eq_false h)]
theorem HQ {a b:Nat×List Nat}{r:List (Nat×List Nat)}{d:List Int}(h:j1 b.2=some (d,b.2.length)):psR (a::b::r)=uw [(a.2,d)] (psR r):=by
 rw[psR,h]
 simp only[if_true]
 cases psR r with
 |none=> rfl
 |some ps=> rfl
theorem yN (bl:List (Nat×List Nat)) (k:Nat):(da (bl.drop k)).length≤(da bl).length:=by
 have:da bl=da (bl.take k)++da (bl.drop k):=by
  rw[da,da,da,←List.flatMap_append,List.take_append_drop]
 rw[this,Ya];omega
theorem Av {l:List Nat}{fs:List FV}(hb:∀x∈l,x<256) (h:kI l=some fs):fs.length≤16∧∀f∈fs,f.name.size≤32:=by
 rw[kI]at h
 split at h
 ·cases h
 ·rename_i g hg
  split at h
  ·cases h;exact vo hb hg
  ·cases h
theorem Cy {fs:List FV}{n:Int}{ps:Pcs}(h:Mh (fG fs n ps)=0):∃img,fG fs n ps= .ok img:=by
 cases hp:fG fs n ps with
 |error e=>
  rw[hp]at h
  exact absurd h (I5 ⟨e,EC hp⟩)
 |ok img=> exact⟨img,rfl⟩
end Go.Sx
namespace Go.Sx
open Go Go.Proofs
set_option maxRecDepth 100000
theorem Jh {G:cM}{H:cG}{s:SV}{xs:List Nat} [hs:Sl H s eB xs] (hn:xs.length≤40000000) (hb:∀x∈xs,x<256):SC G Tryz.prog 25 [s.val] H (fun v H'=>
 (unE xs=none∧H'=H∧v= .tuple #[.agg [SV.nil.val, .int .i64 0,SV.nil.val].toArray, .int .i64 10])∨(∃fs n ps lp F,∃sf sp:SV,unE xs=some (fs,n,ps)∧iA F lp ps∧v= .tuple #[.agg [sf.val, .int .i64 ((n:Nat):Int),sp.val].toArray, .int .i64 0]∧H'=Row sf eF fs::Row sp eP lp::dH F::H)):=by
 refine sWk Tryz.func25 Tryz.ntmps25 ?_
 refine gk (k:=alc (k:=fun b2=>?_))
 refine go ?_
 refine c2_ rfl (tI 73 (ag) (a8) hb) (k:=?_)
 rintro v1 H1 hK
 rcases hK with⟨he,rfl,e,hne,rfl⟩|⟨bl,lb,F0,sbl,he,hB,rfl,rfl⟩
 ·have hN:unE xs=none:=by rw[unE,he]
  refine e_ mv (k:=e_ exr (k:=e_ exr (k:=e_ asn (k:=e_ asn (k:=on_ (qn_ (ws_ (ws_ (wr_ (e_ mv (k:=e_ ine (k:=sr_ (mv) (k:=fun h1=>?_) (m:=fun h1=>?_)))))))))))))
  ·refine of_ (k:=of_ (k:=of_ (k:=e_ pkt (k:=e_ mv (k:=of_ (k:=of_ (k:=of_ (k:=of_ (k:=e_ pkt (k:=on_ (qn_ (ift (k:=ws_ (?_))))))))))))))
   refine wr_ (e_ (bld []) (k:=sto (k:=e_ asn (k:=on_ (qn_ (wt_ (qr_ (rt_ Tryz.results25 (k:=?_)))))))))
   exact⟨_,hsb, .inl ⟨hN,rfl,rfl⟩⟩
  exact absurd hne (of_decide_eq_false h1)
 have eU:unE xs=nG bl:=by rw[unE,he]
 obtain⟨hlen,hbod⟩:=hB
 obtain⟨i1,i2,i3⟩:=jS hb he
 have hxl:=congrArg List.length i1
 rw[kA]at hxl
 have hbll:=oF bl
 have hq:∀q∈bl,(∀x∈q.2,x<256)∧q.2.length≤1000000000:=fun q hq=> ⟨(i3 q hq).2,by have:=ic hq;omega⟩
 have key:vj bl=none→unE xs=none:=fun h=> by
  rw[eU]
  cases hu:nG bl with
  |none=> rfl
  |some r=> rw[xo hq hu]at h;cases h
 refine e_ mv (k:=e_ exr (k:=e_ exr (k:=e_ asn (k:=e_ asn (k:=on_ (qn_ (ws_ (ws_ (wr_ (e_ mv (k:=e_ ine (k:=e_ mv (k:=eg_ mv (k:=?_))))))))))))))
 refine eg_ lnn (k:=eg_ ilt (k:=e_ pkf (k:=sp_ (mv) (k:=fun h2=>?_) (m:=fun h2=>?_))))
 ·have hN:unE xs=none:=by rw[eU];exact tn (a8)
  refine gk (k:=ift (k:=ws_ (wr_ (e_ (bld []) (k:=go ?_)))))
  refine gk (k:=rt_ Tryz.results25 (k:=?_))
  exact⟨_,hsb, .inl ⟨hN,rfl,rfl⟩⟩
 refine eg_ mv (k:=eg_ lnn (k:=?_))
 refine eg_ (gQ rfl rfl lb.length 2 rfl rfl (a8)) (k:=?_)
 refine gk (k:=wi_ (k:=fun h3=>?_) (m:=fun h3=>?_))
 ·have hN:unE xs=none:=by rw[eU];exact xq (a8)
  refine ws_ (wr_ (e_ (bld []) (k:=sto (k:=e_ asn (k:=on_ (qn_ (wt_ (qr_ (rt_ Tryz.results25 (k:=?_))))))))))
  exact⟨_,hsb, .inl ⟨hN,rfl,rfl⟩⟩
 obtain⟨pa,hpa⟩:∃p,lb[0]? =some p:=⟨_,Yi (a8)⟩
 obtain⟨pb,hpb⟩:∃p,lb[1]? =some p:=⟨_,Yi (a8)⟩
 obtain⟨qa,hqa⟩:∃p,bl[0]? =some p:=⟨_,Yi (a8)⟩
 obtain⟨qb,hqb⟩:∃p,bl[1]? =some p:=⟨_,Yi (a8)⟩
 obtain⟨ea,Sa⟩:=hbod 0 pa qa hpa hqa
 obtain⟨eb,Sb⟩:=hbod 1 pb qb hpb hqb
 obtain⟨ba,la⟩:=hq qa (Yj hqa)
 obtain⟨bb,lb1⟩:=hq qb (Yj hqb)
 have e0:vj bl=match kI qa.2,fj 0 qb.2,psR (bl.drop 2)with
  |some fs,some (n,_),some ps=> some (fs,n,ps)
  |_,_,_=> none:=by
  have hl0:bl.length % 2=0:=a8
  match bl,hqa,hqb,hl0 with
  |a::b::r,hqa,hqb,hl0=>
   simp only[Xb,Xc,Option.some.injEq]at hqa hqb
   subst hqa;subst hqb
   simp only[Yb]at hl0
   rw[vj,if_neg (a8)]
   all_goals rfl
 refine wk_ (qn_ (ws_ (wr_ (e_ mv (k:=?_)))))
 refine e_ (cO rfl rfl 0 rfl (a8)) (k:=?_)
 refine e_ fle (k:=?_)
 refine e_ (dA rfl (aI) pa hpa (aI)) (k:=?_)
 refine c1_ rfl (zL (xs:=qa.2) la ba) (k:=?_)
 rintro v1 H1 hK
 rcases hK with⟨hd,rfl,e,hne,rfl⟩|⟨fs,sf,hd,rfl,rfl⟩
 ·have hN:unE xs=none:=key (by rw[e0,hd])
  refine gk (k:=alc (k:=fun b6=>?_))
  refine sto (k:=e_ asn (k:=on_ (qn_ (ws_ (wr_ (e_ mv (k:=?_)))))))
  refine e_ (cO rfl rfl 1 rfl (a8)) (k:=?_)
  refine e_ fle (k:=?_)
  refine e_ (dA rfl (aI) pb hpb (aI)) (k:=?_)
  refine c2_ rfl (sS (xs:=qb.2) (p:=0) (a8) (ag) bb) (k:=?_)
  rintro _ H5 ⟨rfl,rfl⟩
  rw[List.drop_zero,pO]
  refine e_ mv (k:=e_ exr (k:=e_ exr (k:=e_ asn (k:=e_ asn (k:=on_ (qn_ (ws_ (ws_ (wr_ (e_ mv (k:=e_ ine (k:=sr_ (mv) (k:=fun h4=>?_) (m:=fun h4=>?_)))))))))))))
  ·refine gk (k:=ift (k:=ws_ (wr_ (e_ (bld []) (k:=go ?_)))))
   refine gk (k:=rt_ Tryz.results25 (k:=?_))
   exact⟨_,hsb, .inl ⟨hN,rfl,rfl⟩⟩
  exact absurd hne (of_decide_eq_false h4)
 rw[hd]at e0
 refine gk (k:=alc (k:=fun b6=>?_))
 refine sto (k:=e_ asn (k:=on_ (qn_ (ws_ (wr_ (e_ mv (k:=?_)))))))
 refine e_ (cO rfl rfl 1 rfl (a8)) (k:=?_)
 refine e_ fle (k:=?_)
 refine e_ (dA rfl (aI) pb hpb (aI)) (k:=?_)
 refine c2_ rfl (sS (xs:=qb.2) (p:=0) (a8) (ag) bb) (k:=?_)
 rintro _ H5 ⟨rfl,rfl⟩
 rw[List.drop_zero,pO]
 refine e_ mv (k:=e_ exr (k:=e_ exr (k:=e_ asn (k:=e_ asn (k:=on_ (qn_ (ws_ (ws_ (wr_ (e_ mv (k:=e_ ine (k:=e_ mv (k:=eg_ mv (k:=?_))))))))))))))
 refine gk (k:=wi_ (k:=fun h5=>?_) (m:=fun h5=>?_))
 ·have hN:unE xs=none:=key (by rw[e0,GL h5])
  refine ws_ (wr_ (e_ (bld []) (k:=sto (k:=e_ asn (k:=on_ (qn_ (wt_ (qr_ (rt_ Tryz.results25 (k:=?_))))))))))
  exact⟨_,hsb, .inl ⟨hN,rfl,rfl⟩⟩
 obtain⟨n,m0,hr⟩:=wi (r:=fj 0 qb.2) (p:=0) h5
 rw[hr]at e0 h5⊢
 simp only[tkP,tkN,Nat.zero_add]at h5⊢
 obtain⟨n1,n2,n3⟩:=mh qb.2 0 n m0 (a8) hr
 refine wk_ (qn_ (ws_ (wr_ (e_ lds (k:=e_ mv (k:=e_ (bld [(0,_),(1,_)]) (k:=alc (k:=fun b9=>?_))))))))
 refine gk (k:=wl_ (SV×Nat×List (SV×SV)×Pcs×cG) (fun y=> 2≤y.2.1∧y.2.1≤bl.length∧y.2.1 % 2=0∧y.2.2.1.length≤y.2.1∧iA y.2.2.2.2 y.2.2.1 y.2.2.2.1∧kL y.2.2.2.2 lb bl∧psR (bl.drop 2)=uw y.2.2.2.1 (psR (bl.drop y.2.1))) (fun y=> [(0,s.val),(2, .pointer (some ⟨b2,0,none⟩)),(4,sbl.val),(9, .pointer (some ⟨b9,0,none⟩)),(10, .int .i64 ((y.2.1:Nat):Int))]) (fun y=> Vr b9 [sf.val, .int .i64 ((n:Nat):Int),y.1.val]::Row y.1 eP y.2.2.1::Row sf eF fs::Row sbl eK lb::dH y.2.2.2.2::Vr b2 [SV.nil.val, .int .i64 0,SV.nil.val]::H) (fun y=> bl.length - y.2.1) ((SV.nil,2, [], [],F0)) (h0:=?_) (k:=?_))
 ·try dsimp only
  refine⟨Nat.le_refl _,a8,rfl,Yl _,iA.nil,⟨hlen,hbod⟩,?_⟩
  cases psR (bl.drop 2)with
  |none=> rfl
  |some r=> rfl
 rintro⟨sp,i,lp,ps,F⟩ ⟨hi2,hil,hie,hll,hPs,hBF,hI⟩
 try dsimp only at*
 refine gk (k:=wi_ (k:=fun h6=>?_) (m:=fun h6=>?_))
 ·obtain⟨p,hp⟩:∃p,lb[i]? =some p:=⟨_,Yi (a8)⟩
  obtain⟨p2,hp2⟩:∃p,lb[i+1]? =some p:=⟨_,Yi (a8)⟩
  obtain⟨q,hq1⟩:∃p,bl[i]? =some p:=⟨_,Yi (a8)⟩
  obtain⟨q2,hq2⟩:∃p,bl[i+1]? =some p:=⟨_,Yi (a8)⟩
  obtain⟨ep,Sp⟩:=hBF.2 i p q hp hq1
  obtain⟨ep2,Sp2⟩:=hBF.2 (i+1) p2 q2 hp2 hq2
  obtain⟨bq2,lq2⟩:=hq q2 (Yj hq2)
  rw[dV hq1,dV hq2]at hI
  refine wk_ (qn_ (ws_ (wb_ (ws_ (wr_ (e_ mv (k:=e_ mv (k:=e_ iad (k:=?_)))))))))
  refine e_ (cO rfl rfl (i+1) rfl (a8)) (k:=?_)
  refine e_ fle (k:=?_)
  refine e_ (dA rfl (aI) p2 hp2 (aI)) (k:=?_)
  refine c1_ rfl (Co (xs:=q2.2) lq2 bq2) (k:=?_)
  rintro _ _ ⟨d,s4,rfl,hal,rfl⟩
  refine go ?_
  refine wi_ (k:=fun h7=>?_) (m:=fun h7=>?_)
  ·have hN:unE xs=none:=key (by rw[e0,hI,HR h7];all_goals rfl)
   refine ws_ (wr_ (e_ (bld []) (k:=go ?_)))
   refine rt_ Tryz.results25 (k:=?_)
   exact⟨_,hsb, .inl ⟨hN,rfl,rfl⟩⟩
  rw[HQ (hal h7)]at hI
  refine go ?_
  refine di cL (fun i=> [9,10,12].contains i) (fun k H=> (k=1→dh H b9 [sf.val, .int .i64 ((n:Nat):Int),sp.val])∧(k=4→Sl H sbl eK lb)∧(k=5→Sl H sbl eK lb)∧(k=6→Sl H sbl eK lb)) (af_ 0 (q:=cE fun H hH=>fla) (k:=?_))
  refine cH 1 rfl rfl (aa) rfl (cE fun H hH=>aD) (?_)
  refine af_ 2 (q:=cE fun H hH=>mv) (k:=af_ 3 (q:=cE fun H hH=>mv) (k:=?_))
  refine cH 4 rfl rfl (aa) rfl (cE fun H hH=>by have hN:=hH.2.1 rfl;exact cO rfl rfl i rfl (a8)) (?_)
  refine cH 5 rfl rfl (aa) rfl (cE fun H hH=>bV) (?_)
  refine cH 6 rfl rfl (aa) rfl (cE fun H hH=>by have hN:=hH.2.2.2 rfl;exact dA rfl (aI) p hp (aI)) (?_)
  refine af_ 7 (q:=cE fun H hH=>mv) (k:=af_ 8 (q:=cE fun H hH=>bld [(0,_),(1,_)]) (k:=?_))
  refine cQ 9 rfl (aa) rfl (fun k hk=> ⟨fun hi=> ab,fun hi=> ab,fun hi=> ab,fun hi=> ab⟩) (dW eP rfl rfl) ?_
  rintro _ _ ⟨s5,rfl,rfl⟩
  refine cQ 10 rfl (aa) rfl (fun k hk=> ⟨fun hi=> ab,fun hi=> ab,fun hi=> ab,fun hi=> ab⟩) (ek rfl rfl rfl rfl (bc) (bc)) ?_
  rintro _ _ ⟨s6,rfl,rfl⟩
  refine af_ 11 (q:=cE fun H hH=>fla) (k:=?_)
  refine cQ 12 rfl (aa) rfl (fun k hk=> ⟨fun hi=> absurd hk (ad),fun hi=> ab,fun hi=> ab,fun hi=> ab⟩) (dk rfl rfl rfl) ?_
  rintro _ _ ⟨rfl,rfl⟩
  refine db (aa) (fun k hk=> ⟨fun hi=> absurd hk (ad),fun hi=> absurd hk (ad),fun hi=> absurd hk (ad),fun hi=> absurd hk (ad)⟩) (go ?_)
  refine ln_ ((s6,i+2,lp++ [(p.2,s4)],ps++ [(q.2,d)],Row s4 eI d::F)) (k:=?_)
  try dsimp only
  refine⟨a8,a8,a8,aB,hPs.snoc (F':=Row s4 eI d::F) p.2 s4 q.2 d (fun _ _ h=> inferInstance) (fun _ _ h=> inferInstance) inferInstance inferInstance,hBF.ext (fun _ _ h=> inferInstance),?_⟩
  rw[hI]
  cases psR (bl.drop (i+2))with
  |none=> rfl
  |some r=> simp[uw]
 obtain rfl:i=bl.length:=a8
 rw[List.drop_of_length_le (Nat.le_refl _),psR]at hI
 have hps:psR (bl.drop 2)=some ps:=by rw[hI];simp[uw]
 obtain⟨k1,k2,k3⟩:=Et (bl.drop 2) ps (fun q hq2=> hq q (Yp hq2)) hps
 have k4:=yN bl 2
 rw[Yo]at k3
 obtain⟨f1,f2⟩:=Av ba hd
 have hR:vj bl=some (fs,n,ps):=by rw[e0,hps]
 have hfin:fG fs ((n:Nat):Int) ps≠ .ok xs→unE xs=none:=fun h=> by
  cases hu:unE xs with
  |none=> rfl
  |some r=>
   obtain⟨fs',n',ps'⟩:=r
   have h1:=Bf hb hu
   rw[eU]at hu
   rw[xo hq hu]at hR
   cases hR
   exact absurd h1 h
 refine go ?_
 refine c1_ rfl (E6 (hPs.ext (fun _ _ h=> inferInstance) (fun _ _ h=> inferInstance)) k1 (a8) (fun f hf=> by have:=f2 f hf;omega) (a8) (a8)) (k:=?_)
 rintro _ _ ⟨s7,rfl,rfl⟩
 refine e_ mv (k:=e_ exr (k:=e_ exr (k:=e_ asn (k:=e_ asn (k:=on_ (qn_ (ws_ (ws_ (wr_ (e_ mv (k:=e_ ine (k:=sr_ (mv) (k:=fun h8=>?_) (m:=fun h8=>?_)))))))))))))
 ·have hN:unE xs=none:=hfin (fun e=> by rw[e]at h8;exact absurd rfl (Yt h8))
  refine gk (k:=ift (k:=ws_ (wr_ (e_ (bld []) (k:=go ?_)))))
  refine gk (k:=rt_ Tryz.results25 (k:=?_))
  exact⟨_,hsb, .inl ⟨hN,rfl,rfl⟩⟩
 obtain⟨img,hpk⟩:=Cy (by have:=of_decide_eq_false h8;exact Decidable.not_not.1 this)
 rw[hpk]
 simp only[My]
 obtain⟨_,hib⟩:=yd k1 (a8) hpk
 refine eg_ mv (k:=?_)
 refine eg_ (cV rfl) (k:=?_)
 refine eg_ mv (k:=?_)
 refine eg_ (cV rfl) (k:=?_)
 refine eg_ (kC rfl rfl hib (dK hb)) (k:=?_)
 refine gk (k:=wi_ (k:=fun h9=>?_) (m:=fun h9=>?_))
 ·have hN:unE xs=none:=hfin (fun e=> by rw[hpk]at e;cases e;exact h9 rfl)
  refine ws_ (wr_ (e_ (bld []) (k:=sto (k:=e_ asn (k:=on_ (qn_ (wt_ (qr_ (rt_ Tryz.results25 (k:=?_))))))))))
  exact⟨_,hsb, .inl ⟨hN,rfl,rfl⟩⟩
 have hix:img=xs:=by simpa using h9
 rw[hix]at hpk
 have hup:=(AQ k1 (a8) hpk).1
 rw[Int.toNat_natCast]at hup
 refine gk (k:=rt_ Tryz.results25 (k:=?_))
 exact⟨_,hsb, .inr ⟨fs,n,ps,lp,F,sf,sp,hup,hPs,rfl,rfl⟩⟩
theorem K7 {G:cM}{H:cG}{s:SV}{xs:List Nat} [hs:Sl H s eB xs] (hu:unE xs=none) (hn:xs.length≤40000000) (hb:∀x∈xs,x<256):SC G Tryz.prog 25 [s.val] H (fun v H'=> v= .tuple #[.agg [SV.nil.val, .int .i64 0,SV.nil.val].toArray, .int .i64 10]∧H'=H):=
 (Jh hn hb).mono fun v H' h=> by
   rcases h with⟨_,h1,h2⟩|⟨_,_,_,_,_,_,_,he,_⟩
   ·exact⟨h2,h1⟩
   ·rw[hu]at he;cases he
theorem E3 {G:cM}{H:cG}{s:SV}{xs:List Nat}{fs:List FV}{n:Nat}{ps:Pcs} [hs:Sl H s eB xs] (hu:unE xs=some (fs,n,ps)) (hn:xs.length≤40000000) (hb:∀x∈xs,x<256):SC G Tryz.prog 25 [s.val] H (fun v H'=> ∃lp F,∃sf sp:SV,iA F lp ps∧v= .tuple #[.agg [sf.val, .int .i64 ((n:Nat):Int),sp.val].toArray, .int .i64 0]∧H'=Row sf eF fs::Row sp eP lp::dH F::H):=
 (Jh hn hb).mono fun v H' h=> by
   rcases h with⟨he,_⟩|⟨fs',n',ps',lp,F,sf,sp,he,hP,h1,h2⟩
   ·rw[hu]at he;cases he
   ·rw[hu]at he
    simp only[Option.some.injEq,Prod.mk.injEq]at he
    obtain⟨rfl,rfl,rfl⟩:=he
    exact⟨lp,F,sf,sp,hP,h1,h2⟩
theorem wx {H:cG}{α:Type}(e:Enc α):Sl H SV.nil e []:=fy (cK.nilRow (e:=e) cK.refl) inferInstance
theorem Ho {G:cM}{H:cG}:SC G Tryz.prog 14 [.agg [SV.nil.val, .int .i64 0,SV.nil.val].toArray, .agg [SV.nil.val, .int .i64 0,SV.nil.val].toArray] H (fun v H'=> v= .bool true∧H'=H):=
 (@zH G H SV.nil SV.nil SV.nil SV.nil [] [] [] [] [] [] 0 0 (wx eF) (wx eP) (wx eF) (wx eP) ⟨rfl,fun i p q h=> aR⟩ ⟨rfl,fun i p q h=> aR⟩ (fun p hp=> by simp at hp) (fun p hp=> by simp at hp) (fun p hp=> by simp at hp) (aj) (aj)).mono fun v H' h=> ⟨by rw[h.1];simp,h.2⟩
theorem Fh {G:cM}{H:cG}{s:SV}{xs:List Nat} [hg:Glb G H] [sI G] [Tab H 26 ig] [Tab H 24 fF] [hs:Sl H s eB xs] (hu:unE xs=none) (hn:xs.length≤2000000) (hb:∀x∈xs,x<256):SC G Tryz.prog 7 [s.val] H (fun v H'=> v= .bool true∧H'=H):=by
 refine sWk Tryz.func7 Tryz.ntmps7 ?_
 refine ws_ (wr_ (e_ asn (k:=on_ (qn_ (ws_ (ws_ (wr_ (?_))))))))
 refine d0_ rfl (wS) (k:=e_ oQ (k:=on_ (qn_ (wi_ (k:=fun h1=>?_) (m:=fun h1=>?_)))))
 ·exact absurd h1 (ag)
 refine wk_ (qn_ (ws_ (wr_ (e_ mv (k:=?_)))))
 refine d1_ rfl (K7 hu (a8) hb) (k:=e_ mv (k:=e_ exr (k:=e_ exr (k:=alc (k:=fun b3=>?_)))))
 refine sto (k:=e_ asn (k:=on_ (qn_ (ws_ (wr_ (e_ mv (k:=?_)))))))
 refine d1_ rfl (Ca hu (a8) hb) (k:=e_ mv (k:=e_ exr (k:=e_ exr (k:=alc (k:=fun b5=>?_)))))
 refine sto (k:=e_ asn (k:=on_ (qn_ (ws_ (ws_ (wr_ (e_ mv (k:=?_))))))))
 refine d1_ rfl (u7 10) (k:=?_)
 rw[show kG 10=10 from rfl]
 refine e_ mv (k:=e_ ine (k:=e_ mv (k:=dQ 5 32 (k:=fun h2=>eg_ lds (k:=eg_ lds (k:=gU (vs:=[_,_]) (hc:=(Ho)) (k:=eg_ oQ (k:=e_ pkf (k:=on_ (edq))))))) (q:=on_ (qn_ (wi_ (k:=fun h3=>?_) (m:=fun h3=>?_)))))))
 ·exact absurd h3 (aj)
 refine wk_ (qn_ (ws_ (ws_ (wr_ (e_ mv (k:=e_ ine (k:=on_ (qn_ (wi_ (k:=fun h4=>?_) (m:=fun h4=>?_))))))))))
 ·refine ws_ (wr_ (e_ mv (k:=?_)))
  refine d3_ rfl (K8 (a8) hb hu) (k:=e_ asn (k:=on_ (qn_ (wt_ (qr_ (rt_ Tryz.results7 (k:=?_)))))))
  exact⟨_,hsb,rfl,rfl⟩
 exact absurd h4 (ag)
section
variable {G:cM}{H:cG}{s:SV}{xs:List Nat}{fs:List FV}{n:Nat}{ps:Pcs}
theorem Mq {i e:Nat} [hg:Glb G H] [Tab H 26 ig] [Tab H 24 fF] [hs:Sl H s eB xs] [Spc H] (hT:gE G) (hS:kh) (hn:xs.length≤2000000) (hb:∀x∈xs,x<256) (hu:unE xs=some (fs,n,ps)) (hgo:goE fs ((n:Nat):Int) 0 (-1) ps=some (i,e)):
 SC G Tryz.prog 27 [s.val] H (fun v H'=> ∃bp,v= .tuple #[.pointer none, .iface 104 (.pointer (some ⟨bp,0,none⟩))]∧e<24∧H'=Vr bp [.int .i64 ((i:Nat):Int),G.err e]::H):=by
 obtain⟨hc,hnx,hok,hpl,hsum⟩:=AR hb (a8) hu
 have hsz:=pL hb hu
 refine sWk Tryz.func27 Tryz.ntmps27 ?_
 refine go ?_
 refine c1_ rfl (oh hu (a8) hb) (k:=?_)
 rintro _ _ ⟨lp,F,sf,sp,hP,rfl,rfl⟩
 refine gk (k:=alc (k:=fun b4=>?_))
 refine sto (k:=e_ asn (k:=on_ (qn_ (ws_ (ws_ (wr_ (e_ mv (k:=?_))))))))
 refine e_ (cN rfl) (k:=?_)
 refine gk (k:=dw (k:=go ?_))
 refine c1_ rfl (BA (fs:=fs) (lp:=lp) (ps:=ps) (n:=((n:Nat):Int)) hT hS (hP.ext (fun _ _ h=> inferInstance) (fun _ _ h=> inferInstance)) hc (a8) (a8) (a8) (fun q hq=> ⟨cA,(hsz q hq).2.1,cm⟩)) (k:=?_)
 rintro _ _ (⟨i',e',bp,hg1,he,rfl,rfl⟩|⟨hg1,_⟩)
 ·rw[hgo]at hg1
  simp only[Option.some.injEq,Prod.mk.injEq]at hg1
  obtain⟨rfl,rfl⟩:=hg1
  refine gk (k:=rt_ Tryz.results27 (k:=?_))
  exact⟨_,hsb,bp,rfl,he,rfl⟩
 exfalso;rw[hgo]at hg1;cases hg1
theorem Mo [hg:Glb G H] [Tab H 26 ig] [Tab H 24 fF] [hs:Sl H s eB xs] [Spc H] (hT:gE G) (hS:kh) (hn:xs.length≤2000000) (hb:∀x∈xs,x<256) (hu:unE xs=some (fs,n,ps)) (hgo:goE fs ((n:Nat):Int) 0 (-1) ps=none):
 SC G Tryz.prog 27 [s.val] H (fun v H'=> ∃(be:Nat) (s1 sh:SV) (hs:List HG),v= .tuple #[.pointer (some ⟨be,0,none⟩), .nilIface]∧hs.map hgQ=ps∧(∀h∈hs,Da h)∧H'=Vr be [s1.val, .int .i64 ((n:Nat):Int),sh.val,SV.nil.val, .bool true]::Row s1 eF fs::Row sh eH (hs.map hgV)::Cl hgH hs::H):=by
 obtain⟨hc,hnx,hok,hpl,hsum⟩:=AR hb (a8) hu
 have hsz:=pL hb hu
 refine sWk Tryz.func27 Tryz.ntmps27 ?_
 refine go ?_
 refine c1_ rfl (oh hu (a8) hb) (k:=?_)
 rintro _ _ ⟨lp,F,sf,sp,hP,rfl,rfl⟩
 refine gk (k:=alc (k:=fun b4=>?_))
 refine sto (k:=e_ asn (k:=on_ (qn_ (ws_ (ws_ (wr_ (e_ mv (k:=?_))))))))
 refine e_ (cN rfl) (k:=?_)
 refine gk (k:=dw (k:=go ?_))
 refine c1_ rfl (BA (fs:=fs) (lp:=lp) (ps:=ps) (n:=((n:Nat):Int)) hT hS (hP.ext (fun _ _ h=> inferInstance) (fun _ _ h=> inferInstance)) hc (a8) (a8) (a8) (fun q hq=> ⟨cA,(hsz q hq).2.1,cm⟩)) (k:=?_)
 rintro _ _ (⟨i',e',bp,hg1,he,rfl,rfl⟩|⟨hg1,be,s1,sh,hgs,rfl,hq1,ho1,rfl⟩)
 ·exfalso;rw[hgo]at hg1;cases hg1
 refine gk (k:=rt_ Tryz.results27 (k:=?_))
 exact⟨_,hsb,be,s1,sh,hgs,rfl,hq1,ho1,rfl⟩
theorem DW {i e:Nat} [hg:Glb G H] [sI G] [Tab H 26 ig] [Tab H 24 fF] [hs:Sl H s eB xs] [Spc H] (hT:gE G) (hS:kh) (hn:xs.length≤2000000) (hb:∀x∈xs,x<256) (hu:unE xs=some (fs,n,ps)) (hgo:goE fs ((n:Nat):Int) 0 (-1) ps=some (i,e)):
 SC G Tryz.prog 24 [s.val, .int .i64 ((i:Nat):Int), .int .i64 (kG e)] H (fun v H'=> v= .bool true∧H'=H):=by
 refine sWk Tryz.func24 Tryz.ntmps24 ?_
 refine go ?_
 refine c1_ rfl (Mq hT hS hn hb hu hgo) (k:=?_)
 rintro _ _ ⟨bp,rfl,he,rfl⟩
 haveI hlt:jh e:=⟨he⟩
 refine e_ mv (k:=e_ exr (k:=e_ exr (k:=e_ asn (k:=e_ asn (k:=on_ (qn_ (ws_ (ws_ (wr_ (e_ mv (k:=?_)))))))))))
 refine e_ (iG rfl) (k:=?_)
 refine e_ mv (k:=eg_ mv (k:=?_))
 refine eg_ (gR rfl) (k:=?_)
 refine gk (k:=dw (k:=gk (k:=wi_ (k:=fun h1=>?_) (m:=fun h1=>?_))))
 ·exfalso;omega
 refine wk_ (qn_ (ws_ (wr_ (e_ mv (k:=?_)))))
 refine e_ (qy rfl) (k:=?_)
 refine e_ mv (k:=e_ exr (k:=e_ exr (k:=e_ asn (k:=e_ asn (k:=on_ (qn_ (ws_ (wr_ (e_ mv (k:=sr_ (mv) (k:=fun h2=>?_) (m:=fun h2=>?_)))))))))))
 ·refine eg_ mv (k:=?_)
  refine eg_ (iG rfl) (k:=?_)
  refine e_ pkt (k:=sr_ (mv) (k:=fun h3=>?_) (m:=fun h3=>?_))
  ·refine eg_ mv (k:=eg_ nck (k:=eg_ fla (k:=eg_ ldv (k:=eg_ mv (k:=eg_ ieq (k:=e_ pkt (k:=sr_ (mv) (k:=fun h4=>?_) (m:=fun h4=>?_))))))))
   ·refine go ?_
    refine sg_ (dm (vs:= [_]) rfl (u7 e)) (k:=?_)
    rintro _ _ ⟨rfl,rfl⟩
    refine gk (k:=rt_ Tryz.results24 (k:=?_))
    exact⟨_,hsb,by rw[show decide (kG e=kG e)=true from Ys rfl];all_goals rfl,rfl⟩
   exact absurd rfl (of_decide_eq_false h4)
  cases h3
 cases h2
end
end Go.Sx
