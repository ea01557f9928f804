import Derived.Test.YtcbidldebfibkaaGreatDoorQ7
set_option linter.unusedVariables false
set_option linter.unusedSimpArgs false
set_option linter.unusedSectionVars false
set_option linter.unnecessarySimpa false
set_option maxHeartbeats 0
namespace Go.Sx
open Go Go.Proofs
set_option maxRecDepth 100000
def uv (n:Nat):List Nat:=if n<128 then [n]else(n % 128+128)::uv (n / 128)
theorem j2 {n:Nat}(h:n<128):uv n= [n]:=by unfold uv;rw[if_pos h]
theorem m5 {n:Nat}(h:¬n<128):uv n=(n % 128+128)::uv (n / 128):=by rw[uv,if_neg h]
theorem Dk:∀(k n:Nat),n<128 ^ k→0<k→(uv n).length≤k:=by
 intro k
 induction k with
 |zero=> intro n _ h;omega
 |succ k ih=>
  intro n hn _
  by_cases h:n<128
  ·rw[j2 h];simp
  ·rw[m5 h,Yb]
   have hk:0<k:=by
    rcases Nat.eq_zero_or_pos k with rfl|hk
    ·simp at hn;omega
    ·exact hk
   have:=ih (n / 128) (by rw[Nat.pow_succ]at hn;omega) hk
   omega
theorem dc {n:Nat}(h:n<18446744073709551616):(uv n).length≤10:=Dk 10 n (a8) (ag)
theorem ju (n:Nat):0<(uv n).length:=by
 by_cases h:n<128
 ·rw[j2 h];simp
 ·rw[m5 h];simp
theorem Cx:∀m:Fin 256,m.val ||| 128=m.val % 128+128:=an
theorem Mf (n:Nat):(n % 256) ||| 128=n % 128+128:=by
 have:=Cx ⟨n % 256,a8⟩
 simp only at this
 rw[this];omega
theorem fC {G:cM}{H:cG}:SC G Tryz.prog 36 [] H (fun v H'=> ∃b,v= .pointer (some ⟨b,0,none⟩)∧H'=Wr b []::H):=by
 refine sWk Tryz.func36 Tryz.ntmps36 ?_
 refine ws_ (wr_ (e_ asn (k:=on_ (qn_ (ws_ (wr_ (e_ (bld []) (k:=bxx (k:=fun b1=>?_)))))))))
 refine gk (k:=rt_ Tryz.results36 (k:=?_))
 exact⟨_,hsb,_,rfl,rfl⟩
theorem nE {G:cM}{H R:cG}{b:Nat}{xs:List Nat} [hr:Rem H Wr b xs R] (x:Nat) (hn:xs.length≤1000000000000):SC G Tryz.prog 73 [.pointer (some ⟨b,0,none⟩), .int .u8 (x:Int)] H (fun v H'=> v= .tuple #[]∧H'=Wr b (xs++ [x])::R):=by
 refine tD hr fun s=> ?_
 refine sWk Tryz.func73 Tryz.ntmps73 ?_
 refine gk (k:=dD eB (k:=fun s1=>?_))
 refine app (k:=fun s2=>?_)
 refine gk (k:=rt_ Tryz.results73 (k:=?_))
 exact⟨_,hsb,rfl,rfl⟩
theorem zn {G:cM}{H R:cG}{b:Nat}{s2:SV}{xs ys:List Nat} [hr:Rem H Wr b xs R] [Sl R s2 eB ys] (hn:xs.length≤1000000000000) (hm:ys.length≤1000000000000):SC G Tryz.prog 76 [.pointer (some ⟨b,0,none⟩),s2.val] H (fun v H'=> v= .tuple #[]∧H'=Wr b (xs++ys)::R):=by
 refine tD hr fun s=> ?_
 refine sWk Tryz.func76 Tryz.ntmps76 ?_
 refine gk (k:=app (k:=fun s1=>?_))
 refine gk (k:=rt_ Tryz.results76 (k:=?_))
 exact⟨_,hsb,rfl,rfl⟩
theorem eC {G:cM}{H R:cG}{b:Nat}{xs:List Nat} [hr:Rem H Wr b xs R] (x:Nat) (hx:x<18446744073709551616) (hn:xs.length≤1000000000000):SC G Tryz.prog 37 [.pointer (some ⟨b,0,none⟩), .int .u64 (x:Int)] H (fun v H'=> v= .tuple #[]∧H'=Wr b (xs++uv x)::R):=by
 refine tD hr fun s=> ?_
 have hl:=dc hx
 refine sWk Tryz.func37 Tryz.ntmps37 ?_
 refine gk (k:=wl_ (SV×Nat×List Nat) (fun y=> y.2.2++uv y.2.1=xs++uv x∧y.2.1<18446744073709551616) (fun y=> [(0, .pointer (some ⟨b,0,none⟩)),(1, .int .u64 (y.2.1:Int))]) (fun y=> Vr b [y.1.val]::Row y.1 eB y.2.2::R) (fun y=> y.2.1) ((s,x,xs)) (h0:=?_) (k:=?_))
 ·try dsimp only
  exact⟨rfl,hx⟩
 rintro⟨s,n,zs⟩ ⟨hI,hnb⟩
 try dsimp only at*
 have hlen:=congrArg List.length hI
 have hpos:=ju n
 simp only[Ya]at hlen
 refine gk (k:=wi_ (k:=fun h1=>?_) (m:=fun h1=>?_))
 ·refine wk_ (qn_ (wb_ (ws_ (wr_ (e_ mv (k:=e_ mv (k:=e_ nck (k:=e_ fla (k:=e_ ldv (k:=e_ mv (k:=?_)))))))))))
  refine e_ ((ao)) (k:=?_)
  refine e_ (j0 256 rfl rfl rfl rfl _ 128 rfl rfl (ai) (ai)) (k:=?_)
  refine dD eB (k:=fun s1=>?_)
  refine app (k:=fun s2=>?_)
  refine e_ nck (k:=e_ fla (k:=sto (k:=on_ (qn_ (wr_ (e_ mv (k:=?_)))))))
  refine e_ (ei rfl rfl _ 7 rfl rfl (aM)) (k:=?_)
  refine go ?_
  refine ln_ ((s2,n / 2 ^ 7,zs++ [n % 256 ||| 128])) (k:=?_)
  try dsimp only
  refine⟨?_,a8⟩
  rw[←hI,Mf,m5 (n:=n) (a8)]
  simp
 have e:zs++ [n]=xs++uv x:=bK
 refine we_ (qe_ (le_ (bh_ (qn_ (wr_ (e_ mv (k:=e_ mv (k:=e_ nck (k:=e_ fla (k:=e_ ldv (k:=e_ mv (k:=?_))))))))))))
 refine e_ ((ao)) (k:=?_)
 refine dD eB (k:=fun s3=>?_)
 refine app (k:=fun s4=>?_)
 refine gk (k:=rt_ Tryz.results37 (k:=?_))
 exact⟨_,cv,rfl,rfl⟩
def iW (l:List Int):Bool:=l.any fun x=> decide (x<0)
def rise:List Int→Bool
 |x::y::r=> decide (x<y) && rise (y::r)
 |_=> true
def dz (last:Int):List Int→List Nat
 | []=> []
 |x::xs=> uv (x - last - 1).toNat++dz x xs
theorem gJ:∀l:List Int,rise l=true↔∀(i:Nat) (x y:Int),l[i]? =some x→l[i+1]? =some y→x<y
 | []=> by simp[rise]
 | [x]=> by simp[rise]
 |x::y::r=> by
  simp only[rise,Bool.and_eq_true,decide_eq_true_eq,gJ (y::r)]
  constructor
  ·rintro⟨h1,h2⟩ i a b ha hb
   cases i with
   |zero=> simp at ha hb;subst ha;subst hb;exact h1
   |succ i=> simp only[Xc]at ha hb;exact h2 i a b ha (by simpa using hb)
  ·intro h
   exact⟨h 0 x y (aj) (aj),fun i a b ha hb=> h (i+1) a b (by simpa using ha) (by simpa using hb)⟩
theorem il (l:List Int):iW l=false↔∀(i:Nat) (x:Int),l[i]? =some x→0≤x:=by
 simp only[iW,List.any_eq_false,decide_eq_true_eq,Int.not_lt]
 exact⟨fun h i x hx=> h x (Yj hx),fun h x hx=> let ⟨i,hi⟩:=List.mem_iff_getElem?.1 hx;h i x hi⟩
theorem np {l:List Int}{i:Nat}{x:Int}(h:l[i]? =some x) (hx:x<0):iW l=true:=by
 simp only[iW,List.any_eq_true,decide_eq_true_eq]
 exact⟨x,Yj h,hx⟩
theorem dV {α:Type}{l:List α}{i:Nat}{x:α}(h:l[i]? =some x):l.drop i=x::l.drop (i+1):=by
 have hlt:=(Yk.1 h).1
 rw[List.drop_eq_getElem_cons hlt]
 congr 1
 exact(Yk.1 h).2
theorem oT:∀(l:List Int) (last:Int), -1≤last→(∀x∈l,x≤9223372036854775807)→(dz last l).length≤10*l.length∨∃x∈l,x<0
 | [],_,_,_=> by simp[dz]
 |x::l,last,h,hl=> by
  by_cases hx:x<0
  ·exact .inr ⟨x,aj,hx⟩
  ·have h1:=hl x (aj)
   rcases oT l x (a8) (fun y hy=> hl y (by simp[hy]))with h2|⟨y,hy,h3⟩
   ·left
    have:=dc (n:=(x - last - 1).toNat) (a8)
    rw[dz]
    simp only[Ya,Yb]
    omega
   ·exact .inr ⟨y,by simp[hy],h3⟩
theorem mq {l:List Int}(hb:iW l=false) (hl:∀x∈l,x≤9223372036854775807):(dz (-1) l).length≤10*l.length:=by
 rcases oT l (-1) (a8) hl with h|⟨x,hx,h⟩
 ·exact h
 ·obtain⟨i,hi⟩:=List.mem_iff_getElem?.1 hx
  rw[np hi h]at hb;cases hb
theorem z8 {G:cM}{H:cG}{s:SV}{l:List Int} [Sl H s eI l] (hn:l.length≤1000000000000):SC G Tryz.prog 116 [s.val] H (fun v H'=> v= .bool (iW l)∧H'=H):=by
 refine sWk Tryz.func116 Tryz.ntmps116 ?_
 refine go ?_
 refine wl_ (Nat) (fun i=> i≤l.length∧∀j x,j<i→l[j]? =some x→0≤x) (fun i=> [(5,s.val),(6, .int .i64 ((l.length:Nat):Int)),(7, .int .i64 ((i:Nat):Int))]) (fun _=> H) (fun i=> l.length - i) (0) (h0:=?_) (k:=?_)
 ·try dsimp only
  exact⟨Yl _,fun j x h=> absurd h (Nat.not_lt_zero _)⟩
 rintro i ⟨hi,hall⟩
 try dsimp only at*
 refine gk (k:=wi_ (k:=fun h1=>?_) (m:=fun h1=>?_))
 ·obtain⟨x,hx⟩:∃x,l[i]? =some x:=⟨_,Yi (a8)⟩
  refine go ?_
  refine gk (k:=wi_ (k:=fun h2=>?_) (m:=fun h2=>?_))
  ·refine gk (k:=rt_ Tryz.results116 (k:=?_))
   exact⟨_,cK.refl,by rw[np hx h2];rfl,rfl⟩
  refine go ?_
  refine ln_ (i+1) (k:=?_)
  try dsimp only
  refine⟨a8,fun j y hj hy=> ?_⟩
  rcases Nat.lt_or_eq_of_le (Nat.le_of_lt_succ hj)with h|rfl
  ·exact hall j y h hy
  ·rw[hx]at hy;cases hy;omega
 refine gk (k:=rt_ Tryz.results116 (k:=?_))
 exact⟨_,cK.refl,by rw[(il l).2 fun j x hx=> hall j x (by have:=(Yk.1 hx).1;omega) hx];rfl,rfl⟩
theorem AN {G:cM}{H R:cG}{b:Nat}{s:SV}{xs:List Nat}{l:List Int} [hg:Glb G R] [hr:Rem H Wr b xs R] [Sl R s eI l] (hn:xs.length≤100000000000) (hm:l.length≤10000000000) (hl:∀x∈l,x≤9223372036854775807):SC G Tryz.prog 75 [.pointer (some ⟨b,0,none⟩),s.val] H (fun v H'=>
 (iW l=true∧v=G.err 1∧H'=Wr b xs::R)∨(iW l=false∧rise l=false∧v=G.err 5∧H'=Wr b xs::R)∨(iW l=false∧rise l=true∧v= .nilIface∧H'=Wr b (xs++(uv l.length++dz (-1) l))::R)):=by
 refine SC.rem (h:=hr) ?_
 refine sWk Tryz.func75 Tryz.ntmps75 ?_
 refine go ?_
 refine d1_ rfl (z8 (a8)) (k:=gk (k:=wi_ (k:=fun h1=>?_) (m:=fun h1=>?_)))
 ·refine gk (k:=rt_ Tryz.results75 (k:=?_))
  exact⟨_,cK.refl, .inl ⟨h1,rfl,rfl⟩⟩
 have hb:=(il l).1 h1
 refine gk (k:=wl_ (Nat) (fun i=> 1≤i∧(1<i→i≤l.length)∧∀j x y,j+1<i→l[j]? =some x→l[j+1]? =some y→x<y) (fun i=> [(0, .pointer (some ⟨b,0,none⟩)),(1,s.val),(5, .int .i64 ((i:Nat):Int))]) (fun _=> Wr b xs::R) (fun i=> l.length - i) (1) (h0:=?_) (k:=?_))
 ·try dsimp only
  exact⟨Nat.le_refl _,fun h=> absurd h (Nat.lt_irrefl _),fun j x y h=> a8⟩
 rintro i ⟨hi1,hi2,hall⟩
 try dsimp only at*
 refine gk (k:=wi_ (k:=fun h2=>?_) (m:=fun h2=>?_))
 ·obtain⟨x,hx⟩:∃x,l[i - 1]? =some x:=⟨_,Yi (a8)⟩
  obtain⟨y,hy⟩:∃y,l[i]? =some y:=⟨_,Yi (a8)⟩
  refine go ?_
  refine cW cL (as_ 0 (q:=mv) (k:=as_ 1 (q:=mv) (k:=as_ 2 (q:=ixa) (k:=as_ 3 (q:=lel) (k:=as_ 4 (q:=mv) (k:=as_ 5 (q:=mv) (k:=as_ 6 (q:=isb) (k:=?_))))))))
  refine cH 7 rfl rfl (aa) rfl (du (cO rfl rfl (i - 1) (a8) (a8))) (?_)
  refine as_ 8 (q:=lel) (k:=as_ 9 (q:=ile) (k:=az_ (k:=gk (k:=wi_ (k:=fun h3=>?_) (m:=fun h3=>?_)))))
  ·refine gk (k:=rt_ Tryz.results75 (k:=?_))
   refine⟨Wr b xs::R,by exact cK.refl, .inr (.inl ⟨h1,?_,rfl,rfl⟩)⟩
   rw[←Bool.not_eq_true,gJ]
   intro hall
   have:=hall (i - 1) x y hx (by rw[Nat.sub_add_cancel hi1];exact hy)
   omega
  refine go ?_
  refine ln_ (i+1) (k:=?_)
  try dsimp only
  refine⟨a8,fun _=> a8,fun j a c hj ha hc=> ?_⟩
  rcases Nat.lt_or_eq_of_le (Nat.le_of_lt_succ hj)with h|h
  ·exact hall j a c h ha hc
  ·obtain rfl:j=i - 1:=by omega
   rw[hx]at ha
   rw[Nat.sub_add_cancel hi1,hy]at hc
   cases ha;cases hc;omega
 have hri:rise l=true:=(gJ l).2 fun j x y hx hy=> hall j x y (by have:=(Yk.1 hy).1;omega) hx hy
 have hul:=dc (n:=l.length) (a8)
 refine we_ (qe_ (le_ (bh_ (qn_ (ws_ (wr_ (e_ mv (k:=e_ mv (k:=e_ lnn (k:=?_))))))))))
 refine e_ ((ae)) (k:=?_)
 refine d2_ rfl (eC l.length (a8) (a8)) (k:=go ?_)
 refine gk (k:=wl_ (Nat×Int×List Nat) (fun y=> y.1≤l.length∧y.2.2++dz y.2.1 (l.drop y.1)=xs++(uv l.length++dz (-1) l)∧y.2.2.length≤xs.length+10+10*y.1∧ -1≤y.2.1∧(y.1=0→y.2.1= -1)∧∀x,0<y.1→l[y.1 - 1]? =some x→x=y.2.1) (fun y=> [(0, .pointer (some ⟨b,0,none⟩)),(6, .int .i64 y.2.1),(34,s.val),(35, .int .i64 ((l.length:Nat):Int)),(36, .int .i64 ((y.1:Nat):Int))]) (fun y=> Wr b y.2.2::R) (fun y=> l.length - y.1) ((0, -1,xs++uv l.length)) (h0:=?_) (k:=?_))
 ·try dsimp only
  refine⟨Yl _,aj,au,Int.le_refl _,fun _=> rfl,fun x h=> absurd h (Nat.lt_irrefl _)⟩
 rintro⟨k,last,zs⟩ ⟨hk,hI,hlen,hlast,hz,hprev⟩
 try dsimp only at*
 refine gk (k:=wi_ (k:=fun h4=>?_) (m:=fun h4=>?_))
 ·obtain⟨x,hx⟩:∃x,l[k]? =some x:=⟨_,Yi (a8)⟩
  have hx0:=hb k x hx
  have hxm:=hl x (Yj hx)
  have hgt:last<x:=by
   rcases Nat.eq_zero_or_pos k with h0|h0
   ·have:=hz h0;omega
   ·obtain⟨w,hw⟩:∃w,l[k - 1]? =some w:=⟨_,Yi (a8)⟩
    have h3:=hprev w h0 hw
    have h4:=(gJ l).1 hri (k - 1) w x hw (by rw[Nat.sub_add_cancel h0];exact hx)
    omega
  refine wk_ (qn_ (ws_ (wb_ (ws_ (wr_ (e_ ixa (k:=e_ lel (k:=e_ asn (k:=on_ (qn_ (ws_ (wr_ (e_ mv (k:=?_))))))))))))))
  refine e_ mv (k:=e_ mv (k:=?_))
  refine e_ (Bz rfl rfl _ rfl) (k:=?_)
  refine e_ (Bz rfl rfl (x - last - 1) (by rw[IntKind.wrap_i64,IntKind.wrap_i64];omega)) (k:=?_)
  refine e_ (cS 18446744073709551616 rfl rfl rfl (x - last - 1).toNat (a8) (a8)) (k:=?_)
  refine d2_ rfl (eC (x - last - 1).toNat (a8) (a8)) (k:=go ?_)
  refine ln_ ((k+1,x,zs++uv (x - last - 1).toNat)) (k:=?_)
  try dsimp only
  have hul2:=dc (n:=(x - last - 1).toNat) (a8)
  refine⟨a8,?_,ah,a8,fun h=> a8,fun w _ hw=> ?_⟩
  ·rw[←hI,dV hx,dz,Yf]
  ·rw[Nat.add_sub_cancel]at hw
   rw[hx]at hw;cases hw;rfl
 obtain rfl:k=l.length:=a8
 have e:zs=xs++(uv l.length++dz (-1) l):=by rw[←hI];simp[dz]
 refine gk (k:=rt_ Tryz.results75 (k:=?_))
 exact⟨_,cK.refl, .inr (.inr ⟨h1,hri,rfl,by rw[e]⟩)⟩
def eY:Nat→List Nat→Except Nat (Nat×Nat)
 |_, []=> .error 2
 |i,x::r=> if i=9∧1<x then .error 3 else if 128≤x then
  (match eY (i+1) r with
  | .ok (v,n)=> .ok (x % 128+128*v,n+1)
  | .error e=> .error e)
  else if x=0∧0<i then .error 3 else .ok (x,1)
theorem tU:∀i:Fin 9,2 ^ (64 - 7*i.val)=128*2 ^ (64 - 7*(i.val+1)):=ag
theorem gZ:∀(l:List Nat) (i v n:Nat),(∀x∈l,x<256)→i≤9→eY i l= .ok (v,n)→
 v<2 ^ (64 - 7*i)∧1≤n∧n+i≤10∧n≤l.length∧l.take n=uv v∧(0<i→0<v)
 | [],i,v,n,_,_,h=> bC
 |x::r,i,v,n,hb,hi,h=> by
  have hx:=hb x (aj)
  rw[eY]at h
  split at h
  ·cases h
  ·rename_i h9
   split at h
   ·rename_i hx2
    have hi9:i≤8:=a8
    split at h
    ·rename_i v' n' hr
     obtain⟨h1,h2,h3,h4,h5,h6⟩:=gZ r (i+1) v' n' (fun y hy=> hb y (by simp[hy])) (a8) hr
     have h7:=h6 (a8)
     have h8:=tU ⟨i,a8⟩
     simp only at h8
     simp only[Except.ok.injEq,Prod.mk.injEq]at h
     obtain⟨rfl,rfl⟩:=h
     refine⟨a8,a8,a8,au,?_,fun _=> a8⟩
     rw[m5 (n:=x % 128+128*v') (a8),List.take_succ_cons,h5]
     congr 1
     ·omega
     ·congr 1;omega
    ·cases h
   ·split at h
    ·cases h
    ·rename_i hx2 hx0
     simp only[Except.ok.injEq,Prod.mk.injEq]at h
     obtain⟨rfl,rfl⟩:=h
     refine⟨?_,a8,a8,aj,?_,fun _=> a8⟩
     ·rcases Nat.lt_or_eq_of_le hi with h8|rfl
      ·have h8:=tU ⟨i,a8⟩
       simp only at h8
       have:0<2 ^ (64 - 7*(i+1)):=Nat.two_pow_pos _
       omega
      ·simp;omega
     ·rw[j2 (a8)];simp
theorem HB:∀(v i:Nat) (r:List Nat),i≤9→v<2 ^ (64 - 7*i)→(0<i→0<v)→eY i (uv v++r)= .ok (v,(uv v).length):=by
 intro v
 induction v using Nat.strongRecOn with
 |_ v ih=>
  intro i r hi hv h0
  by_cases h:v<128
  ·rw[j2 h]
   rw[List.singleton_append,eY,if_neg (by rintro⟨rfl,h1⟩;simp at hv;omega),if_neg (a8),if_neg (by rintro⟨rfl,h2⟩;exact absurd (h0 h2) (Nat.lt_irrefl 0))]
   rfl
  ·have hi8:i≤8:=by
    rcases Nat.lt_or_eq_of_le hi with h8|rfl
    ·omega
    ·simp at hv;omega
   have h8:=tU ⟨i,a8⟩
   simp only at h8
   rw[m5 h,Yd,eY,if_neg (by rintro⟨rfl,_⟩;omega),if_pos (a8)]
   rw[ih (v / 128) (a8) (i+1) r (a8) (a8) (fun _=> a8)]
   simp only[Yb,Except.ok.injEq,Prod.mk.injEq,and_true]
   omega
theorem left {G:cM}{H:cG}{b:Nat}{k n:Int}{r:List Value} [dh H b (.int .i64 k:: .int .i64 n::r)] (h: -9223372036854775808≤n - k∧n - k≤9223372036854775807):SC G Tryz.prog 118 [.pointer (some ⟨b,0,none⟩)] H (fun v H'=> v= .int .i64 (n - k)∧H'=H):=by
 refine sWk Tryz.func118 Tryz.ntmps118 ?_
 refine go ?_
 refine cW cL (as_ 0 (q:=mv) (k:=as_ 1 (q:=nck) (k:=as_ 2 (q:=fla) (k:=as_ 3 (q:=ldv) (k:=as_ 4 (q:=mv) (k:=as_ 5 (q:=nck) (k:=as_ 6 (q:=fla) (k:=as_ 7 (q:=ldv) (k:=as_ 8 (q:=isb) (k:=as_ 9 (q:=asn) (k:=az_ (k:=go ?_))))))))))))
 refine rt_ Tryz.results118 (k:=?_)
 exact⟨_,cK.refl,rfl,rfl⟩
theorem wu {G:cM}{H R:cG}{b k:Nat}{xs:List Nat} [hr:Rem H Rd b (xs,k) R]:SC G Tryz.prog 82 [.pointer (some ⟨b,0,none⟩)] H (fun v H'=> v= .int .i64 ((k:Nat):Int)∧H'=Rd b (xs,k)::R):=by
 refine xS hr fun s=> ?_
 refine sWk Tryz.func82 Tryz.ntmps82 ?_
 refine go ?_
 refine gk (k:=rt_ Tryz.results82 (k:=?_))
 exact⟨_,hsb,rfl,rfl⟩
theorem mj {G:cM}{H R:cG}{b k:Nat}{xs:List Nat} [hg:Glb G R] [hr:Rem H Rd b (xs,k) R] (hk:k≤xs.length):SC G Tryz.prog 47 [.pointer (some ⟨b,0,none⟩)] H (fun v H'=> H'=Rd b (xs,k)::R∧((k<xs.length∧v=G.err 6)∨(k=xs.length∧v= .nilIface))):=by
 refine xS hr fun s=> ?_
 refine sWk Tryz.func47 Tryz.ntmps47 ?_
 refine go ?_
 refine cW cL (as_ 0 (q:=mv) (k:=as_ 1 (q:=nck) (k:=as_ 2 (q:=fla) (k:=as_ 3 (q:=ldv) (k:=as_ 4 (q:=mv) (k:=as_ 5 (q:=nck) (k:=as_ 6 (q:=fla) (k:=as_ 7 (q:=ldv) (k:=as_ 8 (q:=ilt) (k:=az_ (k:=gk (k:=wi_ (k:=fun h1=>?_) (m:=fun h1=>?_)))))))))))))
 ·refine gk (k:=rt_ Tryz.results47 (k:=?_))
  exact⟨_,hsb,rfl, .inl ⟨a8,rfl⟩⟩
 refine gk (k:=rt_ Tryz.results47 (k:=?_))
 exact⟨_,hsb,rfl, .inr ⟨a8,rfl⟩⟩
theorem Md {G:cM}{H R:cG}{b k:Nat}{xs:List Nat} [hg:Glb G R] [hr:Rem H Rd b (xs,k) R] (hk:k≤xs.length) (hn:xs.length≤1000000000000):SC G Tryz.prog 121 [.pointer (some ⟨b,0,none⟩)] H (fun v H'=>
 (k=xs.length∧v= .tuple #[.int .u8 0,G.err 2]∧H'=Rd b (xs,k)::R)∨(∃x,xs[k]? =some x∧v= .tuple #[.int .u8 ((x:Nat):Int), .nilIface]∧H'=Rd b (xs,k+1)::R)):=by
 refine xS hr fun s=> ?_
 refine sWk Tryz.func121 Tryz.ntmps121 ?_
 refine go ?_
 refine d1_ rfl (left (a8)) (k:=gk (k:=wi_ (k:=fun h1=>?_) (m:=fun h1=>?_)))
 ·refine go ?_
  refine cW cL (as_ 0 (q:=ldv) (k:=as_ 1 (q:=asn) (k:=as_ 2 (q:=asn) (k:=az_ (k:=gk (k:=rt_ Tryz.results121 (k:=?_)))))))
  exact⟨_,hsb, .inl ⟨a8,rfl,rfl⟩⟩
 obtain⟨x,hx⟩:∃x,xs[k]? =some x:=⟨_,Yi (a8)⟩
 refine go ?_
 refine go ?_
 refine cW cL (as_ 0 (q:=mv) (k:=as_ 1 (q:=nck) (k:=as_ 2 (q:=fla) (k:=as_ 3 (q:=ldv) (k:=as_ 4 (q:=mv) (k:=as_ 5 (q:=nck) (k:=as_ 6 (q:=fla) (k:=as_ 7 (q:=fla) (k:=as_ 8 (q:=ldv) (k:=as_ 9 (q:=isb) (k:=?_)))))))))))
 refine cH 10 rfl rfl (aa) rfl (du (cO rfl rfl k (a8) (a8))) (?_)
 refine as_ 11 (q:=lel) (k:=as_ 12 (q:=asn) (k:=as_ 13 (q:=asn) (k:=az_ (k:=gk (k:=rt_ Tryz.results121 (k:=?_))))))
 exact⟨_,hsb, .inr ⟨x,hx,rfl,rfl⟩⟩
theorem Gm {v a i:Nat}(hv:v<2 ^ (7*i)) (ha:a*2 ^ (7*i)<18446744073709551616):v |||(a*2 ^ (7*i))=v+a*2 ^ (7*i):=by
 rw[Nat.or_comm,←Nat.shiftLeft_eq,←Nat.shiftLeft_add_eq_or_of_lt hv,Nat.shiftLeft_eq];omega
theorem kf (x:Nat):x &&& 127=x % 128:=Nat.and_two_pow_sub_one_eq_mod x 7
theorem LP:∀i:Fin 10,(if i.val=9 then 1 else 127)*2 ^ (7*i.val)<18446744073709551616:=ag
theorem xM {x i:Nat}(hi:i≤9) (h9:i=9→x≤1):(x &&& 127)*2 ^ (7*i)<18446744073709551616:=by
 have h:=LP ⟨i,a8⟩
 simp only at h
 rw[kf]
 refine Nat.lt_of_le_of_lt (Nat.mul_le_mul_right _ ?_) h
 split
 ·have:=h9 (ay);omega
 ·omega
theorem Kn:∀i:Fin 10,2 ^ (7*i.val)≤9223372036854775808:=ag
theorem p7 {i:Nat}(h:i≤9):2 ^ (7*i)≤9223372036854775808:=Kn ⟨i,a8⟩
def Ir (v i:Nat):Except Nat (Nat×Nat)→Except Nat (Nat×Nat)
 | .ok (w,n)=> .ok (v+w*2 ^ (7*i),i+n)
 | .error e=> .error e
theorem pY {G:cM}{H R:cG}{b k:Nat}{xs:List Nat} [hg:Glb G R] [hr:Rem H Rd b (xs,k) R] (hk:k≤xs.length) (hn:xs.length≤1000000000000) (hb:∀x∈xs,x<256):SC G Tryz.prog 81 [.pointer (some ⟨b,0,none⟩)] H (fun v H'=>
 (∃e,eY 0 (xs.drop k)= .error e∧v= .tuple #[.int .u64 0,G.err e]∧H'=Rd b (xs,k)::R)∨(∃n m,eY 0 (xs.drop k)= .ok (n,m)∧v= .tuple #[.int .u64 ((n:Nat):Int), .nilIface]∧H'=Rd b (xs,k+m)::R)):=by
 refine xS hr fun s=> ?_
 refine sWk Tryz.func81 Tryz.ntmps81 ?_
 refine go ?_
 refine gk (k:=wl_ (Nat×Nat) (fun y=> y.1≤9∧k+y.1≤xs.length∧y.2<2 ^ (7*y.1)∧eY 0 (xs.drop k)=Ir y.2 y.1 (eY y.1 (xs.drop (k+y.1)))) (fun y=> [(0, .pointer (some ⟨b,0,none⟩)),(4, .int .u64 ((y.2:Nat):Int)),(5, .int .i64 ((y.1:Nat):Int))]) (fun _=> Vr b [.int .i64 ((k:Nat):Int), .int .i64 ((xs.length:Nat):Int),s.val]::Row s eB xs::R) (fun y=> xs.length - y.1) ((0,0)) (h0:=?_) (k:=?_))
 ·try dsimp only
  refine⟨Yl _,hk,ag,?_⟩
  rw[Nat.add_zero]
  cases eY 0 (xs.drop k)with
  |ok p=> simp[Ir]
  |error e=> rfl
 rintro⟨i,v⟩ ⟨hi,hki,hv,hI⟩
 try dsimp only at*
 refine go ?_
 refine d1_ rfl (left (a8)) (k:=gk (k:=wi_ (k:=fun h1=>?_) (m:=fun h1=>?_)))
 ·have e2:eY 0 (xs.drop k)= .error 2:=by rw[hI,List.drop_of_length_le (a8)];rfl
  refine go ?_
  refine cW cL (as_ 0 (q:=ldv) (k:=as_ 1 (q:=asn) (k:=as_ 2 (q:=asn) (k:=az_ (k:=gk (k:=rt_ Tryz.results81 (k:=?_)))))))
  exact⟨_,hsb, .inl ⟨2,e2,rfl,rfl⟩⟩
 obtain⟨x,hx⟩:∃x,xs[k+i]? =some x:=⟨_,Yi (a8)⟩
 have hxb:=hb x (Yj hx)
 have hd:xs.drop (k+i)=x::xs.drop (k+(i+1)):=dV hx
 rw[hd,eY]at hI
 refine go ?_
 refine cW cL (as_ 0 (q:=mv) (k:=as_ 1 (q:=nck) (k:=as_ 2 (q:=fla) (k:=as_ 3 (q:=ldv) (k:=as_ 4 (q:=mv) (k:=as_ 5 (q:=nck) (k:=as_ 6 (q:=fla) (k:=as_ 7 (q:=fla) (k:=as_ 8 (q:=ldv) (k:=as_ 9 (q:=mv) (k:=as_ 10 (q:=iad) (k:=?_))))))))))))
 refine cH 11 rfl rfl (aa) rfl (du (cO rfl rfl (k+i) (a8) (a8))) (?_)
 refine as_ 12 (q:=lel) (k:=as_ 13 (q:=asn) (k:=az_ (k:=qn_ (ws_ (ws_ (wr_ (e_ mv (k:=e_ ieq (k:=sp_ (mv) (k:=fun h2=>?_) (m:=fun h2=>?_))))))))))
 ·refine gk (k:=wi_ (k:=fun h3=>?_) (m:=fun h3=>?_))
  ·rw[if_pos (a8)]at hI
   refine go ?_
   refine cW cL (as_ 0 (q:=ldv) (k:=as_ 1 (q:=asn) (k:=as_ 2 (q:=asn) (k:=az_ (k:=gk (k:=rt_ Tryz.results81 (k:=?_)))))))
   exact⟨_,hsb, .inl ⟨3,hI,rfl,rfl⟩⟩
  refine wk_ (qn_ (ws_ (wr_ (?_))))
  rw[if_neg (a8)]at hI
  have hsh:(x &&& 127)*2 ^ (7*i)<18446744073709551616:=xM hi (a8)
  have hand:x &&& 127≤127:=by rw[kf];omega
  have hor:=Gm hv hsh
  have hp7:=p7 hi
  rw[kf]at hor
  refine e_ mv (k:=e_ mv (k:=?_))
  refine e_ (fV 256 rfl rfl rfl rfl _ 127 rfl rfl (ai) (ai)) (k:=?_)
  refine e_ ((ae)) (k:=?_)
  refine e_ mv (k:=e_ iml (k:=?_))
  refine e_ (sZ (k:= .u64) 18446744073709551616 rfl rfl rfl rfl (x &&& 127) (7*i) rfl (a8) hsh) (k:=?_)
  refine e_ (j0 18446744073709551616 rfl rfl rfl rfl _ _ rfl rfl (ai) (ai)) (k:=?_)
  refine gk (k:=wi_ (k:=fun h4=>?_) (m:=fun h4=>?_))
  ·rw[if_pos (a8)]at hI
   refine go ?_
   refine ln_ ((i+1,v |||(x &&& 127)*2 ^ (7*i))) (k:=?_)
   try dsimp only
   have hP:2 ^ (7*(i+1))=128*2 ^ (7*i):=by rw[Nat.mul_add,Nat.pow_add];omega
   have hm:x % 128*2 ^ (7*i)≤127*2 ^ (7*i):=Nat.mul_le_mul_right _ (a8)
   refine⟨a8,a8,by rw[kf,hor];omega,?_⟩
   rw[hI,kf,hor]
   cases eY (i+1) (xs.drop (k+(i+1)))with
   |error e=> rfl
   |ok p=>
    obtain⟨w,n⟩:=p
    simp only[Ir,Except.ok.injEq,Prod.mk.injEq]
    refine⟨?_,a8⟩
    rw[hP,Nat.add_mul,Nat.mul_comm 128 w,Nat.mul_assoc];omega
  rw[if_neg (a8)]at hI
  refine wk_ (qn_ (ws_ (ws_ (wr_ (e_ mv (k:=e_ ieq (k:=sp_ (mv) (k:=fun h5=>?_) (m:=fun h5=>?_))))))))
  ·refine gk (k:=wi_ (k:=fun h6=>?_) (m:=fun h6=>?_))
   ·rw[if_pos (a8)]at hI
    refine go ?_
    refine cW cL (as_ 0 (q:=ldv) (k:=as_ 1 (q:=asn) (k:=as_ 2 (q:=asn) (k:=az_ (k:=gk (k:=rt_ Tryz.results81 (k:=?_)))))))
    exact⟨_,hsb, .inl ⟨3,hI,rfl,rfl⟩⟩
   refine wk_ (qn_ (ws_ (wr_ (?_))))
   rw[if_neg (a8)]at hI
   refine go ?_
   refine gk (k:=rt_ Tryz.results81 (k:=?_))
   have hI':eY 0 (xs.drop k)= .ok (v |||(x &&& 127)*2 ^ (7*i),i+1):=aX
   exact⟨_,hsb, .inr ⟨_,_,hI',rfl,rfl⟩⟩
  refine of_ (k:=of_ (k:=e_ pkf (k:=on_ (qn_ (dw (k:=wk_ (qn_ (ws_ (wr_ (?_))))))))))
  rw[if_neg (a8)]at hI
  refine go ?_
  refine gk (k:=rt_ Tryz.results81 (k:=?_))
  have hI':eY 0 (xs.drop k)= .ok (v |||(x &&& 127)*2 ^ (7*i),i+1):=aX
  exact⟨_,hsb, .inr ⟨_,_,hI',rfl,rfl⟩⟩
 refine of_ (k:=of_ (k:=e_ pkf (k:=on_ (qn_ (dw (k:=wk_ (qn_ (ws_ (wr_ (?_))))))))))
 rw[if_neg (a8)]at hI
 have hsh:(x &&& 127)*2 ^ (7*i)<18446744073709551616:=xM hi (a8)
 have hand:x &&& 127≤127:=by rw[kf];omega
 have hor:=Gm hv hsh
 have hp7:=p7 hi
 rw[kf]at hor
 refine e_ mv (k:=e_ mv (k:=?_))
 refine e_ (fV 256 rfl rfl rfl rfl _ 127 rfl rfl (ai) (ai)) (k:=?_)
 refine e_ ((ae)) (k:=?_)
 refine e_ mv (k:=e_ iml (k:=?_))
 refine e_ (sZ (k:= .u64) 18446744073709551616 rfl rfl rfl rfl (x &&& 127) (7*i) rfl (a8) hsh) (k:=?_)
 refine e_ (j0 18446744073709551616 rfl rfl rfl rfl _ _ rfl rfl (ai) (ai)) (k:=?_)
 refine gk (k:=wi_ (k:=fun h7=>?_) (m:=fun h7=>?_))
 ·rw[if_pos (a8)]at hI
  refine go ?_
  refine ln_ ((i+1,v |||(x &&& 127)*2 ^ (7*i))) (k:=?_)
  try dsimp only
  have hP:2 ^ (7*(i+1))=128*2 ^ (7*i):=by rw[Nat.mul_add,Nat.pow_add];omega
  have hm:x % 128*2 ^ (7*i)≤127*2 ^ (7*i):=Nat.mul_le_mul_right _ (a8)
  refine⟨a8,a8,by rw[kf,hor];omega,?_⟩
  rw[hI,kf,hor]
  cases eY (i+1) (xs.drop (k+(i+1)))with
  |error e=> rfl
  |ok p=>
   obtain⟨w,n⟩:=p
   simp only[Ir,Except.ok.injEq,Prod.mk.injEq]
   refine⟨?_,a8⟩
   rw[hP,Nat.add_mul,Nat.mul_comm 128 w,Nat.mul_assoc];omega
 rw[if_neg (a8)]at hI
 refine wk_ (qn_ (ws_ (ws_ (wr_ (e_ mv (k:=e_ ieq (k:=sp_ (mv) (k:=fun h8=>?_) (m:=fun h8=>?_))))))))
 ·refine gk (k:=wi_ (k:=fun h9=>?_) (m:=fun h9=>?_))
  ·rw[if_pos (a8)]at hI
   refine go ?_
   refine cW cL (as_ 0 (q:=ldv) (k:=as_ 1 (q:=asn) (k:=as_ 2 (q:=asn) (k:=az_ (k:=gk (k:=rt_ Tryz.results81 (k:=?_)))))))
   exact⟨_,hsb, .inl ⟨3,hI,rfl,rfl⟩⟩
  refine wk_ (qn_ (ws_ (wr_ (?_))))
  rw[if_neg (a8)]at hI
  refine go ?_
  refine gk (k:=rt_ Tryz.results81 (k:=?_))
  have hI':eY 0 (xs.drop k)= .ok (v |||(x &&& 127)*2 ^ (7*i),i+1):=aX
  exact⟨_,hsb, .inr ⟨_,_,hI',rfl,rfl⟩⟩
 refine of_ (k:=of_ (k:=e_ pkf (k:=on_ (qn_ (dw (k:=wk_ (qn_ (ws_ (wr_ (?_))))))))))
 rw[if_neg (a8)]at hI
 refine go ?_
 refine gk (k:=rt_ Tryz.results81 (k:=?_))
 have hI':eY 0 (xs.drop k)= .ok (v |||(x &&& 127)*2 ^ (7*i),i+1):=aX
 exact⟨_,hsb, .inr ⟨_,_,hI',rfl,rfl⟩⟩
def ec (most:Nat) (l:List Nat):Except Nat (Nat×Nat):=
 match eY 0 l with
 | .error e=> .error e
 | .ok (v,n)=> if most<v then .error 4 else .ok (v,n)
theorem dI {most:Nat}{l:List Nat}{v n:Nat}(hb:∀x∈l,x<256) (h:ec most l= .ok (v,n)):v≤most∧n≤l.length∧l.take n=uv v∧1≤n:=by
 unfold ec at h
 split at h
 ·cases h
 ·rename_i v' n' hr
  split at h
  ·cases h
  ·simp only[Except.ok.injEq,Prod.mk.injEq]at h
   obtain⟨rfl,rfl⟩:=h
   obtain⟨h1,h2,h3,h4,h5,h6⟩:=gZ l 0 v' n' hb (a8) hr
   exact⟨a8,h4,h5,h2⟩
theorem tR {G:cM}{H R:cG}{b k most:Nat}{xs:List Nat} [hg:Glb G R] [hr:Rem H Rd b (xs,k) R] (hk:k≤xs.length) (hn:xs.length≤1000000000000) (hb:∀x∈xs,x<256) (hm:most≤4611686018427387904):SC G Tryz.prog 46 [.pointer (some ⟨b,0,none⟩), .int .i64 ((most:Nat):Int)] H (fun v H'=>
 (∃e,ec most (xs.drop k)= .error e∧v= .tuple #[.int .i64 0,G.err e]∧H'=Rd b (xs,k)::R)∨(∃n m,ec most (xs.drop k)= .ok (n,m)∧v= .tuple #[.int .i64 ((n:Nat):Int), .nilIface]∧H'=Rd b (xs,k+m)::R)):=by
 refine SC.rem (h:=hr) ?_
 refine sWk Tryz.func46 Tryz.ntmps46 ?_
 refine go ?_
 refine rk b fun s=> ?_
 refine go ?_
 refine dE (H':=Rd b (xs,k)::R) (hsb) ?_
 refine go ?_
 refine c1_ rfl (pY hk hn hb) (k:=?_)
 rintro v1 H1 hK
 rcases hK with⟨e,he,rfl,rfl⟩|⟨n,m,he,rfl,rfl⟩
 ·refine e_ mv (k:=e_ exr (k:=e_ exr (k:=e_ asn (k:=e_ asn (k:=on_ (qn_ (ws_ (ws_ (wr_ (e_ mv (k:=?_)))))))))))
  refine e_ (cR rfl) (k:=?_)
  refine gk (k:=ift (k:=gk (k:=rt_ Tryz.results46 (k:=?_))))
  exact⟨_,hsb, .inl ⟨e,by rw[ec,he],rfl,rfl⟩⟩
 obtain⟨q1,q2,q3,q4,q5,q6⟩:=gZ _ 0 n m (fun x hx=> hb x (Yp hx)) (a8) he
 rw[Yo]at q4
 refine e_ mv (k:=e_ exr (k:=e_ exr (k:=e_ asn (k:=e_ asn (k:=on_ (qn_ (ws_ (ws_ (wr_ (e_ mv (k:=?_)))))))))))
 refine e_ (cN rfl) (k:=?_)
 refine gk (k:=dw (k:=wk_ (qn_ (ws_ (ws_ (wr_ (e_ mv (k:=e_ ilt (k:=sp_ (mv) (k:=fun h1=>?_) (m:=fun h1=>?_))))))))))
 ·exfalso;omega
 refine eg_ mv (k:=eg_ mv (k:=?_))
 refine eg_ ((ae)) (k:=?_)
 refine gk (k:=wi_ (k:=fun h2=>?_) (m:=fun h2=>?_))
 ·refine go ?_
  refine rk b fun s=> ?_
  refine go ?_
  refine cW cL (as_ 0 (q:=ldv) (k:=as_ 1 (q:=asn) (k:=as_ 2 (q:=asn) (k:=az_ (k:=gk (k:=rt_ Tryz.results46 (k:=?_)))))))
  exact⟨_,hsb, .inl ⟨4,by rw[ec,he];simp only[];rw[if_pos (a8)],rfl,rfl⟩⟩
 refine wk_ (qn_ (ws_ (wr_ (e_ mv (k:=?_)))))
 refine e_ (dS rfl (a8)) (k:=?_)
 refine gk (k:=rt_ Tryz.results46 (k:=?_))
 exact⟨_,hsb, .inr ⟨n,m,by rw[ec,he];simp only[];rw[if_neg (a8)],rfl,rfl⟩⟩
def hX (most:Nat) (l:List Nat):Except Nat (List Nat×Nat):=
 match ec most l with
 | .error e=> .error e
 | .ok (n,m)=> if l.length - m<n then .error 2 else .ok ((l.drop m).take n,m+n)
theorem Ee {G:cM}{H R:cG}{b k most:Nat}{xs:List Nat} [hg:Glb G R] [hr:Rem H Rd b (xs,k) R] (hk:k≤xs.length) (hn:xs.length≤1000000000000) (hb:∀x∈xs,x<256) (hm:most≤4611686018427387904):SC G Tryz.prog 120 [.pointer (some ⟨b,0,none⟩), .int .i64 ((most:Nat):Int)] H (fun v H'=>
 (∃e,hX most (xs.drop k)= .error e∧v= .tuple #[.string ByteArray.empty,G.err e]∧H'=Rd b (xs,k)::R)∨(∃q m,hX most (xs.drop k)= .ok (q,m)∧v= .tuple #[.string (dO q), .nilIface]∧H'=Rd b (xs,k+m)::R)):=by
 refine SC.rem (h:=hr) ?_
 refine sWk Tryz.func120 Tryz.ntmps120 ?_
 refine go ?_
 refine rk b fun s=> ?_
 refine go ?_
 refine dE (H':=Rd b (xs,k)::R) (hsb) ?_
 refine go ?_
 refine c2_ rfl (tR hk hn hb hm) (k:=?_)
 rintro v1 H1 hK
 rcases hK with⟨e,he,rfl,rfl⟩|⟨n,m,he,rfl,rfl⟩
 ·refine e_ mv (k:=e_ exr (k:=e_ exr (k:=e_ asn (k:=e_ asn (k:=on_ (qn_ (ws_ (ws_ (wr_ (e_ mv (k:=?_)))))))))))
  refine e_ (cR rfl) (k:=?_)
  refine gk (k:=ift (k:=gk (k:=rt_ Tryz.results120 (k:=?_))))
  exact⟨_,hsb, .inl ⟨e,by rw[hX,he],rfl,rfl⟩⟩
 obtain⟨q1,q2,q3,q4⟩:=dI (fun x hx=> hb x (Yp hx)) he
 rw[Yo]at q2
 refine e_ mv (k:=e_ exr (k:=e_ exr (k:=e_ asn (k:=e_ asn (k:=on_ (qn_ (ws_ (ws_ (wr_ (e_ mv (k:=?_)))))))))))
 refine e_ (cN rfl) (k:=?_)
 refine gk (k:=dw (k:=go ?_))
 refine rk b fun s=> ?_
 refine go ?_
 refine d1_ rfl (left (a8)) (k:=gk (k:=wi_ (k:=fun h1=>?_) (m:=fun h1=>?_)))
 ·refine go ?_
  refine cW cL (as_ 0 (q:=ldv) (k:=as_ 1 (q:=asn) (k:=as_ 2 (q:=asn) (k:=az_ (k:=gk (k:=rt_ Tryz.results120 (k:=?_)))))))
  exact⟨_,hsb, .inl ⟨2,by rw[hX,he];simp only[];rw[if_pos (aC)],rfl,rfl⟩⟩
 refine go ?_
 refine go ?_
 refine cW cL (?_)
 have hcut:Sl (Vr b [.int .i64 (((k+m:Nat):Int)+((n:Nat):Int)), .int .i64 ((xs.length:Nat):Int),s.val]::Row s eB xs::R) (s.cut 1 (k+m) (k+m+n)) eB ((xs.take (k+m+n)).drop (k+m)):=Sl.cut (e:=eB) inferInstance (a8) (a8)
 have hq:(xs.take (k+m+n)).drop (k+m)=((xs.drop k).drop m).take n:=by rw[List.drop_drop,List.drop_take,show k+m+n - (k+m)=n from a8]
 refine as_ 0 (q:=mv) (k:=as_ 1 (q:=nck) (k:=as_ 2 (q:=fla) (k:=as_ 3 (q:=ldv) (k:=as_ 4 (q:=mv) (k:=as_ 5 (q:=nck) (k:=as_ 6 (q:=fla) (k:=as_ 7 (q:=fla) (k:=as_ 8 (q:=ldv) (k:=as_ 9 (q:=mv) (k:=as_ 10 (q:=isb) (k:=as_ 11 (q:=mv) (k:=as_ 12 (q:=nck) (k:=as_ 13 (q:=fla) (k:=?_))))))))))))))
 refine as_ 14 (q:=fla) (k:=as_ 15 (q:=ldv) (k:=?_))
 refine cH 16 rfl rfl (aa) rfl (du (ef rfl (aI) (k+m) (k+m+n) ⟨_,_,rfl,a8⟩ ⟨_,_,rfl,a8⟩ (a8) (a8))) (?_)
 refine cH 17 rfl rfl (aa) rfl (du (cV rfl)) (?_)
 refine as_ 18 (q:=asn) (k:=as_ 19 (q:=asn) (k:=az_ (k:=gk (k:=rt_ Tryz.results120 (k:=?_)))))
 exact⟨Rd b (xs,k+(m+n))::R,by rw[←Nat.add_assoc];exact hsb, .inr ⟨((xs.drop k).drop m).take n,m+n,by rw[hX,he];simp only[];rw[if_neg (aC)],by rw[hq];rfl,rfl⟩⟩
def iV:Nat→Int→List Nat→Except Nat (List Int×Nat)
 | 0,_,_=> .ok ([],0)
 |n+1,last,l=>
  match eY 0 l with
  | .error e=> .error e
  | .ok (v,m)=> if 9223372036854775806 - last<(v:Int)then .error 4 else
   match iV n (last+v+1) (l.drop m)with
   | .error e=> .error e
   | .ok (r,m')=> .ok ((last+v+1)::r,m+m')
def dL (most:Nat) (l:List Nat):Except Nat (List Int×Nat):=
 match ec most l with
 | .error e=> .error e
 | .ok (n,m)=>
  match iV n (-1) (l.drop m)with
  | .error e=> .error e
  | .ok (r,m')=> .ok (r,m+m')
def sl (zs:List Int) (a:Nat):Except Nat (List Int×Nat)→Except Nat (List Int×Nat)
 | .ok (r,m)=> .ok (zs++r,a+m)
 | .error e=> .error e
theorem Np {G:cM}{H R:cG}{b k most:Nat}{xs:List Nat} [hg:Glb G R] [hr:Rem H Rd b (xs,k) R] (hk:k≤xs.length) (hn:xs.length≤1000000000000) (hb:∀x∈xs,x<256) (hm:most≤1000000000000):SC G Tryz.prog 85 [.pointer (some ⟨b,0,none⟩), .int .i64 ((most:Nat):Int)] H (fun v H'=>
 (∃e k',dL most (xs.drop k)= .error e∧v= .tuple #[.slice none 0 0,G.err e]∧H'=Rd b (xs,k')::R)∨(∃l m,∃s':SV,dL most (xs.drop k)= .ok (l,m)∧v= .tuple #[s'.val, .nilIface]∧H'=Row s' eI l::Rd b (xs,k+m)::R)):=by
 refine SC.rem (h:=hr) ?_
 refine sWk Tryz.func85 Tryz.ntmps85 ?_
 refine go ?_
 refine c2_ rfl (tR hk hn hb (a8)) (k:=?_)
 rintro v1 H1 hK
 rcases hK with⟨e,he,rfl,rfl⟩|⟨n,m,he,rfl,rfl⟩
 ·refine e_ mv (k:=e_ exr (k:=e_ exr (k:=e_ asn (k:=e_ asn (k:=on_ (qn_ (ws_ (ws_ (wr_ (e_ mv (k:=?_)))))))))))
  refine e_ (cR rfl) (k:=?_)
  refine gk (k:=ift (k:=gk (k:=rt_ Tryz.results85 (k:=?_))))
  exact⟨_,hsb, .inl ⟨e,_,by rw[dL,he],rfl,rfl⟩⟩
 obtain⟨q1,q2,q3,q4⟩:=dI (fun x hx=> hb x (Yp hx)) he
 rw[Yo]at q2
 refine e_ mv (k:=e_ exr (k:=e_ exr (k:=e_ asn (k:=e_ asn (k:=on_ (qn_ (ws_ (ws_ (wr_ (e_ mv (k:=?_)))))))))))
 refine e_ (cN rfl) (k:=?_)
 refine gk (k:=dw (k:=go ?_))
 refine gk (k:=wl_ (SV×Nat×Int×List Int×Nat) (fun y=> y.2.1≤n∧ -1≤y.2.2.1∧y.2.2.1≤9223372036854775807∧k+m+y.2.2.2.2≤xs.length∧y.2.2.2.1.length=y.2.1∧iV n (-1) (xs.drop (k+m))=sl y.2.2.2.1 y.2.2.2.2 (iV (n - y.2.1) y.2.2.1 (xs.drop (k+m+y.2.2.2.2)))) (fun y=> [(0, .pointer (some ⟨b,0,none⟩)),(8,y.1.val),(9, .int .i64 y.2.2.1),(21, .int .i64 ((n:Nat):Int)),(22, .int .i64 ((y.2.1:Nat):Int))]) (fun y=> Row y.1 eI y.2.2.2.1::Rd b (xs,k+m+y.2.2.2.2)::R) (fun y=> n - y.2.1) ((SV.nil,0, -1, [],0)) (h0:=?_) (k:=?_))
 ·try dsimp only
  refine⟨Yl _,a8,a8,a8,rfl,?_⟩
  simp only[Nat.add_zero,Nat.sub_zero]
  cases iV n (-1) (xs.drop (k+m))with
  |ok p=> simp[sl]
  |error e=> rfl
 rintro⟨s,j,last,zs,a⟩ ⟨hj,hl1,hl2,ha,hz,hI⟩
 try dsimp only at*
 refine gk (k:=wi_ (k:=fun h1=>?_) (m:=fun h1=>?_))
 ·obtain⟨d,hd⟩:∃d,n - j=d+1:=⟨n - j - 1,a8⟩
  rw[hd,iV]at hI
  refine go ?_
  refine c1_ rfl (pY ha hn hb) (k:=?_)
  rintro v1 H1 hK
  rcases hK with⟨e,he2,rfl,rfl⟩|⟨v,c,he2,rfl,rfl⟩
  all_goals rw[he2]at hI
  all_goals simp only[]at hI
  ·refine e_ mv (k:=e_ exr (k:=e_ exr (k:=e_ asn (k:=e_ asn (k:=on_ (qn_ (ws_ (ws_ (wr_ (e_ mv (k:=?_)))))))))))
   refine e_ (cR rfl) (k:=?_)
   refine gk (k:=ift (k:=go ?_))
   refine gk (k:=rt_ Tryz.results85 (k:=?_))
   exact⟨_,hsb, .inl ⟨e,_,bL,rfl,rfl⟩⟩
  obtain⟨p1,p2,p3,p4,p5,p6⟩:=gZ _ 0 v c (fun x hx=> hb x (Yp hx)) (a8) he2
  rw[Yo]at p4
  refine e_ mv (k:=e_ exr (k:=e_ exr (k:=e_ asn (k:=e_ asn (k:=on_ (qn_ (ws_ (ws_ (wr_ (e_ mv (k:=?_)))))))))))
  refine e_ (cN rfl) (k:=?_)
  refine gk (k:=dw (k:=wk_ (qn_ (ws_ (ws_ (wr_ (e_ mv (k:=e_ ieq (k:=sp_ (mv) (k:=fun h2=>?_) (m:=fun h2=>?_))))))))))
  ·rw[if_pos (a8)]at hI
   refine gk (k:=ift (k:=go ?_))
   refine cW cL (as_ 0 (q:=ldv) (k:=as_ 1 (q:=asn) (k:=as_ 2 (q:=asn) (k:=az_ (k:=gk (k:=rt_ Tryz.results85 (k:=?_)))))))
   exact⟨_,hsb, .inl ⟨4,_,bL,rfl,rfl⟩⟩
  refine eg_ mv (k:=eg_ mv (k:=eg_ isb (k:=?_)))
  refine eg_ (cS 18446744073709551616 rfl rfl rfl (9223372036854775806 - last).toNat (a8) (a8)) (k:=?_)
  refine gk (k:=wi_ (k:=fun h3=>?_) (m:=fun h3=>?_))
  ·rw[if_pos (a8)]at hI
   refine go ?_
   refine cW cL (as_ 0 (q:=ldv) (k:=as_ 1 (q:=asn) (k:=as_ 2 (q:=asn) (k:=az_ (k:=gk (k:=rt_ Tryz.results85 (k:=?_)))))))
   exact⟨_,hsb, .inl ⟨4,_,bL,rfl,rfl⟩⟩
  rw[if_neg (a8)]at hI
  simp only[List.drop_drop]at hI
  refine wk_ (qn_ (ws_ (wr_ (e_ mv (k:=e_ mv (k:=?_))))))
  refine e_ (dS rfl (a8)) (k:=?_)
  refine e_ (tc rfl rfl _ rfl) (k:=?_)
  refine e_ (tc rfl rfl (last+v+1) (by rw[IntKind.wrap_i64,IntKind.wrap_i64];omega)) (k:=?_)
  refine gk (k:=dD eI (k:=fun s1=>?_))
  refine app (k:=fun s2=>?_)
  refine go ?_
  refine ln_ ((s2,j+1,last+v+1,zs++ [last+v+1],a+c)) (h4:=?_) (k:=?_)
  ·try dsimp only
   rw[show k+m+(a+c)=k+m+a+c from a8]
   exact hsb
  try dsimp only
  refine⟨a8,a8,a8,a8,au,?_⟩
  rw[hI,show n - (j+1)=d from a8,show k+m+(a+c)=k+m+a+c from a8]
  cases iV d (last+v+1) (xs.drop (k+m+a+c))with
  |error e=> rfl
  |ok p=>
   obtain⟨r,c'⟩:=p
   simp only[sl,Except.ok.injEq,Prod.mk.injEq,Yf,Yd,Ye]
   exact⟨trivial,a8⟩
 obtain rfl:j=n:=a8
 rw[Nat.sub_self,iV]at hI
 have hR:dL most (xs.drop k)= .ok (zs,m+a):=by
  rw[dL,he];simp only[List.drop_drop];rw[hI];simp[sl]
 refine gk (k:=rt_ Tryz.results85 (k:=?_))
 exact⟨_,hsb, .inr ⟨zs,m+a,s,hR,rfl,by rw[←Nat.add_assoc]⟩⟩
theorem B9 {G:cM}{H R:cG}{b k most:Nat}{xs:List Nat} [hg:Glb G R] [hr:Rem H Rd b (xs,k) R] (hk:k≤xs.length) (hn:xs.length≤1000000000000) (hb:∀x∈xs,x<256) (hm:most≤1000000000000):SC G Tryz.prog 48 [.pointer (some ⟨b,0,none⟩), .int .i64 ((most:Nat):Int)] H (fun v H'=>
 (∃e,dL most (xs.drop k)= .error e∧v= .tuple #[.slice none 0 0,G.err e]∧H'=Rd b (xs,k)::R)∨(∃l m,∃s':SV,dL most (xs.drop k)= .ok (l,m)∧v= .tuple #[s'.val, .nilIface]∧H'=Row s' eI l::Rd b (xs,k+m)::R)):=by
 refine SC.rem (h:=hr) ?_
 refine sWk Tryz.func48 Tryz.ntmps48 ?_
 refine go ?_
 refine rk b fun s=> ?_
 refine go ?_
 refine dE (H':=Rd b (xs,k)::R) (hsb) ?_
 refine go ?_
 refine c2_ rfl (Np hk hn hb hm) (k:=?_)
 rintro v1 H1 hK
 rcases hK with⟨e,k',he,rfl,rfl⟩|⟨l,m,s',he,rfl,rfl⟩
 ·refine e_ mv (k:=e_ exr (k:=e_ exr (k:=e_ asn (k:=e_ asn (k:=on_ (qn_ (ws_ (ws_ (wr_ (e_ mv (k:=?_)))))))))))
  refine e_ (cR rfl) (k:=?_)
  refine gk (k:=ift (k:=go ?_))
  refine rk b fun s=> ?_
  refine go ?_
  refine gk (k:=rt_ Tryz.results48 (k:=?_))
  exact⟨_,hsb, .inl ⟨e,he,rfl,rfl⟩⟩
 refine e_ mv (k:=e_ exr (k:=e_ exr (k:=e_ asn (k:=e_ asn (k:=on_ (qn_ (ws_ (ws_ (wr_ (e_ mv (k:=?_)))))))))))
 refine e_ (cN rfl) (k:=?_)
 refine gk (k:=dw (k:=gk (k:=rt_ Tryz.results48 (k:=?_))))
 exact⟨_,hsb, .inr ⟨l,m,s',he,rfl,rfl⟩⟩
end Go.Sx
