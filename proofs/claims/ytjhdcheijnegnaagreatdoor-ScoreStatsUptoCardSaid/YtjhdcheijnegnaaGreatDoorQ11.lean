import Derived.Test.YtjhdcheijnegnaaGreatDoorQ7
set_option linter.all false
set_option maxHeartbeats 0
namespace Go.Sx
open Go Go.Proofs Tryz
set_option maxRecDepth 100000
section
variable {G:cJ}{H R:cG}{b n:Nat}{xs:List Nat}
def uv (n:Nat):List Nat:=if n<128 then [n]else(n%128+128)::uv (n/128)
theorem lB (h:n<128):uv n= [n]:=by unfold uv;rw[if_pos h]
theorem ql (h:¬n<128):uv n=(n%128+128)::uv (n/128):=by rw[uv,if_neg h]
theorem DL:∀(k n:Nat),n<128^k→0<k→(uv n).length≤k:=by
 intro k
 induction k with
 |zero=>intro n _ h;omega
 |succ k ih=>
  intro n a _
  by_cases h:n<128
  ·rw[lB h];simp
  ·rw[ql h,Yb];have hk:0<k:=by
    rcases Uc k with rfl|hk
    ·simp at a;omega
    ·exact hk
   have:=ih (n/128) (by rw[T9]at a;omega) hk;omega
theorem fQ (h:n<18446744073709551616):(uv n).length≤10:=DL 10 n a8 ae
theorem oC (n:Nat):0<(uv n).length:=by
 by_cases h:n<128
 ·rw[lB h];simp
 ·rw[ql h];simp
theorem CC:∀m:Fin 256,m.val ||| 128=m.val%128+128:=ao
theorem O7 (n:Nat):(n%256) ||| 128=n%128+128:=by
 have:=CC ⟨n%256,a8⟩;simp only at this;rw[this];omega
theorem ga:SC G prog 155 [] H (λv a=>∃b,v=pA b∧a=Wr b []::H):=by
 refine sWk func155 ?_;refine ws_ (wr_ (e_ asn (on_ (qn_ (ws_ (wr_ (e_ (bld []) (bxx (k:=λb1=>?_)))))))));refine gR ?_;exact⟨_,hsb,_,rfl,rfl⟩
theorem n8 [hr:Rem H Wr b xs R] (x:Nat) (hn:xs.length≤1000000000000):SC G prog 235 [pA b,.int .u8 (x:Int)] H (λv a=>v=.tuple #[]∧a=Wr b (xs++ [x])::R):=by
 refine sR hr λs=>?_;refine sWk func235 ?_;refine gk (k:=fX eB (k:=λs1=>?_));refine app (k:=λs2=>?_);exact gZ
theorem zh {s2:SV}{ys:List Nat} [hr:Rem H Wr b xs R] [Sl R s2 eB ys] (hn:xs.length≤1000000000000) (hm:ys.length≤1000000000000):SC G prog 239 [pA b,s2.val] H (λv a=>v=.tuple #[]∧a=Wr b (xs++ys)::R):=by
 refine sR hr λs=>?_;refine sWk func239 ?_;refine gk (k:=app (k:=λs1=>?_));exact gZ
theorem eH [hr:Rem H Wr b xs R] (x:Nat) (hx:x<18446744073709551616) (hn:xs.length≤1000000000000):SC G prog 233 [pA b,uN x] H (λv f=>v=.tuple #[]∧f=Wr b (xs++uv x)::R):=by
 refine sR hr λs=>?_;have hl:=fQ hx;refine sWk func233 ?_;refine gk (k:=wl_ (SV×Nat×List Nat) (λy=>y.2.2++uv y.2.1=xs++uv x∧y.2.1<18446744073709551616) (λy=>[(0,pA b),(1,uN y.2.1)]) (λy=>Vr b [y.1.val]::Row y.1 eB y.2.2::R) (λy=>y.2.1) ((s,x,xs)) (h0:=?_) (k:=?_))
 ·exact⟨rfl,hx⟩
 rintro⟨s,n,c⟩ ⟨hI,hnb⟩
 try dsimp only at*
 have a:=congrArg List.length hI;have hpos:=oC n;simp only[Ya]at a;refine gW (λh1=>?_) λh1=>?_
 ·refine wk_ (qn_ (wb_ (ws_ (wr_ (e_ mv (e_ mv (e_ nck (e_ fla (e_ ldv (e_ mv ?_))))))))));refine e_ ((aM)) ?_;refine e_ (fI 256 rfl rfl rfl rfl _ 128 rfl rfl aj aj) ?_;refine fX eB (k:=λs1=>?_);refine app (k:=λd=>?_);refine e_ nck (e_ fla (sto (k:=on_ (qn_ (wr_ (e_ mv ?_))))));refine e_ (du rfl rfl _ 7 rfl rfl aq) (go ?_);refine lN ((d,n/2^7,c++ [n%256 ||| 128])) ?_
  try dsimp only
  refine⟨?_,a8⟩;rw[←hI,O7,ql (n:=n) a8];simp
 have e:c++ [n]=xs++uv x:=by rw[←hI,lB a8]
 refine we_ (qe_ (le_ (bh_ (qn_ (wr_ (e_ mv (e_ mv (e_ nck (e_ fla (e_ ldv (e_ mv ?_)))))))))));refine e_ ((aM)) ?_;refine fX eB (k:=λs3=>?_);refine app (k:=λs4=>?_);refine gR ?_;exact⟨_,by rw[e];exact hsb,rfl,rfl⟩
end
section
variable {G:cJ}{i:Nat}{l:List Int}{s:SV}
def lj (l:List Int):Bool:=l.any λx=>decide (x<0)
def rise:List Int→Bool
 |x::y::r=>decide (x<y)&&rise (y::r)
 |_=>true
def gh (last:Int):List Int→List Nat
 | []=>[]
 |x::xs=>uv (x-last-1).toNat++gh x xs
theorem pB:∀l:List Int,rise l=true↔∀(i:Nat) (x y:Int),l[i]? =some x→l[i+1]? =some y→x<y
 | []=>by simp[rise]
 | [x]=>by simp[rise]
 |x::y::r=>by
  simp only[rise,Xu,Xs,pB (y::r)]
  constructor
  ·rintro⟨h1,h2⟩ i a b ha c;cases i with
   |zero=>simp at ha c;subst ha;subst c;exact h1
   |succ i=>simp only[Xc]at ha c;exact h2 i a b ha (by simpa using c)
  ·intro h;exact⟨h 0 x y ak ak,λi a b ha c=>h (i+1) a b (by simpa using ha) (by simpa using c)⟩
theorem ky (l:List Int):lj l=false↔∀(i:Nat) (x:Int),l[i]? =some x→0≤x:=by
 simp only[lj,List.any_eq_false,Xs,Int.not_lt];exact⟨λh i x hx=>h x (Yj hx),λh x hx=>let ⟨i,hi⟩:=Vy.1 hx;h i x hi⟩
theorem tT {x:Int}(h:l[i]? =some x) (hx:x<0):lj l=true:=by
 simp only[lj,List.any_eq_true,Xs];exact⟨x,Yj h,hx⟩
theorem fE {α:Type}{l:List α}{x:α}(h:l[i]? =some x):l.drop i=x::l.drop (i+1):=by
 have a:=(Yk.1 h).1;rw[List.drop_eq_getElem_cons a];congr 1;exact(Yk.1 h).2
theorem ou:∀(l:List Int) (last:Int), -1≤last→(∀x∈l,x≤9223372036854775807)→(gh last l).length≤10*l.length∨∃x∈l,x<0
 | [],_,_,_=>by simp[gh]
 |x::l,last,h,hl=>by
  by_cases hx:x<0
  ·exact .inr ⟨x,ak,hx⟩
  ·have h1:=hl x ak;rcases ou l x a8 (λy hy=>hl y (by simp[hy]))with h2|⟨y,hy,h3⟩
   ·left;have:=fQ (n:=(x-last-1).toNat) a8;rw[gh];simp only[Ya,Yb];omega
   ·exact .inr ⟨y,by simp[hy],h3⟩
theorem nS (a:lj l=false) (hl:∀x∈l,x≤9223372036854775807):(gh (-1) l).length≤10*l.length:=by
 rcases ou l (-1) a8 hl with h|⟨x,hx,h⟩
 ·exact h
 ·obtain⟨i,hi⟩:=Vy.1 hx;rw[tT hi h]at a;cases a
theorem yU {H:cG} [Sl H s eI l] (hn:l.length≤1000000000000):SC G prog 241 [s.val] H (λv b=>v=.bool (lj l)∧b=H):=by
 refine sWk func241 ?_;refine go ?_;refine wl_ Nat (λi=>i≤l.length∧∀j x,j<i→l[j]? =some x→0≤x) (λi=>[(5,s.val),(6,iN l.length),(7,iN i)]) (λ_=>H) (λi=>l.length-i) (0) (h0:=?_) (k:=?_)
 ·exact⟨Yl _,λj x h=>absurd h (Up _)⟩
 rintro i ⟨hi,a⟩
 try dsimp only at*
 refine gW (λh1=>?_) λh1=>?_
 ·obtain⟨x,hx⟩:=gE l i;refine go ?_;refine gW (λh2=>?_) λh2=>?_
  ·refine gR ?_;exact⟨_,cH.refl,by rw[tT hx h2];all_goals rfl,rfl⟩
  refine go ?_;refine lN (i+1) ?_
  try dsimp only
  refine⟨a8,λj y hj hy=>?_⟩;rcases Uq (X9 hj)with h|rfl
  ·exact a j y h hy
  ·rw[hx]at hy;cases hy;omega
 refine gR ?_;exact⟨_,cH.refl,by rw[(ky l).2 λj x hx=>a j x (by have:=(Yk.1 hx).1;omega) hx];all_goals rfl,rfl⟩
theorem Hm {H R:cG}{b:Nat}{xs:List Nat} [hg:Glb G R] [hr:Rem H Wr b xs R] [Sl R s eI l] (hn:xs.length≤100000000000) (hm:l.length≤10000000000) (hl:∀x∈l,x≤9223372036854775807):SC G prog 156 [pA b,s.val] H (λv z=>
 (lj l=true∧v=G.err 1∧z=Wr b xs::R)∨(lj l=false∧rise l=false∧v=G.err 5∧z=Wr b xs::R)∨(lj l=false∧rise l=true∧v=.nilIface∧z=Wr b (xs++(uv l.length++gh (-1) l))::R)):=by
 refine SC.rem (h:=hr) ?_;refine sWk func156 ?_;refine go ?_;refine d1_ rfl (yU a8) (gW (λh1=>?_) (λh1=>?_))
 ·refine gR ?_;exact⟨_,cH.refl,.inl ⟨h1,rfl,rfl⟩⟩
 have C:=(ky l).1 h1;refine gk (k:=wl_ Nat (λi=>1≤i∧(1<i→i≤l.length)∧∀j x y,j+1<i→l[j]? =some x→l[j+1]? =some y→x<y) (λi=>[(0,pA b),(1,s.val),(5,iN i)]) (λ_=>Wr b xs::R) (λi=>l.length-i) (1) (h0:=?_) (k:=?_))
 ·exact⟨Xj _,λh=>absurd h (R7 _),λj x y h=>a8⟩
 rintro i ⟨t,hi2,f⟩
 try dsimp only at*
 refine ws_ (ws_ (wr_ (e_ mv (e_ mv (e_ lnn (e_ ilt (on_ (qn_ (wi_ (k:=λh2=>?_) (m:=λh2=>?_))))))))))
 ·obtain⟨x,hx⟩:=gE l (i-1);obtain⟨y,hy⟩:=gE l i;refine wk_ (qn_ (ws_ (wb_ (ws_ ?_))));refine cZ cN (as_ 0 (q:=mv) (k:=as_ 1 (q:=mv) (k:=as_ 2 (q:=ixa) (k:=as_ 3 (q:=lel) (k:=as_ 4 (q:=mv) (k:=as_ 5 (q:=mv) (k:=as_ 6 (q:=isb) (k:=?_))))))));refine cO 7 rfl rfl aa rfl (df (cV rfl rfl (i-1) a8 a8)) ?_;refine gW (λh3=>?_) λh3=>?_
  ·refine gR ?_;refine⟨Wr b xs::R,by exact cH.refl,.inr (.inl ⟨h1,?_,rfl,rfl⟩)⟩;rw[←Bool.not_eq_true,pB];intro f;have:=f (i-1) x y hx (by rw[Q4 t];exact hy);omega
  refine go ?_;refine lN (i+1) ?_
  try dsimp only
  refine⟨a8,λ_=>a8,λj a c hj ha u=>?_⟩;rcases Uq (X9 hj)with h|h
  ·exact f j a c h ha u
  ·obtain rfl:j=i-1:=by omega
   rw[hx]at ha;rw[Q4 t,hy]at u;cases ha;cases u;omega
 have r:rise l=true:=(pB l).2 λj x y hx hy=>f j x y (by have:=(Yk.1 hy).1;omega) hx hy;have hul:=fQ (n:=l.length) a8;refine we_ (qe_ (le_ (bh_ (qn_ (ws_ (wr_ (e_ mv (e_ mv (e_ lnn ?_)))))))));refine e_ ((ab)) ?_;refine d2_ rfl (eH l.length a8 a8) (go ?_);refine gk (k:=wl_ (Nat×Int×List Nat) (λy=>y.1≤l.length∧y.2.2++gh y.2.1 (l.drop y.1)=xs++(uv l.length++gh (-1) l)∧y.2.2.length≤xs.length+10+10*y.1∧ -1≤y.2.1∧(y.1=0→y.2.1= -1)∧∀x,0<y.1→l[y.1-1]? =some x→x=y.2.1) (λy=>[(0,pA b),(6,.int .i64 y.2.1),(34,s.val),(35,iN l.length),(36,iN y.1)]) (λy=>Wr b y.2.2::R) (λy=>l.length-y.1) ((0, -1,xs++uv l.length)) (h0:=?_) (k:=?_))
 ·try dsimp only
  refine⟨Yl _,ak,aH,Int.le_refl _,λ_=>rfl,λx h=>absurd h (R7 _)⟩
 rintro⟨k,d,A⟩ ⟨hk,hI,hlen,hlast,B,g⟩
 try dsimp only at*
 refine gW (λh4=>?_) λh4=>?_
 ·obtain⟨x,hx⟩:=gE l k;have hx0:=C k x hx;have hxm:=hl x (Yj hx);have hgt:d<x:=by
   rcases Uc k with h0|h0
   ·have:=B h0;omega
   ·obtain⟨w,p⟩:=gE l (k-1);have h3:=g w h0 p;have h4:=(pB l).1 r (k-1) w x p (by rw[Q4 h0];exact hx);omega
  refine wk_ (qn_ (ws_ (wb_ (ws_ (wr_ (e_ ixa (e_ lel (e_ asn (on_ (qn_ (ws_ (wr_ (e_ mv ?_)))))))))))));refine e_ mv (e_ mv ?_);refine e_ (By rfl rfl _ rfl) ?_;refine e_ (By rfl rfl (x-d-1) cr) ?_;refine e_ (cR 18446744073709551616 rfl rfl rfl (x-d-1).toNat a8 a8) ?_;refine d2_ rfl (eH (x-d-1).toNat a8 a8) (go ?_);refine lN ((k+1,x,A++uv (x-d-1).toNat)) ?_
  try dsimp only
  have hul2:=fQ (n:=(x-d-1).toNat) a8;refine⟨a8,?_,ai,a8,λh=>a8,λw _ p=>?_⟩
  ·rw[←hI,fE hx,gh,Yf]
  ·rw[Uj]at p;rw[hx]at p;cases p;rfl
 obtain rfl:k=l.length:=a8;have e:A=xs++(uv l.length++gh (-1) l):=by rw[←hI];simp[gh]
 refine gR ?_;exact⟨_,cH.refl,.inr (.inr ⟨h1,r,rfl,by rw[e]⟩)⟩
end
section
variable {G:cJ}{H R:cG}{b i k:Nat}{xs:List Nat}
def j4:Nat→List Nat→Except Nat (Nat×Nat)
 |_, []=>.error 2
 |i,x::r=>if i=9∧1<x then .error 3 else if 128≤x then
  (match j4 (i+1) r with
  | .ok (v,n)=>.ok (x%128+128*v,n+1)
  | .error e=>.error e)
  else if x=0∧0<i then .error 3 else .ok (x,1)
theorem sW:∀i:Fin 9,2^(64-7*i.val)=128*2^(64-7*(i.val+1)):=ae
theorem ki:∀(l:List Nat) (i v n:Nat),(∀x∈l,x<256)→i≤9→j4 i l=.ok (v,n)→
 v<2^(64-7*i)∧1≤n∧n+i≤10∧n≤l.length∧l.take n=uv v∧(0<i→0<v)
 | [],i,v,n,_,_,h=>aU
 |x::r,i,v,n,hb,hi,h=>by
  have hx:=hb x ak;rw[j4]at h
  split at h
  ·cases h
  ·rename_i h9
   split at h
   ·rename_i b;have hi9:i≤8:=a8
    split at h
    ·rename_i c d hr;obtain⟨h1,h2,h3,h4,e,h6⟩:=ki r (i+1) c d (λy hy=>hb y (by simp[hy])) a8 hr;have h7:=h6 a8;have a:=sW ⟨i,a8⟩;simp only at a;simp only[Except.ok.injEq,Prod.mk.injEq]at h;obtain⟨rfl,rfl⟩:=h;refine⟨a8,a8,a8,aH,?_,λ_=>a8⟩;rw[ql (n:=x%128+128*c) a8,Vj,e];congr 1
     ·omega
     ·congr 1;omega
    ·cases h
   ·split at h
    ·cases h
    ·rename_i b hx0;simp only[Except.ok.injEq,Prod.mk.injEq]at h;obtain⟨rfl,rfl⟩:=h;refine⟨?_,a8,a8,ak,?_,λ_=>a8⟩
     ·rcases Uq hi with a|rfl
      ·have a:=sW ⟨i,a8⟩;simp only at a;have:0<2^(64-7*(i+1)):=U5 _;omega
      ·simp;omega
     ·rw[lB a8];simp
theorem B0:∀(v i:Nat) (r:List Nat),i≤9→v<2^(64-7*i)→(0<i→0<v)→j4 i (uv v++r)=.ok (v,(uv v).length):=by
 intro v
 induction v using Nat.strongRecOn with
 |_ v ih=>
  intro i r hi hv h0
  by_cases h:v<128
  ·rw[lB h];rw[List.singleton_append,j4,if_neg (by rintro⟨rfl,h1⟩;simp at hv;omega),if_neg a8,if_neg (by rintro⟨rfl,h2⟩;exact absurd (h0 h2) (R7 0))];all_goals rfl
  ·have hi8:i≤8:=by
    rcases Uq hi with a|rfl
    ·omega
    ·simp at hv;omega
   have a:=sW ⟨i,a8⟩;simp only at a;rw[ql h,Yd,j4,if_neg (by rintro⟨rfl,_⟩;omega),if_pos a8];rw[ih (v/128) a8 (i+1) r a8 a8 (λ_=>a8)];simp only[Yb,Except.ok.injEq,Prod.mk.injEq,and_true];omega
theorem left {k n:Int}{r:List Value} [cY H b (.int .i64 k:: .int .i64 n::r)] (h: -9223372036854775808≤n-k∧n-k≤9223372036854775807):SC G prog 246 [pA b] H (λv a=>v=.int .i64 (n-k)∧a=H):=by
 refine sWk func246 ?_;refine ws_ (wr_ (e_ asn (on_ (qn_ (ws_ ?_)))));refine cZ cN (go ?_);refine rT (k:=?_);exact⟨_,cH.refl,rfl,rfl⟩
theorem sM [hr:Rem H Rd b (xs,k) R]:SC G prog 166 [pA b] H (λv a=>v=iN k∧a=Rd b (xs,k)::R):=by
 refine xB hr λs=>?_;refine sWk func166 ?_;refine go ?_;exact gZ
theorem pn [hg:Glb G R] [hr:Rem H Rd b (xs,k) R] (hk:k≤xs.length):SC G prog 169 [pA b] H (λv a=>a=Rd b (xs,k)::R∧((k<xs.length∧v=G.err 6)∨(k=xs.length∧v=.nilIface))):=by
 refine xB hr λs=>?_;refine sWk func169 ?_;refine ws_ (wr_ (e_ asn (on_ (qn_ (ws_ (ws_ ?_))))));refine cZ cN (as_ 0 (q:=mv) (k:=as_ 1 (q:=nck) (k:=as_ 2 (q:=fla) (k:=as_ 3 (q:=ldv) (k:=as_ 4 (q:=mv) (k:=as_ 5 (q:=nck) (k:=as_ 6 (q:=fla) (k:=as_ 7 (q:=ldv) (k:=as_ 8 (q:=ilt) (k:=az_ (k:=qn_ (wi_ (k:=λh1=>?_) (m:=λh1=>?_)))))))))))))
 ·refine ws_ (wr_ (e_ ldv (e_ asn (on_ (qn_ (wt_ (qr_ (rT (k:=?_)))))))));exact⟨_,hsb,rfl,.inl ⟨a8,rfl⟩⟩
 refine wk_ (qn_ (ws_ (wr_ (e_ asn (on_ (qn_ (wt_ (rT (k:=?_)))))))));exact⟨_,hsb,rfl,.inr ⟨a8,rfl⟩⟩
theorem O0 [hg:Glb G R] [hr:Rem H Rd b (xs,k) R] (hk:k≤xs.length) (hn:xs.length≤1000000000000):SC G prog 349 [pA b] H (λv a=>
 (k=xs.length∧v=.tuple #[.int .u8 0,G.err 2]∧a=Rd b (xs,k)::R)∨(∃x,xs[k]? =some x∧v=.tuple #[.int .u8 ((x:Nat):Int),.nilIface]∧a=Rd b (xs,k+1)::R)):=by
 refine xB hr λs=>?_;refine sWk func349 ?_;refine ws_ (wr_ (e_ asn (e_ asn (on_ (qn_ (ws_ (ws_ (wr_ (e_ mv (e_ nck (e_ fla ?_)))))))))));refine d1_ rfl (left a8) (e_ ieq (on_ (qn_ (wi_ (k:=λh1=>?_) (m:=λh1=>?_)))))
 ·refine ws_ ?_;refine cZ cN (as_ 0 (q:=ldv) (k:=as_ 1 (q:=asn) (k:=as_ 2 (q:=asn) (k:=az_ (k:=qn_ (wt_ (qr_ (rT (k:=?_)))))))));exact⟨_,hsb,.inl ⟨a8,rfl,rfl⟩⟩
 obtain⟨x,hx⟩:=gE xs k;refine wk_ (qn_ (ws_ (wr_ (e_ mv (e_ nck (e_ fla (e_ fla (e_ ldv (e_ iad (e_ nck (e_ fla (e_ fla (sto (k:=?_))))))))))))));refine on_ (qn_ (ws_ ?_));refine cZ cN (as_ 0 (q:=mv) (k:=as_ 1 (q:=nck) (k:=as_ 2 (q:=fla) (k:=as_ 3 (q:=ldv) (k:=as_ 4 (q:=mv) (k:=as_ 5 (q:=nck) (k:=as_ 6 (q:=fla) (k:=as_ 7 (q:=fla) (k:=as_ 8 (q:=ldv) (k:=as_ 9 (q:=isb) (k:=?_)))))))))));refine cO 10 rfl rfl aa rfl (df (cV rfl rfl k a8 a8)) ?_;refine as_ 11 (q:=lel) (k:=as_ 12 (q:=asn) (k:=as_ 13 (q:=asn) (k:=az_ (k:=qn_ (wt_ (rT (k:=?_)))))));exact⟨_,hsb,.inr ⟨x,hx,rfl,rfl⟩⟩
theorem GY {v a:Nat}(hv:v<2^(7*i)) (ha:a*2^(7*i)<18446744073709551616):v |||(a*2^(7*i))=v+a*2^(7*i):=by
 rw[Nat.or_comm,←Nat.shiftLeft_eq,←Nat.shiftLeft_add_eq_or_of_lt hv,Nat.shiftLeft_eq];omega
theorem jK (x:Nat):x &&& 127=x%128:=V6 x 7
theorem NJ:∀i:Fin 10,(if i.val=9 then 1 else 127)*2^(7*i.val)<18446744073709551616:=ae
theorem xw {x:Nat}(hi:i≤9) (h9:i=9→x≤1):(x &&& 127)*2^(7*i)<18446744073709551616:=by
 have h:=NJ ⟨i,a8⟩;simp only at h;rw[jK];refine Vl (Vc _ ?_) h
 split
 ·have:=h9 aX;omega
 ·omega
theorem LA:∀i:Fin 10,2^(7*i.val)≤9223372036854775808:=ae
theorem p7 (h:i≤9):2^(7*i)≤9223372036854775808:=LA ⟨i,a8⟩
def IS (v i:Nat):Except Nat (Nat×Nat)→Except Nat (Nat×Nat)
 | .ok (w,n)=>.ok (v+w*2^(7*i),i+n)
 | .error e=>.error e
end
theorem nt {G:cJ}{H R:cG}{b k:Nat}{xs:List Nat} [hg:Glb G R] [hr:Rem H Rd b (xs,k) R] (hk:k≤xs.length) (hn:xs.length≤1000000000000) (h:∀x∈xs,x<256):SC G prog 165 [pA b] H (λv g=>
 (∃e,j4 0 (xs.drop k)=.error e∧v=.tuple #[.int .u64 0,G.err e]∧g=Rd b (xs,k)::R)∨(∃n m,j4 0 (xs.drop k)=.ok (n,m)∧v=.tuple #[uN n,.nilIface]∧g=Rd b (xs,k+m)::R)):=by
 refine xB hr λs=>?_;refine sWk func165 ?_;refine go ?_;refine gk (k:=wl_ (Nat×Nat) (λy=>y.1≤9∧k+y.1≤xs.length∧y.2<2^(7*y.1)∧j4 0 (xs.drop k)=IS y.2 y.1 (j4 y.1 (xs.drop (k+y.1)))) (λy=>[(0,pA b),(4,uN y.2),(5,iN y.1)]) (λ_=>Vr b [iN k,iN xs.length,s.val]::Row s eB xs::R) (λy=>xs.length-y.1) ((0,0)) (h0:=?_) (k:=?_))
 ·try dsimp only
  refine⟨Yl _,hk,ae,?_⟩;rw[Ur];cases j4 0 (xs.drop k)with
  |ok p=>simp[IS]
  |error e=>rfl
 rintro⟨i,v⟩ ⟨hi,hki,hv,hI⟩
 try dsimp only at*
 refine go ?_;refine d1_ rfl (left a8) (gW (λh1=>?_) (λh1=>?_))
 ·have t:j4 0 (xs.drop k)=.error 2:=by rw[hI,Us a8];all_goals rfl
  refine ws_ ?_;refine cZ cN (gR ?_);exact⟨_,hsb,.inl ⟨2,t,rfl,rfl⟩⟩
 obtain⟨x,hx⟩:=gE xs (k+i);have hxb:=h x (Yj hx);have hd:xs.drop (k+i)=x::xs.drop (k+(i+1)):=fE hx;rw[hd,j4]at hI;refine go ?_;refine cZ cN (as_ 0 (q:=mv) (k:=as_ 1 (q:=nck) (k:=as_ 2 (q:=fla) (k:=as_ 3 (q:=ldv) (k:=as_ 4 (q:=mv) (k:=as_ 5 (q:=nck) (k:=as_ 6 (q:=fla) (k:=as_ 7 (q:=fla) (k:=as_ 8 (q:=ldv) (k:=as_ 9 (q:=mv) (k:=as_ 10 (q:=iad) (k:=?_))))))))))));refine cO 11 rfl rfl aa rfl (df (cV rfl rfl (k+i) a8 a8)) ?_;refine as_ 12 (q:=lel) (k:=as_ 13 (q:=asn) (k:=az_ (k:=qn_ (ws_ (ws_ (wr_ (e_ mv (e_ ieq (sp_ mv (k:=λh2=>?_) (m:=λh2=>?_))))))))))
 ·refine gW (λh3=>?_) λh3=>?_
  ·rw[if_pos a8]at hI;refine ws_ ?_;refine cZ cN (gR ?_);exact⟨_,hsb,.inl ⟨3,hI,rfl,rfl⟩⟩
  refine wk_ (qn_ (ws_ (wr_ ?_)));rw[if_neg a8]at hI;have a:(x &&& 127)*2^(7*i)<18446744073709551616:=xw hi a8;have c:x &&& 127≤127:=by rw[jK];omega
  have hor:=GY hv a;have d:=p7 hi;rw[jK]at hor;refine e_ mv (e_ mv ?_);refine e_ (gn 256 rfl rfl rfl rfl _ 127 rfl rfl aj aj) ?_;refine e_ ((ab)) ?_;refine e_ mv (e_ iml ?_);refine e_ (wz (k:=.u64) 18446744073709551616 rfl rfl rfl rfl (x &&& 127) (7*i) rfl a8 a) ?_;refine e_ (fI 18446744073709551616 rfl rfl rfl rfl _ _ rfl rfl aj aj) ?_;refine gW (λh4=>?_) λh4=>?_
  ·rw[if_pos a8]at hI;refine go ?_;refine lN ((i+1,v |||(x &&& 127)*2^(7*i))) ?_
   try dsimp only
   have f:2^(7*(i+1))=128*2^(7*i):=by rw[X0,Ud];omega
   have hm:x%128*2^(7*i)≤127*2^(7*i):=Vc _ a8;refine⟨a8,a8,by rw[jK,hor];omega,?_⟩;rw[hI,jK,hor];cases j4 (i+1) (xs.drop (k+(i+1)))with
   |error e=>rfl
   |ok p=>
    obtain⟨w,n⟩:=p;simp only[IS,Except.ok.injEq,Prod.mk.injEq];refine⟨?_,a8⟩;rw[f,Vg,Ug 128 w,Un];omega
  rw[if_neg a8]at hI;refine wk_ (qn_ (ws_ (ws_ (wr_ (e_ mv (e_ ieq (sp_ mv (k:=λr=>?_) (m:=λr=>?_))))))))
  ·refine gW (λh6=>?_) λh6=>?_
   ·rw[if_pos a8]at hI;refine ws_ ?_;refine cZ cN (gR ?_);exact⟨_,hsb,.inl ⟨3,hI,rfl,rfl⟩⟩
   refine wk_ (qn_ (ws_ (wr_ ?_)));rw[if_neg a8]at hI;refine go ?_;refine gR ?_;have hI':j4 0 (xs.drop k)=.ok (v |||(x &&& 127)*2^(7*i),i+1):=bm;exact⟨_,hsb,.inr ⟨_,_,hI',rfl,rfl⟩⟩
  refine of_ (of_ (e_ pkf (on_ (qn_ (iff_ (k:=wk_ (qn_ (ws_ (wr_ ?_)))))))));rw[if_neg a8]at hI;refine go ?_;refine gR ?_;have hI':j4 0 (xs.drop k)=.ok (v |||(x &&& 127)*2^(7*i),i+1):=bm;exact⟨_,hsb,.inr ⟨_,_,hI',rfl,rfl⟩⟩
 refine of_ (of_ (e_ pkf (on_ (qn_ (iff_ (k:=wk_ (qn_ (ws_ (wr_ ?_)))))))));rw[if_neg a8]at hI;have a:(x &&& 127)*2^(7*i)<18446744073709551616:=xw hi a8;have c:x &&& 127≤127:=by rw[jK];omega
 have hor:=GY hv a;have d:=p7 hi;rw[jK]at hor;refine e_ mv (e_ mv ?_);refine e_ (gn 256 rfl rfl rfl rfl _ 127 rfl rfl aj aj) ?_;refine e_ ((ab)) ?_;refine e_ mv (e_ iml ?_);refine e_ (wz (k:=.u64) 18446744073709551616 rfl rfl rfl rfl (x &&& 127) (7*i) rfl a8 a) ?_;refine e_ (fI 18446744073709551616 rfl rfl rfl rfl _ _ rfl rfl aj aj) ?_;refine gW (λl=>?_) λl=>?_
 ·rw[if_pos a8]at hI;refine go ?_;refine lN ((i+1,v |||(x &&& 127)*2^(7*i))) ?_
  try dsimp only
  have f:2^(7*(i+1))=128*2^(7*i):=by rw[X0,Ud];omega
  have hm:x%128*2^(7*i)≤127*2^(7*i):=Vc _ a8;refine⟨a8,a8,by rw[jK,hor];omega,?_⟩;rw[hI,jK,hor];cases j4 (i+1) (xs.drop (k+(i+1)))with
  |error e=>rfl
  |ok p=>
   obtain⟨w,n⟩:=p;simp only[IS,Except.ok.injEq,Prod.mk.injEq];refine⟨?_,a8⟩;rw[f,Vg,Ug 128 w,Un];omega
 rw[if_neg a8]at hI;refine wk_ (qn_ (ws_ (ws_ (wr_ (e_ mv (e_ ieq (sp_ mv (k:=λj=>?_) (m:=λj=>?_))))))))
 ·refine gW (λh9=>?_) λh9=>?_
  ·rw[if_pos a8]at hI;refine ws_ ?_;refine cZ cN (gR ?_);exact⟨_,hsb,.inl ⟨3,hI,rfl,rfl⟩⟩
  refine wk_ (qn_ (ws_ (wr_ ?_)));rw[if_neg a8]at hI;refine go ?_;refine gR ?_;have hI':j4 0 (xs.drop k)=.ok (v |||(x &&& 127)*2^(7*i),i+1):=bm;exact⟨_,hsb,.inr ⟨_,_,hI',rfl,rfl⟩⟩
 refine of_ (of_ (e_ pkf (on_ (qn_ (iff_ (k:=wk_ (qn_ (ws_ (wr_ ?_)))))))));rw[if_neg a8]at hI;refine go ?_;refine gR ?_;have hI':j4 0 (xs.drop k)=.ok (v |||(x &&& 127)*2^(7*i),i+1):=bm;exact⟨_,hsb,.inr ⟨_,_,hI',rfl,rfl⟩⟩
section
variable {G:cJ}{most:Nat}{xs:List Nat}
def fZ (most:Nat) (l:List Nat):Except Nat (Nat×Nat):=
 match j4 0 l with
 | .error e=>.error e
 | .ok (v,n)=>if most<v then .error 4 else .ok (v,n)
theorem jA {l:List Nat}{v n:Nat}(c:∀x∈l,x<256) (h:fZ most l=.ok (v,n)):v≤most∧n≤l.length∧l.take n=uv v∧1≤n:=by
 unfold fZ at h
 split at h
 ·cases h
 ·rename_i a b hr
  split at h
  ·cases h
  ·simp only[Except.ok.injEq,Prod.mk.injEq]at h;obtain⟨rfl,rfl⟩:=h;obtain⟨h1,h2,h3,h4,d,h6⟩:=ki l 0 a b c a8 hr;exact⟨a8,h4,d,h2⟩
theorem xH {H R:cG}{b k:Nat} [hg:Glb G R] [hr:Rem H Rd b (xs,k) R] (hk:k≤xs.length) (d:xs.length≤1000000000000) (a:∀x∈xs,x<256) (hm:most≤4611686018427387904):SC G prog 170 [pA b,iN most] H (λv H'=>
 (∃e,fZ most (xs.drop k)=.error e∧v=.tuple #[.int .i64 0,G.err e]∧H'=Rd b (xs,k)::R)∨(∃n m,fZ most (xs.drop k)=.ok (n,m)∧v=.tuple #[iN n,.nilIface]∧H'=Rd b (xs,k+m)::R)):=by
 refine SC.rem (h:=hr) ?_;refine sWk func170 ?_;refine go ?_;refine mA b λs=>?_;refine go ?_;refine eN (H':=Rd b (xs,k)::R) hsb ?_;refine go ?_;refine c1_ rfl (nt hk d a) ?_;rintro v1 H1 f;rcases f with⟨e,he,rfl,rfl⟩|⟨n,m,he,rfl,rfl⟩
 ·refine e_ mv (e_ exr (e_ exr (e_ asn (e_ asn (on_ (qn_ (ws_ (ws_ (wr_ (e_ mv ?_))))))))));refine e_ (de rfl) ?_;refine gk (k:=ift (k:=gR ?_));exact⟨_,hsb,.inl ⟨e,by rw[fZ,he],rfl,rfl⟩⟩
 obtain⟨q1,q2,q3,c,q5,q6⟩:=ki _ 0 n m (λx hx=>a x (Yp hx)) a8 he;rw[Yo]at c;refine e_ mv (e_ exr (e_ exr (e_ asn (e_ asn (on_ (qn_ (ws_ (ws_ (wr_ (e_ mv ?_))))))))));refine e_ (cK rfl) ?_;refine gk (k:=iff_ (k:=wk_ (qn_ (ws_ (ws_ (wr_ (e_ mv (e_ ilt (sp_ mv (k:=λh1=>?_) (m:=λh1=>?_))))))))))
 ·exfalso;omega
 refine eg_ mv (eg_ mv ?_);refine eg_ ((ab)) ?_;refine eg_ igt (e_ pkf (on_ (qn_ (wi_ (k:=λh2=>?_) (m:=λh2=>?_)))))
 ·refine ws_ (wr_ ?_);refine mA b λs=>?_;refine e_ mv (e_ mv (e_ nck (e_ fla (e_ fla (sto (k:=on_ (qn_ (ws_ ?_))))))));refine cZ cN (gR ?_);exact⟨_,hsb,.inl ⟨4,by rw[fZ,he];simp only[];rw[if_pos a8],rfl,rfl⟩⟩
 refine wk_ (qn_ (ws_ (wr_ (e_ mv ?_))));refine e_ (dL rfl a8) ?_;refine gR ?_;exact⟨_,hsb,.inr ⟨n,m,by rw[fZ,he];simp only[];rw[if_neg a8],rfl,rfl⟩⟩
def k8 (most:Nat) (l:List Nat):Except Nat (List Nat×Nat):=
 match fZ most l with
 | .error e=>.error e
 | .ok (n,m)=>if l.length-m<n then .error 2 else .ok ((l.drop m).take n,m+n)
theorem JU {H R:cG}{b k:Nat} [hg:Glb G R] [hr:Rem H Rd b (xs,k) R] (hk:k≤xs.length) (f:xs.length≤1000000000000) (a:∀x∈xs,x<256) (hm:most≤4611686018427387904):SC G prog 171 [pA b,iN most] H (λv H'=>
 (∃e,k8 most (xs.drop k)=.error e∧v=.tuple #[.string ByteArray.empty,G.err e]∧H'=Rd b (xs,k)::R)∨(∃q m,k8 most (xs.drop k)=.ok (q,m)∧v=.tuple #[.string (dQ q),.nilIface]∧H'=Rd b (xs,k+m)::R)):=by
 refine SC.rem (h:=hr) ?_;refine sWk func171 ?_;refine go ?_;refine mA b λs=>?_;refine go ?_;refine eN (H':=Rd b (xs,k)::R) hsb ?_;refine go ?_;refine c2_ rfl (xH hk f a hm) ?_;rintro v1 H1 g;rcases g with⟨e,he,rfl,rfl⟩|⟨n,m,he,rfl,rfl⟩
 ·refine e_ mv (e_ exr (e_ exr (e_ asn (e_ asn (on_ (qn_ (ws_ (ws_ (wr_ (e_ mv ?_))))))))));refine e_ (de rfl) ?_;refine gk (k:=ift (k:=gR ?_));exact⟨_,hsb,.inl ⟨e,by rw[k8,he],rfl,rfl⟩⟩
 obtain⟨q1,c,q3,q4⟩:=jA (λx hx=>a x (Yp hx)) he;rw[Yo]at c;refine e_ mv (e_ exr (e_ exr (e_ asn (e_ asn (on_ (qn_ (ws_ (ws_ (wr_ (e_ mv ?_))))))))));refine e_ (cK rfl) ?_;refine on_ (qn_ (iff_ (k:=wk_ (qn_ (ws_ (ws_ (wr_ ?_)))))));refine mA b λs=>?_;refine e_ mv (e_ nck (e_ fla ?_));refine d1_ rfl (left a8) (e_ mv (e_ ilt (on_ (qn_ (wi_ (k:=λh1=>?_) (m:=λh1=>?_))))))
 ·refine ws_ (wr_ (e_ mv (e_ mv (e_ nck (e_ fla (e_ fla (sto (k:=on_ (qn_ (ws_ ?_))))))))));refine cZ cN (gR ?_);exact⟨_,hsb,.inl ⟨2,by rw[k8,he];simp only[];rw[if_pos bj],rfl,rfl⟩⟩
 refine go ?_;refine cZ cN ?_;have hcut:Sl (Vr b [.int .i64 (((k+m:Nat):Int)+(n:Int)),iN xs.length,s.val]::Row s eB xs::R) (s.cut 1 (k+m) (k+m+n)) eB ((xs.take (k+m+n)).drop (k+m)):=Sl.cut (e:=eB) inferInstance a8 a8;have d:(xs.take (k+m+n)).drop (k+m)=((xs.drop k).drop m).take n:=by rw[Vm,R8,show k+m+n-(k+m)=n from a8]
 refine as_ 0 (q:=mv) (k:=as_ 1 (q:=nck) (k:=as_ 2 (q:=fla) (k:=as_ 3 (q:=ldv) (k:=as_ 4 (q:=mv) (k:=as_ 5 (q:=nck) (k:=as_ 6 (q:=fla) (k:=as_ 7 (q:=fla) (k:=as_ 8 (q:=ldv) (k:=as_ 9 (q:=mv) (k:=as_ 10 (q:=isb) (k:=as_ 11 (q:=mv) (k:=as_ 12 (q:=nck) (k:=as_ 13 (q:=fla) (k:=?_))))))))))))));refine as_ 14 (q:=fla) (k:=as_ 15 (q:=ldv) (k:=?_));refine cO 16 rfl rfl aa rfl (df (fA rfl bA (k+m) (k+m+n) ⟨_,_,rfl,a8⟩ ⟨_,_,rfl,a8⟩ a8 a8)) ?_;refine cO 17 rfl rfl aa rfl (df (dX rfl)) ?_;refine gR ?_;exact⟨Rd b (xs,k+(m+n))::R,by rw[←Vz];exact hsb,.inr ⟨((xs.drop k).drop m).take n,m+n,by rw[k8,he];simp only[];rw[if_neg bj],by rw[d];all_goals rfl,rfl⟩⟩
end
section
variable {G:cJ}{xs:List Nat}
def lH:Nat→Int→List Nat→Except Nat (List Int×Nat)
 | 0,_,_=>.ok ([],0)
 |n+1,last,l=>
  match j4 0 l with
  | .error e=>.error e
  | .ok (v,m)=>if 9223372036854775806-last<(v:Int)then .error 4 else
   match lH n (last+v+1) (l.drop m)with
   | .error e=>.error e
   | .ok (r,m')=>.ok ((last+v+1)::r,m+m')
def fe (most:Nat) (l:List Nat):Except Nat (List Int×Nat):=
 match fZ most l with
 | .error e=>.error e
 | .ok (n,m)=>
  match lH n (-1) (l.drop m)with
  | .error e=>.error e
  | .ok (r,m')=>.ok (r,m+m')
def Bs (zs:List Int) (a:Nat):Except Nat (List Int×Nat)→Except Nat (List Int×Nat)
 | .ok (r,m)=>.ok (zs++r,a+m)
 | .error e=>.error e
theorem PQ {H R:cG}{b k most:Nat} [hg:Glb G R] [hr:Rem H Rd b (xs,k) R] (hk:k≤xs.length) (w:xs.length≤1000000000000) (i:∀x∈xs,x<256) (hm:most≤1000000000000):SC G prog 248 [pA b,iN most] H (λv z=>
 (∃e F,fe most (xs.drop k)=.error e∧v=.tuple #[.slice none 0 0,G.err e]∧z=Rd b (xs,F)::R)∨(∃l m,∃u:SV,fe most (xs.drop k)=.ok (l,m)∧v=.tuple #[u.val,.nilIface]∧z=Row u eI l::Rd b (xs,k+m)::R)):=by
 refine SC.rem (h:=hr) ?_;refine sWk func248 ?_;refine go ?_;refine c2_ rfl (xH hk w i a8) ?_;rintro A K t;rcases t with⟨e,he,rfl,rfl⟩|⟨n,m,he,rfl,rfl⟩
 ·refine e_ mv (e_ exr (e_ exr (e_ asn (e_ asn (on_ (qn_ (ws_ (ws_ (wr_ (e_ mv ?_))))))))));refine e_ (de rfl) ?_;refine gk (k:=ift (k:=gR ?_));exact⟨_,hsb,.inl ⟨e,_,by rw[fe,he],rfl,rfl⟩⟩
 obtain⟨q1,C,q3,q4⟩:=jA (λx hx=>i x (Yp hx)) he;rw[Yo]at C;refine e_ mv (e_ exr (e_ exr (e_ asn (e_ asn (on_ (qn_ (ws_ (ws_ (wr_ (e_ mv ?_))))))))));refine e_ (cK rfl) ?_;refine gk (k:=iff_ (k:=go ?_));refine gk (k:=wl_ (SV×Nat×Int×List Int×Nat) (λy=>y.2.1≤n∧ -1≤y.2.2.1∧y.2.2.1≤9223372036854775807∧k+m+y.2.2.2.2≤xs.length∧y.2.2.2.1.length=y.2.1∧lH n (-1) (xs.drop (k+m))=Bs y.2.2.2.1 y.2.2.2.2 (lH (n-y.2.1) y.2.2.1 (xs.drop (k+m+y.2.2.2.2)))) (λy=>[(0,pA b),(8,y.1.val),(9,.int .i64 y.2.2.1),(21,iN n),(22,iN y.2.1)]) (λy=>Row y.1 eI y.2.2.2.1::Rd b (xs,k+m+y.2.2.2.2)::R) (λy=>n-y.2.1) ((SV.nil,0, -1, [],0)) (h0:=?_) (k:=?_))
 ·try dsimp only
  refine⟨Yl _,a8,a8,a8,rfl,?_⟩;simp only[Ur,S0];cases lH n (-1) (xs.drop (k+m))with
  |ok p=>simp[Bs]
  |error e=>rfl
 rintro⟨s,j,f,q,a⟩ ⟨hj,hl1,hl2,ha,hz,hI⟩
 try dsimp only at*
 refine gW (λh1=>?_) λh1=>?_
 ·obtain⟨d,hd⟩:∃d,n-j=d+1:=⟨n-j-1,a8⟩;rw[hd,lH]at hI;refine go ?_;refine c1_ rfl (nt ha w i) ?_;rintro A K t;rcases t with⟨e,g,rfl,rfl⟩|⟨v,c,g,rfl,rfl⟩
  all_goals rw[g]at hI
  all_goals simp only[]at hI
  ·refine e_ mv (e_ exr (e_ exr (e_ asn (e_ asn (on_ (qn_ (ws_ (ws_ (wr_ (e_ mv ?_))))))))));refine e_ (de rfl) ?_;refine gk (k:=ift (k:=go ?_));refine gR ?_;exact⟨_,hsb,.inl ⟨e,_,bO,rfl,rfl⟩⟩
  obtain⟨p1,p2,p3,E,p5,p6⟩:=ki _ 0 v c (λx hx=>i x (Yp hx)) a8 g;rw[Yo]at E;refine e_ mv (e_ exr (e_ exr (e_ asn (e_ asn (on_ (qn_ (ws_ (ws_ (wr_ (e_ mv ?_))))))))));refine e_ (cK rfl) ?_;refine on_ (qn_ (iff_ (k:=wk_ (qn_ (ws_ (ws_ (wr_ (e_ mv (e_ ieq (sp_ mv (k:=λh2=>?_) (m:=λh2=>?_)))))))))))
  ·rw[if_pos a8]at hI;refine of_ (of_ (of_ (of_ (of_ (e_ pkt (on_ (qn_ (ift (k:=ws_ ?_)))))))));refine cZ cN (gR ?_);exact⟨_,hsb,.inl ⟨4,_,bO,rfl,rfl⟩⟩
  refine go ?_;refine eg_ (cR 18446744073709551616 rfl rfl rfl (9223372036854775806-f).toNat a8 a8) ?_;refine gW (λh3=>?_) λh3=>?_
  ·rw[if_pos a8]at hI;refine ws_ ?_;refine cZ cN (gR ?_);exact⟨_,hsb,.inl ⟨4,_,bO,rfl,rfl⟩⟩
  rw[if_neg a8]at hI;simp only[Vm]at hI;refine wk_ (qn_ (ws_ (wr_ (e_ mv (e_ mv ?_)))));refine e_ (dL rfl a8) ?_;refine e_ (rN rfl rfl _ rfl) ?_;refine e_ (rN rfl rfl (f+v+1) cr) ?_;refine gk (k:=fX eI (k:=λs1=>?_));refine app (k:=λB=>?_);refine go ?_;refine ln_ ((B,j+1,f+v+1,q++ [f+v+1],a+c)) (h4:=?_) (k:=?_)
  ·try dsimp only
   rw[show k+m+(a+c)=k+m+a+c from a8];exact hsb
  try dsimp only
  refine⟨a8,a8,a8,a8,aH,?_⟩;rw[hI,show n-(j+1)=d from a8,show k+m+(a+c)=k+m+a+c from a8];cases lH d (f+v+1) (xs.drop (k+m+a+c))with
  |error e=>rfl
  |ok p=>
   obtain⟨r,c'⟩:=p;simp only[Bs,Except.ok.injEq,Prod.mk.injEq,Yf,Yd,Ye];exact⟨trivial,a8⟩
 obtain rfl:j=n:=a8;rw[Vw,lH]at hI;have J:fe most (xs.drop k)=.ok (q,m+a):=by
  rw[fe,he];simp only[Vm];rw[hI];simp[Bs]
 refine gR ?_;exact⟨_,hsb,.inr ⟨q,m+a,s,J,rfl,by rw[←Vz]⟩⟩
theorem Ip {H R:cG}{b k most:Nat} [hg:Glb G R] [hr:Rem H Rd b (xs,k) R] (hk:k≤xs.length) (c:xs.length≤1000000000000) (d:∀x∈xs,x<256) (hm:most≤1000000000000):SC G prog 168 [pA b,iN most] H (λv H'=>
 (∃e,fe most (xs.drop k)=.error e∧v=.tuple #[.slice none 0 0,G.err e]∧H'=Rd b (xs,k)::R)∨(∃l m,∃a:SV,fe most (xs.drop k)=.ok (l,m)∧v=.tuple #[a.val,.nilIface]∧H'=Row a eI l::Rd b (xs,k+m)::R)):=by
 refine SC.rem (h:=hr) ?_;refine sWk func168 ?_;refine go ?_;refine mA b λs=>?_;refine go ?_;refine eN (H':=Rd b (xs,k)::R) hsb ?_;refine go ?_;refine c2_ rfl (PQ hk c d hm) ?_;rintro v1 H1 f;rcases f with⟨e,k',he,rfl,rfl⟩|⟨l,m,a,he,rfl,rfl⟩
 ·refine e_ mv (e_ exr (e_ exr (e_ asn (e_ asn (on_ (qn_ (ws_ (ws_ (wr_ (e_ mv ?_))))))))));refine e_ (de rfl) ?_;refine gk (k:=ift (k:=go ?_));refine mA b λs=>?_;refine go ?_;refine gR ?_;exact⟨_,hsb,.inl ⟨e,he,rfl,rfl⟩⟩
 refine e_ mv (e_ exr (e_ exr (e_ asn (e_ asn (on_ (qn_ (ws_ (ws_ (wr_ (e_ mv ?_))))))))));refine e_ (cK rfl) ?_;refine gk (k:=iff_ (k:=gR ?_));exact⟨_,hsb,.inr ⟨l,m,a,he,rfl,rfl⟩⟩
end
section
variable {G:cJ}{b:Nat}{xs:List Nat}
def w32 (x:Nat):List Nat:= [x%256,x/256%256,x/65536%256,x/16777216%256]
theorem Hq (x i:Nat) (hi:i<4):(w32 x)[i]? =some (x/2^(8*i)%256):=by
 match i,hi with
 | 0,_=>simp[w32]
 | 1,_=>simp[w32]
 | 2,_=>simp[w32]
 | 3,_=>simp[w32]
theorem cL {α:Type}{l:List α}{i:Nat}{x:α}(h:l[i]? =some x):l.take (i+1)=l.take i++ [x]:=by
 rw[Ua,h];all_goals rfl
theorem AE {H R:cG} [hr:Rem H Wr b xs R] (x:Nat) (hn:xs.length≤1000000000000):SC G prog 245 [pA b,.int .u32 (x:Int)] H (λv f=>v=.tuple #[]∧f=Wr b (xs++w32 x)::R):=by
 refine sR hr λs=>?_;refine sWk func245 ?_;refine gk (k:=wl_ (SV×Nat×List Nat) (λy=>y.2.2=xs++(w32 x).take y.2.1∧y.2.1≤4) (λy=>[(0,pA b),(1,.int .u32 (x:Int)),(5,iN y.2.1)]) (λy=>Vr b [y.1.val]::Row y.1 eB y.2.2::R) (λy=>4-y.2.1) ((s,0,xs)) (h0:=?_) (k:=?_))
 ·exact⟨ak,Yl _⟩
 rintro⟨s,i,c⟩ ⟨hI,hi⟩
 try dsimp only at*
 have a:=congrArg List.length hI;simp only[Ya,Yg]at a;refine ws_ (wr_ (e_ ilt (on_ (qn_ (ws_ (wi_ (k:=λh1=>?_) (m:=λh1=>?_)))))))
 ·refine wk_ (qn_ (ws_ (wb_ (ws_ (wr_ (e_ mv (e_ asn (on_ (qn_ ?_)))))))));refine wD [10,11,14] (λk H=>(k=4→cY H b [s.val])) (aF 0 (k:=aF 1 (k:=aF 2 (k:=aF 3 (k:=?_)))));refine aN 4 rfl (λH hH=>by have hN:=hH rfl;exact ldv) ?_;refine aF 5 (k:=aF 6 (k:=aF 7 (k:=?_)));refine aN 8 rfl (λH hH=>du rfl rfl x (8*i) rfl a8 (by show 8*i≤32;omega)) ?_;refine aN 9 rfl (λH hH=>(aM)) ?_;refine aS 10 rfl (eC eB rfl rfl) ?_;rintro _ _ ⟨s1,rfl,rfl⟩;refine aS 11 rfl (fw rfl rfl rfl rfl af af) ?_;rintro _ _ ⟨d,rfl,rfl⟩;refine aF 12 (k:=aF 13 (k:=?_));refine aS 14 rfl (db rfl rfl rfl) ?_;rintro _ _ ⟨rfl,rfl⟩;refine aZ (bn_ (qn_ (wr_ (e_ iad (e_ mv (on_ ?_))))));refine lN ((d,i+1,c++ [x/2^(8*i)%256])) ?_
  try dsimp only
  refine⟨?_,a8⟩;rw[hI,cL (Hq x i a8),Yf]
 obtain rfl:i=4:=a8;have e:c=xs++w32 x:=hI;refine gR ?_;exact⟨_,by rw[e];exact hsb,rfl,rfl⟩
theorem DC {H R:cG} [hr:Rem H Wr b xs R] (q:ByteArray) (hn:xs.length≤100000000000) (hq:q.size≤100000000000):SC G prog 234 [pA b,.string q] H (λv a=>v=.tuple #[]∧a=Wr b (xs++(uv q.size++cF q))::R):=by
 have hl:=fQ (n:=q.size) a8;refine SC.rem (h:=hr) ?_;refine sWk func234 ?_;refine ws_ (wr_ (e_ mv (e_ mv (e_ oe ?_))));refine e_ ((ab)) ?_;refine d2_ rfl (eH q.size a8 a8) ?_;refine Fc b λs=>?_;refine go ?_;refine s_ (u9 rfl rfl rfl af af) ?_;rintro _ _ ⟨s1,rfl,rfl⟩;refine gR ?_;exact⟨_,by rw[Yf];exact hsb,rfl,rfl⟩
end
section
variable {p r:Nat}
def bs (p r:Nat):Nat:=if r%2=1 then(r/2) ^^^ p else r/2
def bs4 (p r:Nat):Nat:=bs p (bs p (bs p (bs p r)))
def Jj (p r x:Nat):Nat:=bs4 p (bs4 p (r ^^^ x))
def wL (p r:Nat) (l:List Nat):Nat:=l.foldl (Jj p) r
def oY:Nat:=3988292384
def mY:Nat:=2197175160
def rp (l:List Nat):Nat:=4294967295 ^^^ wL oY 4294967295 l
def sQ (l:List Nat):Nat:=4294967295 ^^^ wL mY 4294967295 l
theorem Mz (p a b:Nat):bs p (a ^^^ b)=bs p a ^^^ bs p b:=by
 have h1:(a ^^^ b)/2=a/2 ^^^ b/2:=Nat.xor_div_two_pow (n:=1);have h2:(a ^^^ b)%2=(a%2) ^^^ (b%2):=Nat.xor_mod_two_pow (n:=1);unfold bs;rw[h1,h2];rcases Nat.mod_two_eq_zero_or_one a with ha|ha <;> rcases Nat.mod_two_eq_zero_or_one b with hb|hb <;> rw[ha,hb]
 ·simp
 ·simp[P0]
 ·simp only[Nat.xor_zero,↓reduceIte,Nat.zero_ne_one];rw[P0,Nat.xor_comm (b/2) p,←P0]
 ·simp only[Nat.xor_self,Nat.zero_ne_one,↓reduceIte];rw[P0,←P0 p,Nat.xor_comm p,P0 (b/2),Nat.xor_self,Nat.xor_zero]
theorem Jo (p a b:Nat):bs4 p (a ^^^ b)=bs4 p a ^^^ bs4 p b:=by simp only[bs4,Mz]
theorem rS (p q:Nat):bs p (2*q)=q:=by unfold bs;rw[if_neg a8];omega
theorem MA (p q:Nat):bs4 p (16*q)=q:=by
 unfold bs4;rw[show 16*q=2*(2*(2*(2*q)))from a8,rS,rS,rS,rS]
theorem Ia (r:Nat):r=(16*(r/16)) ^^^ (r%16):=by
 have h:(r/16) <<< 4+r%16=(r/16) <<< 4 |||r%16:=Nat.shiftLeft_add_eq_or_of_lt (Um r ae) _;have h2:(r/16) <<< 4=16*(r/16):=by rw[Nat.shiftLeft_eq];omega
 rw[h2]at h;have h3:16*(r/16)+r%16=r:=Q8 r 16;have h4:(16*(r/16)) ^^^ (r%16)=(16*(r/16)) |||(r%16):=by
  apply Nat.eq_of_testBit_eq;intro i;rw[Nat.testBit_xor,Nat.testBit_or,show 16*(r/16)=2^4*(r/16)from rfl,show r%16=r%2^4 from rfl,Nat.testBit_two_pow_mul,Nat.testBit_mod_two_pow]
  by_cases hi:i<4
  ·simp[hi,show ¬(4≤i)from a8]
  ·simp[hi]
 rw[h4,←h,h3]
theorem nib (p r:Nat):(r/2^4) ^^^ bs4 p (r%16)=bs4 p r:=by
 conv=>rhs;rw[Ia r]
 rw[Jo,MA]
theorem BI (hp:p<4294967296) (hr:r<4294967296):bs p r<4294967296:=by
 unfold bs
 split
 ·exact Q0 (n:=32) a8 hp
 ·omega
theorem lx (hp:p<4294967296) (hr:r<4294967296):bs4 p r<4294967296:=BI hp (BI hp (BI hp (BI hp hr)))
theorem rX {a b:Nat}(ha:a<4294967296) (c:b<4294967296):a ^^^ b<4294967296:=Q0 (n:=32) ha c
theorem Ji {x:Nat}(hp:p<4294967296) (hr:r<4294967296) (hx:x<256):Jj p r x<4294967296:=lx hp (lx hp (rX hr a8))
theorem rP (hp:p<4294967296):∀(l:List Nat) (r:Nat),r<4294967296→(∀x∈l,x<256)→wL p r l<4294967296
 | [],r,hr,_=>hr
 |x::l,r,hr,hb=>rP hp l (Jj p r x) (Ji hp hr (hb x ak)) (λy hy=>hb y (by simp[hy]))
theorem vx (p r:Nat) (l:List Nat) (x:Nat):wL p r (l++ [x])=Jj p (wL p r l) x:=by simp[wL]
theorem vF (r:Nat):r &&& 15=r%16:=V6 r 4
def md:List Nat:= [0,0x1db71064,0x3b6e20c8,0x26d930ac,0x76dc4190,0x6b6b51f4,0x4db26158,0x5005713c,0xedb88320,0xf00f9344,0xd6d6a3e8,0xcb61b38c,0x9b64c2b0,0x86d3d2d4,0xa00ae278,0xbdbdf21c]
def l7:List Nat:= [0,0x105ec76f,0x20bd8ede,0x30e349b1,0x417b1dbc,0x5125dad3,0x61c69362,0x7198540d,0x82f63b78,0x92a8fc17,0xa24bb5a6,0xb21572c9,0xc38d26c4,0xd3d3e1ab,0xe330a81a,0xf36e6f75]
theorem Hh:∀i:Fin 16,md[i.val]? =some (bs4 oY i.val):=ao
theorem EE:∀i:Fin 16,l7[i.val]? =some (bs4 mY i.val):=ao
theorem Ay (r:Nat):(md.map λn=>Value.int .u32 ((n:Nat):Int))[0+(r &&& 15)*1]? =some (.int .u32 ((bs4 oY (r%16):Nat):Int)):=by
 rw[Vf,R6,vF,Xd,Hh ⟨r%16,a8⟩];all_goals rfl
theorem xz (r:Nat):(l7.map λn=>Value.int .u32 ((n:Nat):Int))[0+(r &&& 15)*1]? =some (.int .u32 ((bs4 mY (r%16):Nat):Int)):=by
 rw[Vf,R6,vF,Xd,EE ⟨r%16,a8⟩];all_goals rfl
theorem NQ {G:cJ}{H:cG}{s:SV}{xs:List Nat} [Tab H 43 md] [Sl H s eB xs] (a:Nat) (hr:a<4294967296) (hn:xs.length≤1000000000000) (g:∀x∈xs,x<256):SC G prog 372 [.int .u32 (a:Int),s.val] H (λv h=>v=.int .u32 ((wL oY a xs:Nat):Int)∧h=H):=by
 refine sWk func372 ?_;refine go ?_;refine wl_ (Nat×Nat) (λy=>y.1≤xs.length∧y.2=wL oY a (xs.take y.1)∧y.2<4294967296) (λy=>[(0,.int .u32 ((y.2:Nat):Int)),(7,s.val),(8,iN xs.length),(9,iN y.1)]) (λ_=>H) (λy=>xs.length-y.1) ((0,a)) (h0:=?_) (k:=?_)
 ·exact⟨Yl _,rfl,hr⟩
 rintro⟨i,r⟩ ⟨hi,hI,b⟩
 try dsimp only at*
 refine gW (λh1=>?_) λh1=>?_
 ·obtain⟨x,hx⟩:=gE xs i;have hxb:=g x (Yj hx);have f:r ^^^ x<4294967296:=rX b a8;have e:=Ay (r ^^^ x);have h2b:bs4 oY ((r ^^^ x)%16)<4294967296:=lx ae a8;have d:bs4 oY (r ^^^ x)<4294967296:=lx ae f;have c:=Ay (bs4 oY (r ^^^ x));have h3b:bs4 oY (bs4 oY (r ^^^ x)%16)<4294967296:=lx ae a8;refine wk_ (qn_ (ws_ (wb_ (ws_ (wr_ (e_ ixa (e_ lel (e_ asn (on_ (qn_ (ws_ (wr_ (e_ mv ?_)))))))))))));refine e_ mv ?_;refine e_ ((au)) ?_;refine e_ (lf 4294967296 rfl rfl rfl rfl _ _ rfl rfl aj aj) ?_;refine e_ asn (on_ (qn_ (ws_ (wr_ (e_ mv ?_)))));refine e_ (du rfl rfl _ 4 rfl rfl bT) ?_;refine e_ mv ?_;refine e_ (gn 4294967296 rfl rfl rfl rfl _ 15 rfl rfl aj aj) ?_;refine e_ (gM rfl rfl ((r ^^^ x) &&& 15) rfl (by rw[vF];omega)) ?_;refine e_ (mN rfl e) ?_;refine e_ (lf 4294967296 rfl rfl rfl rfl _ _ rfl rfl aj aj) ?_;refine e_ asn (on_ (qn_ (wr_ ?_)));rw[nib];refine e_ mv ?_;refine e_ (du rfl rfl _ 4 rfl rfl bT) ?_;refine e_ mv ?_;refine e_ (gn 4294967296 rfl rfl rfl rfl _ 15 rfl rfl aj aj) ?_;refine e_ (gM rfl rfl (bs4 oY (r ^^^ x) &&& 15) rfl (by rw[vF];omega)) ?_;refine e_ (mN rfl c) ?_;refine e_ (lf 4294967296 rfl rfl rfl rfl _ _ rfl rfl aj aj) ?_;refine e_ asn (on_ (bn_ (qn_ (wr_ ?_))));rw[nib];refine go ?_;refine lN ((i+1,bs4 oY (bs4 oY (r ^^^ x)))) ?_
  try dsimp only
  refine⟨a8,?_,lx ae d⟩;rw[cL hx,vx,←hI];all_goals rfl
 obtain rfl:i=xs.length:=a8;rw[Xk]at hI;refine gR ?_;exact⟨_,cH.refl,by rw[hI];all_goals rfl,rfl⟩
end
section
variable {G:cJ}{H:cG}{s:SV}{xs:List Nat}
theorem EH [Tab H 33 l7] [Sl H s eB xs] (hn:xs.length≤1000000000000) (f:∀x∈xs,x<256):SC G prog 163 [s.val] H (λv g=>v=.int .u32 ((sQ xs:Nat):Int)∧g=H):=by
 refine sWk func163 ?_;refine go ?_;refine gk (k:=wl_ (Nat×Nat) (λy=>y.1≤xs.length∧y.2=wL mY 4294967295 (xs.take y.1)∧y.2<4294967296) (λy=>[(3,.int .u32 ((y.2:Nat):Int)),(6,s.val),(7,iN xs.length),(8,iN y.1)]) (λ_=>H) (λy=>xs.length-y.1) ((0,4294967295)) (h0:=?_) (k:=?_))
 ·exact⟨Yl _,rfl,a8⟩
 rintro⟨i,r⟩ ⟨hi,hI,a⟩
 try dsimp only at*
 refine gW (λh1=>?_) λh1=>?_
 ·obtain⟨x,hx⟩:=gE xs i;have hxb:=f x (Yj hx);have e:r ^^^ x<4294967296:=rX a a8;have d:=xz (r ^^^ x);have h2b:bs4 mY ((r ^^^ x)%16)<4294967296:=lx ae a8;have c:bs4 mY (r ^^^ x)<4294967296:=lx ae e;have b:=xz (bs4 mY (r ^^^ x));have h3b:bs4 mY (bs4 mY (r ^^^ x)%16)<4294967296:=lx ae a8;refine wk_ (qn_ (ws_ (wb_ (ws_ (wr_ (e_ ixa (e_ lel (e_ asn (on_ (qn_ (ws_ (wr_ (e_ mv ?_)))))))))))));refine e_ mv ?_;refine e_ ((au)) ?_;refine e_ (lf 4294967296 rfl rfl rfl rfl _ _ rfl rfl aj aj) ?_;refine e_ asn (on_ (qn_ (ws_ (wr_ (e_ mv ?_)))));refine e_ (du rfl rfl _ 4 rfl rfl bT) ?_;refine e_ mv ?_;refine e_ (gn 4294967296 rfl rfl rfl rfl _ 15 rfl rfl aj aj) ?_;refine e_ (gM rfl rfl ((r ^^^ x) &&& 15) rfl (by rw[vF];omega)) ?_;refine e_ (mN rfl d) ?_;refine e_ (lf 4294967296 rfl rfl rfl rfl _ _ rfl rfl aj aj) ?_;refine e_ asn (on_ (qn_ (wr_ ?_)));rw[nib];refine e_ mv ?_;refine e_ (du rfl rfl _ 4 rfl rfl bT) ?_;refine e_ mv ?_;refine e_ (gn 4294967296 rfl rfl rfl rfl _ 15 rfl rfl aj aj) ?_;refine e_ (gM rfl rfl (bs4 mY (r ^^^ x) &&& 15) rfl (by rw[vF];omega)) ?_;refine e_ (mN rfl b) ?_;refine e_ (lf 4294967296 rfl rfl rfl rfl _ _ rfl rfl aj aj) ?_;refine e_ asn (on_ (bn_ (qn_ (wr_ ?_))));rw[nib];refine go ?_;refine lN ((i+1,bs4 mY (bs4 mY (r ^^^ x)))) ?_
  try dsimp only
  refine⟨a8,?_,lx ae c⟩;rw[cL hx,vx,←hI];all_goals rfl
 obtain rfl:i=xs.length:=a8;rw[Xk]at hI;refine we_ (qe_ (le_ (bh_ (qn_ (ws_ (wr_ (e_ mv ?_)))))));refine e_ (rM 4294967296 rfl rfl rfl _ rfl a8) ?_;refine gR ?_;exact⟨_,cH.refl,by rw[hI];all_goals rfl,rfl⟩
theorem IX [Tab H 43 md] [Sl H s eB xs] (b:xs.length≤1000000000000) (a:∀x∈xs,x<256):SC G prog 346 [.int .u32 0,s.val] H (λv d=>v=.int .u32 ((rp xs:Nat):Int)∧d=H):=by
 have c:=rP (p:=oY) ae xs 4294967295 ae a;refine sWk func346 ?_;refine ws_ (wr_ (e_ asn (on_ (qn_ (ws_ (wr_ (e_ mv ?_)))))));refine e_ (rM 4294967296 rfl rfl rfl 0 rfl a8) (go ?_);refine d2_ rfl (NQ 4294967295 ae b a) ?_;refine e_ (rM 4294967296 rfl rfl rfl _ rfl c) ?_;refine gR ?_;exact⟨_,cH.refl,rfl,rfl⟩
theorem JC [Tab H 43 md] [Sl H s eB xs] (a:xs.length≤1000000000000) (b:∀x∈xs,x<256):SC G prog 300 [s.val] H (λv c=>v=.int .u32 ((rp xs:Nat):Int)∧c=H):=by
 refine sWk func300 ?_;refine go ?_;refine d2_ rfl (IX a b) (gR ?_);exact⟨_,hsb,rfl,rfl⟩
end
end Go.Sx
