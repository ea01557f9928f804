import Derived.Test.YtcokhbglfaakjaaGreatDoorQ5
set_option linter.all false
set_option maxHeartbeats 0
namespace Go.Sx
open Go Go.Proofs Tryz
set_option maxRecDepth 100000
theorem oG {G:dJ}{H R:dD}{b k:Nat}{xs:List Nat} [hg:Glb G R] [hr:Rem H Rd b (xs,k) R] (hk:k≤xs.length) (hn:xs.length≤1000000000000) (h:∀x∈xs,x<256):SC G prog 85 [pA b] H (λv g=>
 (∃e,iz 0 (xs.drop k)=.error e∧v=.tuple #[.int .u64 0,G.err e]∧g=Rd b (xs,k)::R)∨(∃n m,iz 0 (xs.drop k)=.ok (n,m)∧v=.tuple #[uN n,.nilIface]∧g=Rd b (xs,k+m)::R)):=by
 refine Cn hr λs=>?_;refine sWk func85 ?_;refine go ?_;refine gk (k:=wl_ (Nat×Nat) (λy=>y.1≤9∧k+y.1≤xs.length∧y.2<2^(7*y.1)∧iz 0 (xs.drop k)=Px y.2 y.1 (iz y.1 (xs.drop (k+y.1)))) (λy=>[(0,pA b),(4,uN y.2),(5,iN y.1)]) (λ_=>Vr b [iN k,iN xs.length,s.val]::Row s eB xs::R) (λy=>xs.length-y.1) ((0,0)) (h0:=?_) (k:=?_))
 ·try dsimp only
  refine⟨Yl _,hk,ae,?_⟩;rw[X6];cases iz 0 (xs.drop k)with
  |ok p=>simp[Px]
  |error e=>rfl
 rintro⟨i,v⟩ ⟨hi,hki,hv,hI⟩
 try dsimp only at*
 refine go ?_;refine d1_ rfl (left a8) (gW (λh1=>?_) (λh1=>?_))
 ·have l:iz 0 (xs.drop k)=.error 2:=by rw[hI,Vn a8];all_goals rfl
  refine ws_ ?_;refine dX dN (gR ?_);exact⟨_,hsb,.inl ⟨2,l,rfl,rfl⟩⟩
 obtain⟨x,hx⟩:=gE xs (k+i);have hxb:=h x (Yj hx);have hd:xs.drop (k+i)=x::xs.drop (k+(i+1)):=eh hx;rw[hd,iz]at hI;refine go ?_;refine dX dN (as_ 0 (q:=mv) (k:=as_ 1 (q:=nck) (k:=as_ 2 (q:=fla) (k:=as_ 3 (q:=ldv) (k:=as_ 4 (q:=mv) (k:=as_ 5 (q:=nck) (k:=as_ 6 (q:=fla) (k:=as_ 7 (q:=fla) (k:=as_ 8 (q:=ldv) (k:=as_ 9 (q:=mv) (k:=as_ 10 (q:=iad) (k:=?_))))))))))));refine dS 11 rfl rfl aa rfl (ey (er rfl rfl (k+i) a8 a8)) ?_;refine as_ 12 (q:=lel) (k:=as_ 13 (q:=asn) (k:=az_ (k:=qn_ (ws_ (ws_ (wr_ (e_ mv (e_ ieq (sp_ mv (k:=λh2=>?_) (m:=λh2=>?_))))))))))
 ·refine gW (λh3=>?_) λh3=>?_
  ·rw[if_pos a8]at hI;refine ws_ ?_;refine dX dN (gR ?_);exact⟨_,hsb,.inl ⟨3,hI,rfl,rfl⟩⟩
  refine wk_ (qn_ (ws_ (wr_ ?_)));rw[if_neg a8]at hI;have a:(x &&& 127)*2^(7*i)<18446744073709551616:=Ch hi a8;have c:x &&& 127≤127:=by rw[lR];omega
  have hor:=N3 hv a;have d:=p7 hi;rw[lR]at hor;refine e_ mv (e_ mv ?_);refine e_ (qd 256 rfl rfl rfl rfl _ 127 rfl rfl ak ak) ?_;refine e_ ((ad)) ?_;refine e_ mv (e_ iml ?_);refine e_ (Bc (k:=.u64) 18446744073709551616 rfl rfl rfl rfl (x &&& 127) (7*i) rfl a8 a) ?_;refine e_ (ku 18446744073709551616 rfl rfl rfl rfl _ _ rfl rfl ak ak) ?_;refine gW (λh4=>?_) λh4=>?_
  ·rw[if_pos a8]at hI;refine go ?_;refine lN ((i+1,v |||(x &&& 127)*2^(7*i))) ?_
   try dsimp only
   have f:2^(7*(i+1))=128*2^(7*i):=by rw[R7,Uz];omega
   have hm:x%128*2^(7*i)≤127*2^(7*i):=Vu _ a8;refine⟨a8,a8,by rw[lR,hor];omega,?_⟩;rw[hI,lR,hor];cases iz (i+1) (xs.drop (k+(i+1)))with
   |error e=>rfl
   |ok p=>
    obtain⟨w,n⟩:=p;simp only[Px,Except.ok.injEq,Prod.mk.injEq];refine⟨?_,a8⟩;rw[f,Vy,V5 128 w,V3];omega
  rw[if_neg a8]at hI;refine wk_ (qn_ (ws_ (ws_ (wr_ (e_ mv (e_ ieq (sp_ mv (k:=λh5=>?_) (m:=λh5=>?_))))))))
  ·refine gW (λh6=>?_) λh6=>?_
   ·rw[if_pos a8]at hI;refine ws_ ?_;refine dX dN (gR ?_);exact⟨_,hsb,.inl ⟨3,hI,rfl,rfl⟩⟩
   refine wk_ (qn_ (ws_ (wr_ ?_)));rw[if_neg a8]at hI;refine go ?_;refine gR ?_;have hI':iz 0 (xs.drop k)=.ok (v |||(x &&& 127)*2^(7*i),i+1):=bF;exact⟨_,hsb,.inr ⟨_,_,hI',rfl,rfl⟩⟩
  refine of_ (of_ (e_ pkf (on_ (qn_ (fM (k:=wk_ (qn_ (ws_ (wr_ ?_)))))))));rw[if_neg a8]at hI;refine go ?_;refine gR ?_;have hI':iz 0 (xs.drop k)=.ok (v |||(x &&& 127)*2^(7*i),i+1):=bF;exact⟨_,hsb,.inr ⟨_,_,hI',rfl,rfl⟩⟩
 refine of_ (of_ (e_ pkf (on_ (qn_ (fM (k:=wk_ (qn_ (ws_ (wr_ ?_)))))))));rw[if_neg a8]at hI;have a:(x &&& 127)*2^(7*i)<18446744073709551616:=Ch hi a8;have c:x &&& 127≤127:=by rw[lR];omega
 have hor:=N3 hv a;have d:=p7 hi;rw[lR]at hor;refine e_ mv (e_ mv ?_);refine e_ (qd 256 rfl rfl rfl rfl _ 127 rfl rfl ak ak) ?_;refine e_ ((ad)) ?_;refine e_ mv (e_ iml ?_);refine e_ (Bc (k:=.u64) 18446744073709551616 rfl rfl rfl rfl (x &&& 127) (7*i) rfl a8 a) ?_;refine e_ (ku 18446744073709551616 rfl rfl rfl rfl _ _ rfl rfl ak ak) ?_;refine gW (λj=>?_) λj=>?_
 ·rw[if_pos a8]at hI;refine go ?_;refine lN ((i+1,v |||(x &&& 127)*2^(7*i))) ?_
  try dsimp only
  have f:2^(7*(i+1))=128*2^(7*i):=by rw[R7,Uz];omega
  have hm:x%128*2^(7*i)≤127*2^(7*i):=Vu _ a8;refine⟨a8,a8,by rw[lR,hor];omega,?_⟩;rw[hI,lR,hor];cases iz (i+1) (xs.drop (k+(i+1)))with
  |error e=>rfl
  |ok p=>
   obtain⟨w,n⟩:=p;simp only[Px,Except.ok.injEq,Prod.mk.injEq];refine⟨?_,a8⟩;rw[f,Vy,V5 128 w,V3];omega
 rw[if_neg a8]at hI;refine wk_ (qn_ (ws_ (ws_ (wr_ (e_ mv (e_ ieq (sp_ mv (k:=λh8=>?_) (m:=λh8=>?_))))))))
 ·refine gW (λh9=>?_) λh9=>?_
  ·rw[if_pos a8]at hI;refine ws_ ?_;refine dX dN (gR ?_);exact⟨_,hsb,.inl ⟨3,hI,rfl,rfl⟩⟩
  refine wk_ (qn_ (ws_ (wr_ ?_)));rw[if_neg a8]at hI;refine go ?_;refine gR ?_;have hI':iz 0 (xs.drop k)=.ok (v |||(x &&& 127)*2^(7*i),i+1):=bF;exact⟨_,hsb,.inr ⟨_,_,hI',rfl,rfl⟩⟩
 refine of_ (of_ (e_ pkf (on_ (qn_ (fM (k:=wk_ (qn_ (ws_ (wr_ ?_)))))))));rw[if_neg a8]at hI;refine go ?_;refine gR ?_;have hI':iz 0 (xs.drop k)=.ok (v |||(x &&& 127)*2^(7*i),i+1):=bF;exact⟨_,hsb,.inr ⟨_,_,hI',rfl,rfl⟩⟩
section
variable {G:dJ}{most:Nat}{xs:List Nat}
def iH (most:Nat) (l:List Nat):Except Nat (Nat×Nat):=
 match iz 0 l with
 | .error e=>.error e
 | .ok (v,n)=>if most<v then .error 4 else .ok (v,n)
theorem lL {l:List Nat}{v n:Nat}(c:∀x∈l,x<256) (h:iH most l=.ok (v,n)):v≤most∧n≤l.length∧l.take n=uv v∧1≤n:=by
 unfold iH at h
 split at h
 ·cases h
 ·rename_i a b hr
  split at h
  ·cases h
  ·simp only[Except.ok.injEq,Prod.mk.injEq]at h;obtain⟨rfl,rfl⟩:=h;obtain⟨h1,h2,h3,h4,h5,h6⟩:=k7 l 0 a b c a8 hr;exact⟨a8,h4,h5,h2⟩
theorem Cv {H R:dD}{b k:Nat} [hg:Glb G R] [hr:Rem H Rd b (xs,k) R] (hk:k≤xs.length) (hn:xs.length≤1000000000000) (a:∀x∈xs,x<256) (hm:most≤4611686018427387904):SC G prog 176 [pA b,iN most] H (λv H'=>
 (∃e,iH most (xs.drop k)=.error e∧v=.tuple #[.int .i64 0,G.err e]∧H'=Rd b (xs,k)::R)∨(∃n m,iH most (xs.drop k)=.ok (n,m)∧v=.tuple #[iN n,.nilIface]∧H'=Rd b (xs,k+m)::R)):=by
 refine SC.rem (h:=hr) ?_;refine sWk func176 ?_;refine go ?_;refine pO b λs=>?_;refine go ?_;refine eu (H':=Rd b (xs,k)::R) hsb ?_;refine go ?_;refine c1_ rfl (oG hk hn a) ?_;rintro v1 H1 d;rcases d with⟨e,he,rfl,rfl⟩|⟨n,m,he,rfl,rfl⟩
 ·refine e_ mv (e_ exr (e_ exr (e_ asn (e_ asn (on_ (qn_ (ws_ (ws_ (wr_ (e_ mv ?_))))))))));refine e_ (eg rfl) ?_;refine gk (k:=ift (k:=gR ?_));exact⟨_,hsb,.inl ⟨e,by rw[iH,he],rfl,rfl⟩⟩
 obtain⟨q1,q2,q3,c,q5,q6⟩:=k7 _ 0 n m (λx hx=>a x (Yp hx)) a8 he;rw[Yo]at c;refine e_ mv (e_ exr (e_ exr (e_ asn (e_ asn (on_ (qn_ (ws_ (ws_ (wr_ (e_ mv ?_))))))))));refine e_ (dL rfl) ?_;refine gk (k:=fM (k:=wk_ (qn_ (ws_ (ws_ (wr_ (e_ mv (e_ ilt (sp_ mv (k:=λh1=>?_) (m:=λh1=>?_))))))))))
 ·exfalso;omega
 refine eg_ mv (eg_ mv ?_);refine eg_ ((ad)) ?_;refine eg_ igt (e_ pkf (on_ (qn_ (wi_ (k:=λh2=>?_) (m:=λh2=>?_)))))
 ·refine ws_ (wr_ ?_);refine pO b λs=>?_;refine e_ mv (e_ mv (e_ nck (e_ fla (e_ fla (sto (k:=on_ (qn_ (ws_ ?_))))))));refine dX dN (gR ?_);exact⟨_,hsb,.inl ⟨4,by rw[iH,he];simp only[];rw[if_pos a8],rfl,rfl⟩⟩
 refine wk_ (qn_ (ws_ (wr_ (e_ mv ?_))));refine e_ (ew rfl a8) ?_;refine gR ?_;exact⟨_,hsb,.inr ⟨n,m,by rw[iH,he];simp only[];rw[if_neg a8],rfl,rfl⟩⟩
def mq (most:Nat) (l:List Nat):Except Nat (List Nat×Nat):=
 match iH most l with
 | .error e=>.error e
 | .ok (n,m)=>if l.length-m<n then .error 2 else .ok ((l.drop m).take n,m+n)
theorem QR {H R:dD}{b k:Nat} [hg:Glb G R] [hr:Rem H Rd b (xs,k) R] (hk:k≤xs.length) (hn:xs.length≤1000000000000) (a:∀x∈xs,x<256) (hm:most≤4611686018427387904):SC G prog 177 [pA b,iN most] H (λv H'=>
 (∃e,mq most (xs.drop k)=.error e∧v=.tuple #[.string ByteArray.empty,G.err e]∧H'=Rd b (xs,k)::R)∨(∃q m,mq most (xs.drop k)=.ok (q,m)∧v=.tuple #[.string (eG q),.nilIface]∧H'=Rd b (xs,k+m)::R)):=by
 refine SC.rem (h:=hr) ?_;refine sWk func177 ?_;refine go ?_;refine pO b λs=>?_;refine go ?_;refine eu (H':=Rd b (xs,k)::R) hsb ?_;refine go ?_;refine c2_ rfl (Cv hk hn a hm) ?_;rintro v1 H1 f;rcases f with⟨e,he,rfl,rfl⟩|⟨n,m,he,rfl,rfl⟩
 ·refine e_ mv (e_ exr (e_ exr (e_ asn (e_ asn (on_ (qn_ (ws_ (ws_ (wr_ (e_ mv ?_))))))))));refine e_ (eg rfl) ?_;refine gk (k:=ift (k:=gR ?_));exact⟨_,hsb,.inl ⟨e,by rw[mq,he],rfl,rfl⟩⟩
 obtain⟨q1,c,q3,q4⟩:=lL (λx hx=>a x (Yp hx)) he;rw[Yo]at c;refine e_ mv (e_ exr (e_ exr (e_ asn (e_ asn (on_ (qn_ (ws_ (ws_ (wr_ (e_ mv ?_))))))))));refine e_ (dL rfl) ?_;refine on_ (qn_ (fM (k:=wk_ (qn_ (ws_ (ws_ (wr_ ?_)))))));refine pO b λs=>?_;refine e_ mv (e_ nck (e_ fla ?_));refine d1_ rfl (left a8) (e_ mv (e_ ilt (on_ (qn_ (wi_ (k:=λh1=>?_) (m:=λh1=>?_))))))
 ·refine ws_ (wr_ (e_ mv (e_ mv (e_ nck (e_ fla (e_ fla (sto (k:=on_ (qn_ (ws_ ?_))))))))));refine dX dN (gR ?_);exact⟨_,hsb,.inl ⟨2,by rw[mq,he];simp only[];rw[if_pos ba],rfl,rfl⟩⟩
 refine go ?_;refine dX dN ?_;have hcut:Sl (Vr b [.int .i64 (((k+m:Nat):Int)+(n:Int)),iN xs.length,s.val]::Row s eB xs::R) (s.cut 1 (k+m) (k+m+n)) eB ((xs.take (k+m+n)).drop (k+m)):=Sl.cut (e:=eB) inferInstance a8 a8;have d:(xs.take (k+m+n)).drop (k+m)=((xs.drop k).drop m).take n:=by rw[Vt,List.drop_take,show k+m+n-(k+m)=n from a8]
 refine as_ 0 (q:=mv) (k:=as_ 1 (q:=nck) (k:=as_ 2 (q:=fla) (k:=as_ 3 (q:=ldv) (k:=as_ 4 (q:=mv) (k:=as_ 5 (q:=nck) (k:=as_ 6 (q:=fla) (k:=as_ 7 (q:=fla) (k:=as_ 8 (q:=ldv) (k:=as_ 9 (q:=mv) (k:=as_ 10 (q:=isb) (k:=as_ 11 (q:=mv) (k:=as_ 12 (q:=nck) (k:=as_ 13 (q:=fla) (k:=?_))))))))))))));refine as_ 14 (q:=fla) (k:=as_ 15 (q:=ldv) (k:=?_));refine dS 16 rfl rfl aa rfl (ey (fV rfl bH (k+m) (k+m+n) ⟨_,_,rfl,a8⟩ ⟨_,_,rfl,a8⟩ a8 a8)) ?_;refine dS 17 rfl rfl aa rfl (ey (fx rfl)) ?_;refine gR ?_;exact⟨Rd b (xs,k+(m+n))::R,by rw[←V0];exact hsb,.inr ⟨((xs.drop k).drop m).take n,m+n,by rw[mq,he];simp only[];rw[if_neg ba],by rw[d];all_goals rfl,rfl⟩⟩
end
section
variable {G:dJ}{xs:List Nat}
def oF:Nat→Int→List Nat→Except Nat (List Int×Nat)
 | 0,_,_=>.ok ([],0)
 |n+1,last,l=>
  match iz 0 l with
  | .error e=>.error e
  | .ok (v,m)=>if 9223372036854775806-last<(v:Int)then .error 4 else
   match oF n (last+v+1) (l.drop m)with
   | .error e=>.error e
   | .ok (r,m')=>.ok ((last+v+1)::r,m+m')
def gF (most:Nat) (l:List Nat):Except Nat (List Int×Nat):=
 match iH most l with
 | .error e=>.error e
 | .ok (n,m)=>
  match oF n (-1) (l.drop m)with
  | .error e=>.error e
  | .ok (r,m')=>.ok (r,m+m')
def GV (zs:List Int) (a:Nat):Except Nat (List Int×Nat)→Except Nat (List Int×Nat)
 | .ok (r,m)=>.ok (zs++r,a+m)
 | .error e=>.error e
theorem ZD {H R:dD}{b k most:Nat} [hg:Glb G R] [hr:Rem H Rd b (xs,k) R] (hk:k≤xs.length) (hn:xs.length≤1000000000000) (i:∀x∈xs,x<256) (hm:most≤1000000000000):SC G prog 227 [pA b,iN most] H (λv u=>
 (∃e C,gF most (xs.drop k)=.error e∧v=.tuple #[.slice none 0 0,G.err e]∧u=Rd b (xs,C)::R)∨(∃l m,∃t:SV,gF most (xs.drop k)=.ok (l,m)∧v=.tuple #[t.val,.nilIface]∧u=Row t eI l::Rd b (xs,k+m)::R)):=by
 refine SC.rem (h:=hr) ?_;refine sWk func227 ?_;refine go ?_;refine c2_ rfl (Cv hk hn i a8) ?_;rintro w F q;rcases q with⟨e,he,rfl,rfl⟩|⟨n,m,he,rfl,rfl⟩
 ·refine e_ mv (e_ exr (e_ exr (e_ asn (e_ asn (on_ (qn_ (ws_ (ws_ (wr_ (e_ mv ?_))))))))));refine e_ (eg rfl) ?_;refine gk (k:=ift (k:=gR ?_));exact⟨_,hsb,.inl ⟨e,_,by rw[gF,he],rfl,rfl⟩⟩
 obtain⟨q1,A,q3,q4⟩:=lL (λx hx=>i x (Yp hx)) he;rw[Yo]at A;refine e_ mv (e_ exr (e_ exr (e_ asn (e_ asn (on_ (qn_ (ws_ (ws_ (wr_ (e_ mv ?_))))))))));refine e_ (dL rfl) ?_;refine gk (k:=fM (k:=go ?_));refine gk (k:=wl_ (SV×Nat×Int×List Int×Nat) (λy=>y.2.1≤n∧ -1≤y.2.2.1∧y.2.2.1≤9223372036854775807∧k+m+y.2.2.2.2≤xs.length∧y.2.2.2.1.length=y.2.1∧oF n (-1) (xs.drop (k+m))=GV y.2.2.2.1 y.2.2.2.2 (oF (n-y.2.1) y.2.2.1 (xs.drop (k+m+y.2.2.2.2)))) (λy=>[(0,pA b),(8,y.1.val),(9,.int .i64 y.2.2.1),(21,iN n),(22,iN y.2.1)]) (λy=>Row y.1 eI y.2.2.2.1::Rd b (xs,k+m+y.2.2.2.2)::R) (λy=>n-y.2.1) ((SV.nil,0, -1, [],0)) (h0:=?_) (k:=?_))
 ·try dsimp only
  refine⟨Yl _,a8,a8,a8,rfl,?_⟩;simp only[X6,R8];cases oF n (-1) (xs.drop (k+m))with
  |ok p=>simp[GV]
  |error e=>rfl
 rintro⟨s,j,f,zs,a⟩ ⟨hj,hl1,hl2,ha,hz,hI⟩
 try dsimp only at*
 refine gW (λh1=>?_) λh1=>?_
 ·obtain⟨d,hd⟩:∃d,n-j=d+1:=⟨n-j-1,a8⟩;rw[hd,oF]at hI;refine go ?_;refine c1_ rfl (oG ha hn i) ?_;rintro w F q;rcases q with⟨e,g,rfl,rfl⟩|⟨v,c,g,rfl,rfl⟩
  all_goals rw[g]at hI
  all_goals simp only[]at hI
  ·refine e_ mv (e_ exr (e_ exr (e_ asn (e_ asn (on_ (qn_ (ws_ (ws_ (wr_ (e_ mv ?_))))))))));refine e_ (eg rfl) ?_;refine gk (k:=ift (k:=go ?_));refine gR ?_;exact⟨_,hsb,.inl ⟨e,_,cm,rfl,rfl⟩⟩
  obtain⟨p1,p2,p3,B,p5,p6⟩:=k7 _ 0 v c (λx hx=>i x (Yp hx)) a8 g;rw[Yo]at B;refine e_ mv (e_ exr (e_ exr (e_ asn (e_ asn (on_ (qn_ (ws_ (ws_ (wr_ (e_ mv ?_))))))))));refine e_ (dL rfl) ?_;refine on_ (qn_ (fM (k:=wk_ (qn_ (ws_ (ws_ (wr_ (e_ mv (e_ ieq (sp_ mv (k:=λh2=>?_) (m:=λh2=>?_)))))))))))
  ·rw[if_pos a8]at hI;refine of_ (of_ (of_ (of_ (of_ (e_ pkt (on_ (qn_ (ift (k:=ws_ ?_)))))))));refine dX dN (gR ?_);exact⟨_,hsb,.inl ⟨4,_,cm,rfl,rfl⟩⟩
  refine go ?_;refine eg_ (dW 18446744073709551616 rfl rfl rfl (9223372036854775806-f).toNat a8 a8) ?_;refine gW (λh3=>?_) λh3=>?_
  ·rw[if_pos a8]at hI;refine ws_ ?_;refine dX dN (gR ?_);exact⟨_,hsb,.inl ⟨4,_,cm,rfl,rfl⟩⟩
  rw[if_neg a8]at hI;simp only[Vt]at hI;refine wk_ (qn_ (ws_ (wr_ (e_ mv (e_ mv ?_)))));refine e_ (ew rfl a8) ?_;refine e_ (wB rfl rfl _ rfl) ?_;refine e_ (wB rfl rfl (f+v+1) cV) ?_;refine gk (k:=fS eI (k:=λs1=>?_));refine app (k:=λz=>?_);refine go ?_;refine ln_ ((z,j+1,f+v+1,zs++ [f+v+1],a+c)) (h4:=?_) (k:=?_)
  ·try dsimp only
   rw[show k+m+(a+c)=k+m+a+c from a8];exact hsb
  try dsimp only
  refine⟨a8,a8,a8,a8,aQ,?_⟩;rw[hI,show n-(j+1)=d from a8,show k+m+(a+c)=k+m+a+c from a8];cases oF d (f+v+1) (xs.drop (k+m+a+c))with
  |error e=>rfl
  |ok p=>
   obtain⟨r,c'⟩:=p;simp only[GV,Except.ok.injEq,Prod.mk.injEq,Yf,Yd,Ye];exact⟨trivial,a8⟩
 obtain rfl:j=n:=a8;rw[Ui,oF]at hI;have E:gF most (xs.drop k)=.ok (zs,m+a):=by
  rw[gF,he];simp only[Vt];rw[hI];simp[GV]
 refine gR ?_;exact⟨_,hsb,.inr ⟨zs,m+a,s,E,rfl,by rw[←V0]⟩⟩
theorem OB {H R:dD}{b k most:Nat} [hg:Glb G R] [hr:Rem H Rd b (xs,k) R] (hk:k≤xs.length) (hn:xs.length≤1000000000000) (c:∀x∈xs,x<256) (hm:most≤1000000000000):SC G prog 174 [pA b,iN most] H (λv H'=>
 (∃e,gF most (xs.drop k)=.error e∧v=.tuple #[.slice none 0 0,G.err e]∧H'=Rd b (xs,k)::R)∨(∃l m,∃a:SV,gF most (xs.drop k)=.ok (l,m)∧v=.tuple #[a.val,.nilIface]∧H'=Row a eI l::Rd b (xs,k+m)::R)):=by
 refine SC.rem (h:=hr) ?_;refine sWk func174 ?_;refine go ?_;refine pO b λs=>?_;refine go ?_;refine eu (H':=Rd b (xs,k)::R) hsb ?_;refine go ?_;refine c2_ rfl (ZD hk hn c hm) ?_;rintro v1 H1 d;rcases d with⟨e,k',he,rfl,rfl⟩|⟨l,m,a,he,rfl,rfl⟩
 ·refine e_ mv (e_ exr (e_ exr (e_ asn (e_ asn (on_ (qn_ (ws_ (ws_ (wr_ (e_ mv ?_))))))))));refine e_ (eg rfl) ?_;refine gk (k:=ift (k:=go ?_));refine pO b λs=>?_;refine go ?_;refine gR ?_;exact⟨_,hsb,.inl ⟨e,he,rfl,rfl⟩⟩
 refine e_ mv (e_ exr (e_ exr (e_ asn (e_ asn (on_ (qn_ (ws_ (ws_ (wr_ (e_ mv ?_))))))))));refine e_ (dL rfl) ?_;refine gk (k:=fM (k:=gR ?_));exact⟨_,hsb,.inr ⟨l,m,a,he,rfl,rfl⟩⟩
end
end Go.Sx
