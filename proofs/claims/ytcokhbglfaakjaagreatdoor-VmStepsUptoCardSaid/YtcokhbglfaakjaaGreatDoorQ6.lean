import Derived.Test.YtcokhbglfaakjaaGreatDoorQ5
set_option linter.all false
set_option maxHeartbeats 0
namespace Go.Sx
open Go Go.Proofs Tryz
set_option maxRecDepth 100000
section
variable {G:dJ}{most:Nat}{xs:List Nat}
def iH (most:Nat) (l:List Nat):Except Nat (Nat×Nat):=
 match iz 0 l with
 | .error e=>.error e
 | .ok (v,n)=>if most<v then .error 4 else .ok (v,n)
theorem lL {l:List Nat}{v n:Nat}(c:∀x∈l,x<256) (h:iH most l=.ok (v,n)):v≤most∧n≤l.length∧l.take n=uv v∧1≤n:=by
 unfold iH at h
 split at h
 ·cases h
 ·rename_i a b hr
  split at h
  ·cases h
  ·simp only[Except.ok.injEq,Prod.mk.injEq]at h;obtain⟨rfl,rfl⟩:=h;obtain⟨h1,h2,h3,h4,h5,h6⟩:=k7 l 0 a b c a8 hr;exact⟨a8,h4,h5,h2⟩
theorem Cv {H R:dD}{b k:Nat} [hg:Glb G R] [hr:Rem H Rd b (xs,k) R] (hk:k≤xs.length) (hn:xs.length≤1000000000000) (a:∀x∈xs,x<256) (hm:most≤4611686018427387904):SC G prog 176 [pA b,iN most] H (λv H'=>
 (∃e,iH most (xs.drop k)=.error e∧v=.tuple #[.int .i64 0,G.err e]∧H'=Rd b (xs,k)::R)∨(∃n m,iH most (xs.drop k)=.ok (n,m)∧v=.tuple #[iN n,.nilIface]∧H'=Rd b (xs,k+m)::R)):=by
 refine SC.rem (h:=hr) ?_;refine sWk func176 ?_;refine go ?_;refine pO b λs=>?_;refine go ?_;refine eu (H':=Rd b (xs,k)::R) hsb ?_;refine go ?_;refine c1_ rfl (oG hk hn a) ?_;rintro v1 H1 d;rcases d with⟨e,he,rfl,rfl⟩|⟨n,m,he,rfl,rfl⟩
 ·refine e_ mv (e_ exr (e_ exr (e_ asn (e_ asn (on_ (qn_ (ws_ (ws_ (wr_ (e_ mv ?_))))))))));refine e_ (eg rfl) ?_;refine gk (k:=ift (k:=gR ?_));exact⟨_,hsb,.inl ⟨e,by rw[iH,he],rfl,rfl⟩⟩
 obtain⟨q1,q2,q3,c,q5,q6⟩:=k7 _ 0 n m (λx hx=>a x (Yp hx)) a8 he;rw[Yo]at c;refine e_ mv (e_ exr (e_ exr (e_ asn (e_ asn (on_ (qn_ (ws_ (ws_ (wr_ (e_ mv ?_))))))))));refine e_ (dL rfl) ?_;refine gk (k:=fM (k:=wk_ (qn_ (ws_ (ws_ (wr_ (e_ mv (e_ ilt (sp_ mv (k:=λh1=>?_) (m:=λh1=>?_))))))))))
 ·exfalso;omega
 refine eg_ mv (eg_ mv ?_);refine eg_ ((ad)) ?_;refine eg_ igt (e_ pkf (on_ (qn_ (wi_ (k:=λh2=>?_) (m:=λh2=>?_)))))
 ·refine ws_ (wr_ ?_);refine pO b λs=>?_;refine e_ mv (e_ mv (e_ nck (e_ fla (e_ fla (sto (k:=on_ (qn_ (ws_ ?_))))))));refine dX dN (gR ?_);exact⟨_,hsb,.inl ⟨4,by rw[iH,he];simp only[];rw[if_pos a8],rfl,rfl⟩⟩
 refine wk_ (qn_ (ws_ (wr_ (e_ mv ?_))));refine e_ (ew rfl a8) ?_;refine gR ?_;exact⟨_,hsb,.inr ⟨n,m,by rw[iH,he];simp only[];rw[if_neg a8],rfl,rfl⟩⟩
def mq (most:Nat) (l:List Nat):Except Nat (List Nat×Nat):=
 match iH most l with
 | .error e=>.error e
 | .ok (n,m)=>if l.length-m<n then .error 2 else .ok ((l.drop m).take n,m+n)
theorem QR {H R:dD}{b k:Nat} [hg:Glb G R] [hr:Rem H Rd b (xs,k) R] (hk:k≤xs.length) (hn:xs.length≤1000000000000) (a:∀x∈xs,x<256) (hm:most≤4611686018427387904):SC G prog 177 [pA b,iN most] H (λv H'=>
 (∃e,mq most (xs.drop k)=.error e∧v=.tuple #[.string ByteArray.empty,G.err e]∧H'=Rd b (xs,k)::R)∨(∃q m,mq most (xs.drop k)=.ok (q,m)∧v=.tuple #[.string (eG q),.nilIface]∧H'=Rd b (xs,k+m)::R)):=by
 refine SC.rem (h:=hr) ?_;refine sWk func177 ?_;refine go ?_;refine pO b λs=>?_;refine go ?_;refine eu (H':=Rd b (xs,k)::R) hsb ?_;refine go ?_;refine c2_ rfl (Cv hk hn a hm) ?_;rintro v1 H1 f;rcases f with⟨e,he,rfl,rfl⟩|⟨n,m,he,rfl,rfl⟩
 ·refine e_ mv (e_ exr (e_ exr (e_ asn (e_ asn (on_ (qn_ (ws_ (ws_ (wr_ (e_ mv ?_))))))))));refine e_ (eg rfl) ?_;refine gk (k:=ift (k:=gR ?_));exact⟨_,hsb,.inl ⟨e,by rw[mq,he],rfl,rfl⟩⟩
 obtain⟨q1,c,q3,q4⟩:=lL (λx hx=>a x (Yp hx)) he;rw[Yo]at c;refine e_ mv (e_ exr (e_ exr (e_ asn (e_ asn (on_ (qn_ (ws_ (ws_ (wr_ (e_ mv ?_))))))))));refine e_ (dL rfl) ?_;refine on_ (qn_ (fM (k:=wk_ (qn_ (ws_ (ws_ (wr_ ?_)))))));refine pO b λs=>?_;refine e_ mv (e_ nck (e_ fla ?_));refine d1_ rfl (left a8) (e_ mv (e_ ilt (on_ (qn_ (wi_ (k:=λh1=>?_) (m:=λh1=>?_))))))
 ·refine ws_ (wr_ (e_ mv (e_ mv (e_ nck (e_ fla (e_ fla (sto (k:=on_ (qn_ (ws_ ?_))))))))));refine dX dN (gR ?_);exact⟨_,hsb,.inl ⟨2,by rw[mq,he];simp only[];rw[if_pos ba],rfl,rfl⟩⟩
 refine go ?_;refine dX dN ?_;have hcut:Sl (Vr b [.int .i64 (((k+m:Nat):Int)+(n:Int)),iN xs.length,s.val]::Row s eB xs::R) (s.cut 1 (k+m) (k+m+n)) eB ((xs.take (k+m+n)).drop (k+m)):=Sl.cut (e:=eB) inferInstance a8 a8;have d:(xs.take (k+m+n)).drop (k+m)=((xs.drop k).drop m).take n:=by rw[Vt,List.drop_take,show k+m+n-(k+m)=n from a8]
 refine as_ 0 (q:=mv) (k:=as_ 1 (q:=nck) (k:=as_ 2 (q:=fla) (k:=as_ 3 (q:=ldv) (k:=as_ 4 (q:=mv) (k:=as_ 5 (q:=nck) (k:=as_ 6 (q:=fla) (k:=as_ 7 (q:=fla) (k:=as_ 8 (q:=ldv) (k:=as_ 9 (q:=mv) (k:=as_ 10 (q:=isb) (k:=as_ 11 (q:=mv) (k:=as_ 12 (q:=nck) (k:=as_ 13 (q:=fla) (k:=?_))))))))))))));refine as_ 14 (q:=fla) (k:=as_ 15 (q:=ldv) (k:=?_));refine dS 16 rfl rfl aa rfl (ey (fV rfl bH (k+m) (k+m+n) ⟨_,_,rfl,a8⟩ ⟨_,_,rfl,a8⟩ a8 a8)) ?_;refine dS 17 rfl rfl aa rfl (ey (fx rfl)) ?_;refine gR ?_;exact⟨Rd b (xs,k+(m+n))::R,by rw[←V0];exact hsb,.inr ⟨((xs.drop k).drop m).take n,m+n,by rw[mq,he];simp only[];rw[if_neg ba],by rw[d];rfl,rfl⟩⟩
end
section
variable {G:dJ}{xs:List Nat}
def oF:Nat→Int→List Nat→Except Nat (List Int×Nat)
 | 0,_,_=>.ok ([],0)
 |n+1,last,l=>
  match iz 0 l with
  | .error e=>.error e
  | .ok (v,m)=>if 9223372036854775806-last<(v:Int)then .error 4 else
   match oF n (last+v+1) (l.drop m)with
   | .error e=>.error e
   | .ok (r,m')=>.ok ((last+v+1)::r,m+m')
def gF (most:Nat) (l:List Nat):Except Nat (List Int×Nat):=
 match iH most l with
 | .error e=>.error e
 | .ok (n,m)=>
  match oF n (-1) (l.drop m)with
  | .error e=>.error e
  | .ok (r,m')=>.ok (r,m+m')
def GV (zs:List Int) (a:Nat):Except Nat (List Int×Nat)→Except Nat (List Int×Nat)
 | .ok (r,m)=>.ok (zs++r,a+m)
 | .error e=>.error e
theorem ZD {H R:dD}{b k most:Nat} [hg:Glb G R] [hr:Rem H Rd b (xs,k) R] (hk:k≤xs.length) (hn:xs.length≤1000000000000) (i:∀x∈xs,x<256) (hm:most≤1000000000000):SC G prog 227 [pA b,iN most] H (λv u=>
 (∃e C,gF most (xs.drop k)=.error e∧v=.tuple #[.slice none 0 0,G.err e]∧u=Rd b (xs,C)::R)∨(∃l m,∃t:SV,gF most (xs.drop k)=.ok (l,m)∧v=.tuple #[t.val,.nilIface]∧u=Row t eI l::Rd b (xs,k+m)::R)):=by
 refine SC.rem (h:=hr) ?_;refine sWk func227 ?_;refine go ?_;refine c2_ rfl (Cv hk hn i a8) ?_;rintro w F q;rcases q with⟨e,he,rfl,rfl⟩|⟨n,m,he,rfl,rfl⟩
 ·refine e_ mv (e_ exr (e_ exr (e_ asn (e_ asn (on_ (qn_ (ws_ (ws_ (wr_ (e_ mv ?_))))))))));refine e_ (eg rfl) ?_;refine gk (k:=ift (k:=gR ?_));exact⟨_,hsb,.inl ⟨e,_,by rw[gF,he],rfl,rfl⟩⟩
 obtain⟨q1,A,q3,q4⟩:=lL (λx hx=>i x (Yp hx)) he;rw[Yo]at A;refine e_ mv (e_ exr (e_ exr (e_ asn (e_ asn (on_ (qn_ (ws_ (ws_ (wr_ (e_ mv ?_))))))))));refine e_ (dL rfl) ?_;refine gk (k:=fM (k:=go ?_));refine gk (k:=wl_ (SV×Nat×Int×List Int×Nat) (λy=>y.2.1≤n∧ -1≤y.2.2.1∧y.2.2.1≤9223372036854775807∧k+m+y.2.2.2.2≤xs.length∧y.2.2.2.1.length=y.2.1∧oF n (-1) (xs.drop (k+m))=GV y.2.2.2.1 y.2.2.2.2 (oF (n-y.2.1) y.2.2.1 (xs.drop (k+m+y.2.2.2.2)))) (λy=>[(0,pA b),(8,y.1.val),(9,.int .i64 y.2.2.1),(21,iN n),(22,iN y.2.1)]) (λy=>Row y.1 eI y.2.2.2.1::Rd b (xs,k+m+y.2.2.2.2)::R) (λy=>n-y.2.1) ((SV.nil,0, -1, [],0)) (h0:=?_) (k:=?_))
 ·try dsimp only
  refine⟨Yl _,a8,a8,a8,rfl,?_⟩;simp only[X6,R8];cases oF n (-1) (xs.drop (k+m))with
  |ok p=>simp[GV]
  |error e=>rfl
 rintro⟨s,j,f,zs,a⟩ ⟨hj,hl1,hl2,ha,hz,hI⟩
 try dsimp only at*
 refine gW (λh1=>?_) λh1=>?_
 ·obtain⟨d,hd⟩:∃d,n-j=d+1:=⟨n-j-1,a8⟩;rw[hd,oF]at hI;refine go ?_;refine c1_ rfl (oG ha hn i) ?_;rintro w F q;rcases q with⟨e,g,rfl,rfl⟩|⟨v,c,g,rfl,rfl⟩
  all_goals rw[g]at hI
  all_goals simp only[]at hI
  ·refine e_ mv (e_ exr (e_ exr (e_ asn (e_ asn (on_ (qn_ (ws_ (ws_ (wr_ (e_ mv ?_))))))))));refine e_ (eg rfl) ?_;refine gk (k:=ift (k:=go ?_));refine gR ?_;exact⟨_,hsb,.inl ⟨e,_,cm,rfl,rfl⟩⟩
  obtain⟨p1,p2,p3,B,p5,p6⟩:=k7 _ 0 v c (λx hx=>i x (Yp hx)) a8 g;rw[Yo]at B;refine e_ mv (e_ exr (e_ exr (e_ asn (e_ asn (on_ (qn_ (ws_ (ws_ (wr_ (e_ mv ?_))))))))));refine e_ (dL rfl) ?_;refine on_ (qn_ (fM (k:=wk_ (qn_ (ws_ (ws_ (wr_ (e_ mv (e_ ieq (sp_ mv (k:=λh2=>?_) (m:=λh2=>?_)))))))))))
  ·rw[if_pos a8]at hI;refine of_ (of_ (of_ (of_ (of_ (e_ pkt (on_ (qn_ (ift (k:=ws_ ?_)))))))));refine dX dN (gR ?_);exact⟨_,hsb,.inl ⟨4,_,cm,rfl,rfl⟩⟩
  refine go ?_;refine eg_ (dW 18446744073709551616 rfl rfl rfl (9223372036854775806-f).toNat a8 a8) ?_;refine gW (λh3=>?_) λh3=>?_
  ·rw[if_pos a8]at hI;refine ws_ ?_;refine dX dN (gR ?_);exact⟨_,hsb,.inl ⟨4,_,cm,rfl,rfl⟩⟩
  rw[if_neg a8]at hI;simp only[Vt]at hI;refine wk_ (qn_ (ws_ (wr_ (e_ mv (e_ mv ?_)))));refine e_ (ew rfl a8) ?_;refine e_ (wB rfl rfl _ rfl) ?_;refine e_ (wB rfl rfl (f+v+1) cV) ?_;refine gk (k:=fS eI (k:=λs1=>?_));refine app (k:=λz=>?_);refine go ?_;refine ln_ ((z,j+1,f+v+1,zs++ [f+v+1],a+c)) (h4:=?_) (k:=?_)
  ·try dsimp only
   rw[show k+m+(a+c)=k+m+a+c from a8];exact hsb
  try dsimp only
  refine⟨a8,a8,a8,a8,aQ,?_⟩;rw[hI,show n-(j+1)=d from a8,show k+m+(a+c)=k+m+a+c from a8];cases oF d (f+v+1) (xs.drop (k+m+a+c))with
  |error e=>rfl
  |ok p=>
   obtain⟨r,c'⟩:=p;simp only[GV,Except.ok.injEq,Prod.mk.injEq,Yf,Yd,Ye];exact⟨trivial,a8⟩
 obtain rfl:j=n:=a8;rw[Ui,oF]at hI;have E:gF most (xs.drop k)=.ok (zs,m+a):=by
  rw[gF,he];simp only[Vt];rw[hI];simp[GV]
 refine gR ?_;exact⟨_,hsb,.inr ⟨zs,m+a,s,E,rfl,by rw[←V0]⟩⟩
theorem OB {H R:dD}{b k most:Nat} [hg:Glb G R] [hr:Rem H Rd b (xs,k) R] (hk:k≤xs.length) (hn:xs.length≤1000000000000) (c:∀x∈xs,x<256) (hm:most≤1000000000000):SC G prog 174 [pA b,iN most] H (λv H'=>
 (∃e,gF most (xs.drop k)=.error e∧v=.tuple #[.slice none 0 0,G.err e]∧H'=Rd b (xs,k)::R)∨(∃l m,∃a:SV,gF most (xs.drop k)=.ok (l,m)∧v=.tuple #[a.val,.nilIface]∧H'=Row a eI l::Rd b (xs,k+m)::R)):=by
 refine SC.rem (h:=hr) ?_;refine sWk func174 ?_;refine go ?_;refine pO b λs=>?_;refine go ?_;refine eu (H':=Rd b (xs,k)::R) hsb ?_;refine go ?_;refine c2_ rfl (ZD hk hn c hm) ?_;rintro v1 H1 d;rcases d with⟨e,k',he,rfl,rfl⟩|⟨l,m,a,he,rfl,rfl⟩
 ·refine e_ mv (e_ exr (e_ exr (e_ asn (e_ asn (on_ (qn_ (ws_ (ws_ (wr_ (e_ mv ?_))))))))));refine e_ (eg rfl) ?_;refine gk (k:=ift (k:=go ?_));refine pO b λs=>?_;refine go ?_;refine gR ?_;exact⟨_,hsb,.inl ⟨e,he,rfl,rfl⟩⟩
 refine e_ mv (e_ exr (e_ exr (e_ asn (e_ asn (on_ (qn_ (ws_ (ws_ (wr_ (e_ mv ?_))))))))));refine e_ (dL rfl) ?_;refine gk (k:=fM (k:=gR ?_));exact⟨_,hsb,.inr ⟨l,m,a,he,rfl,rfl⟩⟩
end
section
variable {G:dJ}{b:Nat}{xs:List Nat}
def w32 (x:Nat):List Nat:= [x%256,x/256%256,x/65536%256,x/16777216%256]
theorem Nr (x i:Nat) (hi:i<4):(w32 x)[i]? =some (x/2^(8*i)%256):=by
 match i,hi with
 | 0,_=>simp[w32]
 | 1,_=>simp[w32]
 | 2,_=>simp[w32]
 | 3,_=>simp[w32]
theorem dK {α:Type}{l:List α}{i:Nat}{x:α}(h:l[i]? =some x):l.take (i+1)=l.take i++ [x]:=by
 rw[Um,h];rfl
theorem FT {H R:dD} [hr:Rem H Wr b xs R] (x:Nat) (hn:xs.length≤1000000000000):SC G prog 225 [pA b,.int .u32 (x:Int)] H (λv d=>v=.tuple #[]∧d=Wr b (xs++w32 x)::R):=by
 refine xi hr λs=>?_;refine sWk func225 ?_;refine gk (k:=wl_ (SV×Nat×List Nat) (λy=>y.2.2=xs++(w32 x).take y.2.1∧y.2.1≤4) (λy=>[(0,pA b),(1,.int .u32 (x:Int)),(5,iN y.2.1)]) (λy=>Vr b [y.1.val]::Row y.1 eB y.2.2::R) (λy=>4-y.2.1) ((s,0,xs)) (h0:=?_) (k:=?_))
 ·exact⟨aq,Yl _⟩
 rintro⟨s,i,zs⟩ ⟨hI,hi⟩
 try dsimp only at*
 have a:=congrArg List.length hI;simp only[Ya,Yg]at a;refine ws_ (wr_ (e_ ilt (on_ (qn_ (ws_ (wi_ (k:=λh1=>?_) (m:=λh1=>?_)))))))
 ·refine wk_ (qn_ (ws_ (wb_ (ws_ (wr_ (e_ mv (e_ asn (on_ (qn_ ?_)))))))));refine wD [10,11,14] (λk H=>(k=4→dQ H b [s.val])) (aF 0 (k:=aF 1 (k:=aF 2 (k:=aF 3 (k:=?_)))));refine aN 4 rfl (λH hH=>by have hN:=hH rfl;exact ldv) ?_;refine aF 5 (k:=aF 6 (k:=aF 7 (k:=?_)));refine aN 8 rfl (λH hH=>hX rfl rfl x (8*i) rfl a8 (by show 8*i≤32;omega)) ?_;refine aN 9 rfl (λH hH=>(bj)) ?_;refine aS 10 rfl (fK eB rfl rfl) ?_;rintro _ _ ⟨s1,rfl,rfl⟩;refine aS 11 rfl (gf rfl rfl rfl rfl ab ab) ?_;rintro _ _ ⟨c,rfl,rfl⟩;refine aF 12 (k:=aF 13 (k:=?_));refine aS 14 rfl (ej rfl rfl rfl) ?_;rintro _ _ ⟨rfl,rfl⟩;refine aZ (bn_ (qn_ (wr_ (e_ iad (e_ mv (on_ ?_))))));refine lN ((c,i+1,zs++ [x/2^(8*i)%256])) ?_
  try dsimp only
  refine⟨?_,a8⟩;rw[hI,dK (Nr x i a8),Yf]
 obtain rfl:i=4:=a8;have e:zs=xs++w32 x:=hI;refine gR ?_;exact⟨_,by rw[e];exact hsb,rfl,rfl⟩
theorem Jj {H R:dD} [hr:Rem H Wr b xs R] (q:ByteArray) (hn:xs.length≤100000000000) (hq:q.size≤100000000000):SC G prog 213 [pA b,.string q] H (λv a=>v=.tuple #[]∧a=Wr b (xs++(uv q.size++dC q))::R):=by
 have hl:=iw (n:=q.size) a8;refine SC.rem (h:=hr) ?_;refine sWk func213 ?_;refine ws_ (wr_ (e_ mv (e_ mv (e_ xO ?_))));refine e_ ((ad)) ?_;refine d2_ rfl (gl q.size a8 a8) ?_;refine KY b λs=>?_;refine go ?_;refine s_ (yL rfl rfl rfl ab ab) ?_;rintro _ _ ⟨s1,rfl,rfl⟩;refine gR ?_;exact⟨_,by rw[Yf];exact hsb,rfl,rfl⟩
end
section
variable {p r:Nat}
def bs (p r:Nat):Nat:=if r%2=1 then(r/2) ^^^ p else r/2
def bs4 (p r:Nat):Nat:=bs p (bs p (bs p (bs p r)))
def Qe (p r x:Nat):Nat:=bs4 p (bs4 p (r ^^^ x))
def Bq (p r:Nat) (l:List Nat):Nat:=l.foldl (Qe p) r
def tn:Nat:=3988292384
def qn:Nat:=2197175160
def w5 (l:List Nat):Nat:=4294967295 ^^^ Bq tn 4294967295 l
def xh (l:List Nat):Nat:=4294967295 ^^^ Bq qn 4294967295 l
theorem UJ (p a b:Nat):bs p (a ^^^ b)=bs p a ^^^ bs p b:=by
 have h1:(a ^^^ b)/2=a/2 ^^^ b/2:=Nat.xor_div_two_pow (n:=1);have h2:(a ^^^ b)%2=(a%2) ^^^ (b%2):=Nat.xor_mod_two_pow (n:=1);unfold bs;rw[h1,h2];rcases Nat.mod_two_eq_zero_or_one a with ha|ha <;> rcases Nat.mod_two_eq_zero_or_one b with hb|hb <;> rw[ha,hb]
 ·simp
 ·simp[Q9]
 ·simp only[Nat.xor_zero,↓reduceIte,Nat.zero_ne_one];rw[Q9,Nat.xor_comm (b/2) p,←Q9]
 ·simp only[Nat.xor_self,Nat.zero_ne_one,↓reduceIte];rw[Q9,←Q9 p,Nat.xor_comm p,Q9 (b/2),Nat.xor_self,Nat.xor_zero]
theorem Qk (p a b:Nat):bs4 p (a ^^^ b)=bs4 p a ^^^ bs4 p b:=by simp only[bs4,UJ]
theorem wJ (p q:Nat):bs p (2*q)=q:=by unfold bs;rw[if_neg a8];omega
theorem UK (p q:Nat):bs4 p (16*q)=q:=by
 unfold bs4;rw[show 16*q=2*(2*(2*(2*q)))from a8,wJ,wJ,wJ,wJ]
theorem O6 (r:Nat):r=(16*(r/16)) ^^^ (r%16):=by
 have h:(r/16) <<< 4+r%16=(r/16) <<< 4 |||r%16:=Nat.shiftLeft_add_eq_or_of_lt (V2 r ae) _;have h2:(r/16) <<< 4=16*(r/16):=by rw[Nat.shiftLeft_eq];omega
 rw[h2]at h;have h3:16*(r/16)+r%16=r:=Nat.div_add_mod r 16;have h4:(16*(r/16)) ^^^ (r%16)=(16*(r/16)) |||(r%16):=by
  apply Nat.eq_of_testBit_eq;intro i;rw[Nat.testBit_xor,Nat.testBit_or,show 16*(r/16)=2^4*(r/16)from rfl,show r%16=r%2^4 from rfl,Nat.testBit_two_pow_mul,Nat.testBit_mod_two_pow]
  by_cases hi:i<4
  ·simp[hi,show ¬(4≤i)from a8]
  ·simp[hi]
 rw[h4,←h,h3]
theorem nib (p r:Nat):(r/2^4) ^^^ bs4 p (r%16)=bs4 p r:=by
 conv=>rhs;rw[O6 r]
 rw[Qk,UK]
theorem Hn (hp:p<4294967296) (hr:r<4294967296):bs p r<4294967296:=by
 unfold bs
 split
 ·exact Nat.xor_lt_two_pow (n:=32) a8 hp
 ·omega
theorem oq (hp:p<4294967296) (hr:r<4294967296):bs4 p r<4294967296:=Hn hp (Hn hp (Hn hp (Hn hp hr)))
theorem wL {a b:Nat}(ha:a<4294967296) (c:b<4294967296):a ^^^ b<4294967296:=Nat.xor_lt_two_pow (n:=32) ha c
theorem Qd {x:Nat}(hp:p<4294967296) (hr:r<4294967296) (hx:x<256):Qe p r x<4294967296:=oq hp (oq hp (wL hr a8))
theorem wH (hp:p<4294967296):∀(l:List Nat) (r:Nat),r<4294967296→(∀x∈l,x<256)→Bq p r l<4294967296
 | [],r,hr,_=>hr
 |x::l,r,hr,hb=>wH hp l (Qe p r x) (Qd hp hr (hb x aq)) (λy hy=>hb y (by simp[hy]))
theorem A4 (p r:Nat) (l:List Nat) (x:Nat):Bq p r (l++ [x])=Qe p (Bq p r l) x:=by simp[Bq]
theorem Ad (r:Nat):r &&& 15=r%16:=Nat.and_two_pow_sub_one_eq_mod r 4
def oc:List Nat:= [0,0x1db71064,0x3b6e20c8,0x26d930ac,0x76dc4190,0x6b6b51f4,0x4db26158,0x5005713c,0xedb88320,0xf00f9344,0xd6d6a3e8,0xcb61b38c,0x9b64c2b0,0x86d3d2d4,0xa00ae278,0xbdbdf21c]
def mA:List Nat:= [0,0x105ec76f,0x20bd8ede,0x30e349b1,0x417b1dbc,0x5125dad3,0x61c69362,0x7198540d,0x82f63b78,0x92a8fc17,0xa24bb5a6,0xb21572c9,0xc38d26c4,0xd3d3e1ab,0xe330a81a,0xf36e6f75]
theorem Nj:∀i:Fin 16,oc[i.val]? =some (bs4 tn i.val):=ax
theorem Ke:∀i:Fin 16,mA[i.val]? =some (bs4 qn i.val):=ax
theorem FM (r:Nat):(oc.map λn=>Value.int .u32 ((n:Nat):Int))[0+(r &&& 15)*1]? =some (.int .u32 ((bs4 tn (r%16):Nat):Int)):=by
 rw[Vw,U5,Ad,Xd,Nj ⟨r%16,a8⟩];rfl
theorem Cm (r:Nat):(mA.map λn=>Value.int .u32 ((n:Nat):Int))[0+(r &&& 15)*1]? =some (.int .u32 ((bs4 qn (r%16):Nat):Int)):=by
 rw[Vw,U5,Ad,Xd,Ke ⟨r%16,a8⟩];rfl
theorem WB {G:dJ}{H:dD}{s:SV}{xs:List Nat} [Tab H 27 oc] [Sl H s eB xs] (a:Nat) (hr:a<4294967296) (hn:xs.length≤1000000000000) (g:∀x∈xs,x<256):SC G prog 305 [.int .u32 (a:Int),s.val] H (λv h=>v=.int .u32 ((Bq tn a xs:Nat):Int)∧h=H):=by
 refine sWk func305 ?_;refine go ?_;refine wl_ (Nat×Nat) (λy=>y.1≤xs.length∧y.2=Bq tn a (xs.take y.1)∧y.2<4294967296) (λy=>[(0,.int .u32 ((y.2:Nat):Int)),(7,s.val),(8,iN xs.length),(9,iN y.1)]) (λ_=>H) (λy=>xs.length-y.1) ((0,a)) (h0:=?_) (k:=?_)
 ·exact⟨Yl _,rfl,hr⟩
 rintro⟨i,r⟩ ⟨hi,hI,b⟩
 try dsimp only at*
 refine gW (λh1=>?_) λh1=>?_
 ·obtain⟨x,hx⟩:=gE xs i;have hxb:=g x (Yj hx);have f:r ^^^ x<4294967296:=wL b a8;have e:=FM (r ^^^ x);have h2b:bs4 tn ((r ^^^ x)%16)<4294967296:=oq ae a8;have d:bs4 tn (r ^^^ x)<4294967296:=oq ae f;have c:=FM (bs4 tn (r ^^^ x));have h3b:bs4 tn (bs4 tn (r ^^^ x)%16)<4294967296:=oq ae a8;refine wk_ (qn_ (ws_ (wb_ (ws_ (wr_ (e_ ixa (e_ lel (e_ asn (on_ (qn_ (ws_ (wr_ (e_ mv ?_)))))))))))));refine e_ mv ?_;refine e_ ((aA)) ?_;refine e_ (q9 4294967296 rfl rfl rfl rfl _ _ rfl rfl ak ak) ?_;refine e_ asn (on_ (qn_ (ws_ (wr_ (e_ mv ?_)))));refine e_ (hX rfl rfl _ 4 rfl rfl cA) ?_;refine e_ mv ?_;refine e_ (qd 4294967296 rfl rfl rfl rfl _ 15 rfl rfl ak ak) ?_;refine e_ (gI rfl rfl ((r ^^^ x) &&& 15) rfl (by rw[Ad];omega)) ?_;refine e_ (nx rfl e) ?_;refine e_ (q9 4294967296 rfl rfl rfl rfl _ _ rfl rfl ak ak) ?_;refine e_ asn (on_ (qn_ (wr_ ?_)));rw[nib];refine e_ mv ?_;refine e_ (hX rfl rfl _ 4 rfl rfl cA) ?_;refine e_ mv ?_;refine e_ (qd 4294967296 rfl rfl rfl rfl _ 15 rfl rfl ak ak) ?_;refine e_ (gI rfl rfl (bs4 tn (r ^^^ x) &&& 15) rfl (by rw[Ad];omega)) ?_;refine e_ (nx rfl c) ?_;refine e_ (q9 4294967296 rfl rfl rfl rfl _ _ rfl rfl ak ak) ?_;refine e_ asn (on_ (bn_ (qn_ (wr_ ?_))));rw[nib];refine go ?_;refine lN ((i+1,bs4 tn (bs4 tn (r ^^^ x)))) ?_
  try dsimp only
  refine⟨a8,?_,oq ae d⟩;rw[dK hx,A4,←hI];rfl
 obtain rfl:i=xs.length:=a8;rw[Xn]at hI;refine gR ?_;exact⟨_,dH.refl,by rw[hI];rfl,rfl⟩
end
section
variable {G:dJ}{H:dD}{s:SV}{xs:List Nat}
theorem Kg [Tab H 25 mA] [Sl H s eB xs] (hn:xs.length≤1000000000000) (f:∀x∈xs,x<256):SC G prog 171 [s.val] H (λv g=>v=.int .u32 ((xh xs:Nat):Int)∧g=H):=by
 refine sWk func171 ?_;refine go ?_;refine gk (k:=wl_ (Nat×Nat) (λy=>y.1≤xs.length∧y.2=Bq qn 4294967295 (xs.take y.1)∧y.2<4294967296) (λy=>[(3,.int .u32 ((y.2:Nat):Int)),(6,s.val),(7,iN xs.length),(8,iN y.1)]) (λ_=>H) (λy=>xs.length-y.1) ((0,4294967295)) (h0:=?_) (k:=?_))
 ·exact⟨Yl _,rfl,a8⟩
 rintro⟨i,r⟩ ⟨hi,hI,a⟩
 try dsimp only at*
 refine gW (λh1=>?_) λh1=>?_
 ·obtain⟨x,hx⟩:=gE xs i;have hxb:=f x (Yj hx);have e:r ^^^ x<4294967296:=wL a a8;have d:=Cm (r ^^^ x);have h2b:bs4 qn ((r ^^^ x)%16)<4294967296:=oq ae a8;have c:bs4 qn (r ^^^ x)<4294967296:=oq ae e;have b:=Cm (bs4 qn (r ^^^ x));have h3b:bs4 qn (bs4 qn (r ^^^ x)%16)<4294967296:=oq ae a8;refine wk_ (qn_ (ws_ (wb_ (ws_ (wr_ (e_ ixa (e_ lel (e_ asn (on_ (qn_ (ws_ (wr_ (e_ mv ?_)))))))))))));refine e_ mv ?_;refine e_ ((aA)) ?_;refine e_ (q9 4294967296 rfl rfl rfl rfl _ _ rfl rfl ak ak) ?_;refine e_ asn (on_ (qn_ (ws_ (wr_ (e_ mv ?_)))));refine e_ (hX rfl rfl _ 4 rfl rfl cA) ?_;refine e_ mv ?_;refine e_ (qd 4294967296 rfl rfl rfl rfl _ 15 rfl rfl ak ak) ?_;refine e_ (gI rfl rfl ((r ^^^ x) &&& 15) rfl (by rw[Ad];omega)) ?_;refine e_ (nx rfl d) ?_;refine e_ (q9 4294967296 rfl rfl rfl rfl _ _ rfl rfl ak ak) ?_;refine e_ asn (on_ (qn_ (wr_ ?_)));rw[nib];refine e_ mv ?_;refine e_ (hX rfl rfl _ 4 rfl rfl cA) ?_;refine e_ mv ?_;refine e_ (qd 4294967296 rfl rfl rfl rfl _ 15 rfl rfl ak ak) ?_;refine e_ (gI rfl rfl (bs4 qn (r ^^^ x) &&& 15) rfl (by rw[Ad];omega)) ?_;refine e_ (nx rfl b) ?_;refine e_ (q9 4294967296 rfl rfl rfl rfl _ _ rfl rfl ak ak) ?_;refine e_ asn (on_ (bn_ (qn_ (wr_ ?_))));rw[nib];refine go ?_;refine lN ((i+1,bs4 qn (bs4 qn (r ^^^ x)))) ?_
  try dsimp only
  refine⟨a8,?_,oq ae c⟩;rw[dK hx,A4,←hI];rfl
 obtain rfl:i=xs.length:=a8;rw[Xn]at hI;refine we_ (qe_ (le_ (bh_ (qn_ (ws_ (wr_ (e_ mv ?_)))))));refine e_ (Be 4294967296 rfl rfl rfl _ rfl a8) ?_;refine gR ?_;exact⟨_,dH.refl,by rw[hI];rfl,rfl⟩
theorem PD [Tab H 27 oc] [Sl H s eB xs] (hn:xs.length≤1000000000000) (a:∀x∈xs,x<256):SC G prog 289 [.int .u32 0,s.val] H (λv b=>v=.int .u32 ((w5 xs:Nat):Int)∧b=H):=by
 have hc:=wH (p:=tn) ae xs 4294967295 ae a;refine sWk func289 ?_;refine ws_ (wr_ (e_ asn (on_ (qn_ (ws_ (wr_ (e_ mv ?_)))))));refine e_ (Be 4294967296 rfl rfl rfl 0 rfl a8) (go ?_);refine d2_ rfl (WB 4294967295 ae hn a) ?_;refine e_ (Be 4294967296 rfl rfl rfl _ rfl hc) ?_;refine gR ?_;exact⟨_,dH.refl,rfl,rfl⟩
theorem Qy [Tab H 27 oc] [Sl H s eB xs] (hn:xs.length≤1000000000000) (a:∀x∈xs,x<256):SC G prog 258 [s.val] H (λv b=>v=.int .u32 ((w5 xs:Nat):Int)∧b=H):=by
 refine sWk func258 ?_;refine go ?_;refine d2_ rfl (PD hn a) (gR ?_);exact⟨_,hsb,rfl,rfl⟩
end
section
variable {bl:List (Nat×List Nat)}{body l:List Nat}{tag:Nat}
theorem kz:∀n,∀x∈uv n,x<256:=by
 intro n
 induction n using Nat.strongRecOn with
 |_ n ih=>
  intro x hx
  by_cases h:n<128
  ·rw[oz h]at hx;simp at hx;omega
  ·rw[uI h]at hx;rcases Xo.1 hx with rfl|hx
   ·omega
   ·exact ih (n/128) a8 x hx
theorem Jk (n:Nat):∀x∈w32 n,x<256:=by
 intro x hx;simp only[w32,Xo,S9,or_false]at hx;omega
theorem Nk (a:∀x∈l,x<256):w5 l<4294967296:=wL ae (wH ae l _ ae a)
theorem Kf (a:∀x∈l,x<256):xh l<4294967296:=wL ae (wH ae l _ ae a)
def mL (tag:Nat) (body:List Nat):List Nat:= [tag]++uv body.length++body
def kS (tag:Nat) (body:List Nat):List Nat:=mL tag body++w32 (w5 (mL tag body))
def fN (bl:List (Nat×List Nat)):List Nat:=bl.flatMap λq=>kS q.1 q.2
def oO (kind:Nat) (bl:List (Nat×List Nat)):List Nat:= [99,110,99,100]++ [kind]++uv bl.length++fN bl
def nN (kind:Nat) (bl:List (Nat×List Nat)):List Nat:=oO kind bl++w32 (xh (oO kind bl))
theorem Bi (a:tag<256) (b:∀x∈body,x<256):∀x∈mL tag body,x<256:=by
 intro x hx;simp only[mL,Xm,Vb]at hx;rcases hx with(rfl|hx)|hx
 ·exact a
 ·exact kz _ x hx
 ·exact b x hx
theorem PV (a:tag<256) (b:∀x∈body,x<256):∀x∈kS tag body,x<256:=by
 intro x hx;rcases Xm.1 hx with hx|hx
 ·exact Bi a b x hx
 ·exact Jk _ x hx
theorem IQ (h:∀q∈bl,q.1<256∧∀x∈q.2,x<256):∀x∈fN bl,x<256:=by
 intro x hx;obtain⟨q,a,hx⟩:=U4.1 hx;exact PV (h q a).1 (h q a).2 x hx
theorem B0 {a:Nat}(hk:a<256) (h:∀q∈bl,q.1<256∧∀x∈q.2,x<256):∀x∈oO a bl,x<256:=by
 intro x hx;simp only[oO,Xm,Xo,S9,or_false]at hx;rcases hx with((hx|rfl)|hx)|hx
 ·omega
 ·exact hk
 ·exact kz _ x hx
 ·exact IQ h x hx
def eK:Enc (Nat×SV):=⟨λp=>[.int .u8 ((p.1:Nat):Int),p.2.val],2,true,λ_=>rfl,λp v h=>by simp at h;rcases h with rfl|rfl <;> rfl,ae,λh=>aK,ae⟩
instance {p:Nat×SV}:kV eK p (.agg [.int .u8 ((p.1:Nat):Int),p.2.val].toArray):=⟨rfl⟩
instance {v:Value}{n:Nat}{s:SV} [h:gP eB v n]:gP eK (.agg [v,s.val].toArray) (n,s):=⟨by have:=h.out;subst this;rfl⟩
def sy (H:dD) (l:List (Nat×SV)) (bl:List (Nat×List Nat)):Prop:=l.length=bl.length∧∀(i:Nat) (p:Nat×SV) (q:Nat×List Nat),l[i]? =some p→bl[i]? =some q→p.1=q.1∧Sl H p.2 eB q.2
theorem PB {G:dJ}{H:dD}{s:SV} [hg:Glb G H] [Tab H 27 oc] [Sl H s eB body] (tag:Nat) (ht0:tag≠0) (c:tag<256) (d:∀x∈body,x<256) (hn:body.length≤10000000000):SC G prog 224 [.int .u8 (tag:Int),s.val] H (λv e=>∃a:SV,v=.tuple #[a.val,.nilIface]∧e=Row a eB (kS tag body)::H):=by
 have hul:=iw (n:=body.length) a8;have hlen:(mL tag body).length≤100000000000:=by simp only[mL,Ya,Ul];omega
 refine sWk func224 ?_;refine gW (λh1=>?_) λh1=>?_
 ·exfalso;omega
 refine go ?_;refine c0_ rfl iM ?_;rintro _ _ ⟨b1,rfl,rfl⟩;refine go ?_;refine d2_ rfl (qA tag aq) (on_ (qn_ (ws_ (wr_ (e_ mv (e_ mv (e_ lnn ?_)))))));refine e_ ((ad)) ?_;refine d2_ rfl (gl body.length a8 aq) (go ?_);refine d2_ rfl (Eb (by simp only[Ya,Yc,Ul];omega) a8) (go ?_);refine c1_ rfl (kK (xs:=mL tag body) a8) ?_;rintro _ _ ⟨s1,rfl,rfl⟩;refine d1_ rfl (Qy (xs:=mL tag body) a8 (Bi c d)) ?_;refine d2_ rfl (FT (w5 (mL tag body)) a8) (go ?_);refine c1_ rfl (kK (xs:=kS tag body) (by simp only[kS,Ya];simp only[w32,Yb,Yc];omega)) ?_;rintro _ _ ⟨b,rfl,rfl⟩;refine gR ?_;exact⟨_,hsb,b,rfl,rfl⟩
end
section
variable {G:dJ}{H:dD}{a v:Nat}{s:SV}{xs:List Nat}
def mY:List Nat→Nat
 |a::b::c::d::_=>a+256*b+65536*c+16777216*d
 |_=>0
theorem EH {m:Nat}(hv:v<2^m):v |||(a*2^m)=v+a*2^m:=by
 rw[Nat.or_comm,←Nat.shiftLeft_eq,←Nat.shiftLeft_add_eq_or_of_lt hv,Nat.shiftLeft_eq];omega
theorem OW (hv:v<256) (ha:a<256):v |||(a*2^8%4294967296)=v+a*256:=by
 rw[Xw a8,EH (m:=8) a8]
theorem KS (hv:v<65536) (ha:a<256):v |||(a*2^16%4294967296)=v+a*65536:=by
 rw[Xw a8,EH (m:=16) a8]
theorem KR (hv:v<16777216) (ha:a<256):v |||(a*2^24%4294967296)=v+a*16777216:=by
 rw[Xw a8,EH (m:=24) a8]
theorem E9 {l:List Nat}{b c d:Nat}(h0:l[0]? =some a) (h1:l[1]? =some b) (h2:l[2]? =some c) (h3:l[3]? =some d):mY l=a+256*b+65536*c+16777216*d:=by
 match l,h0,h1,h2,h3 with
 |x::y::z::w::r,h0,h1,h2,h3=>
  simp at h0 h1 h2 h3;subst h0;subst h1;subst h2;subst h3;rfl
theorem Je [Sl H s eB xs] (hn:4≤xs.length) (f:∀x∈xs,x<256):SC G prog 170 [s.val] H (λv l=>v=.int .u32 ((mY xs:Nat):Int)∧l=H):=by
 obtain⟨a,ha⟩:=gE xs 0;obtain⟨b,e⟩:=gE xs 1;obtain⟨c,hc⟩:=gE xs 2;obtain⟨d,hd⟩:=gE xs 3;have j:=f a (Yj ha);have i:=f b (Yj e);have h:=f c (Yj hc);have g:=f d (Yj hd);refine sWk func170 ?_;refine go ?_;refine dX dN (as_ 0 (q:=mv) (k:=?_));refine dS 1 rfl rfl aa rfl (ey (er rfl rfl 0 rfl a8)) ?_;refine dS 2 rfl rfl aa rfl (ey (gT rfl bH bH a ha)) ?_;refine dS 3 rfl rfl aa rfl (ey ((aA))) ?_;refine as_ 4 (q:=mv) (k:=?_);refine dS 5 rfl rfl aa rfl (ey (er rfl rfl 1 rfl a8)) ?_;refine dS 6 rfl rfl aa rfl (ey (gT rfl bH bH b e)) ?_;refine dS 7 rfl rfl aa rfl (ey ((aA))) ?_;refine dS 8 rfl rfl aa rfl (ey (wA 4294967296 rfl rfl rfl rfl _ 8 rfl rfl)) ?_;refine dS 9 rfl rfl aa rfl (ey (ku 4294967296 rfl rfl rfl rfl _ _ rfl rfl ak ak)) ?_;rw[OW j i];refine as_ 10 (q:=mv) (k:=?_);refine dS 11 rfl rfl aa rfl (ey (er rfl rfl 2 rfl a8)) ?_;refine dS 12 rfl rfl aa rfl (ey (gT rfl bH bH c hc)) ?_;refine dS 13 rfl rfl aa rfl (ey ((aA))) ?_;refine dS 14 rfl rfl aa rfl (ey (wA 4294967296 rfl rfl rfl rfl _ 16 rfl rfl)) ?_;refine dS 15 rfl rfl aa rfl (ey (ku 4294967296 rfl rfl rfl rfl _ _ rfl rfl ak ak)) ?_;rw[KS a8 h];refine as_ 16 (q:=mv) (k:=?_);refine dS 17 rfl rfl aa rfl (ey (er rfl rfl 3 rfl a8)) ?_;refine dS 18 rfl rfl aa rfl (ey (gT rfl bH bH d hd)) ?_;refine dS 19 rfl rfl aa rfl (ey ((aA))) ?_;refine dS 20 rfl rfl aa rfl (ey (wA 4294967296 rfl rfl rfl rfl _ 24 rfl rfl)) ?_;refine dS 21 rfl rfl aa rfl (ey (ku 4294967296 rfl rfl rfl rfl _ _ rfl rfl ak ak)) ?_;rw[KR a8 g];refine gR ?_;exact⟨_,dH.refl,by rw[E9 ha e hc hd,show a+256*b+65536*c+16777216*d=a+b*256+c*65536+d*16777216 from a8];rfl,rfl⟩
def nf (l:List Nat):Option (Nat×Nat):=
 match l with
 | []=>none
 |tag::_=>if tag=0 then none else
  match iz 0 ((l.take (min l.length 11)).drop 1)with
  | .error _=>none
  | .ok (n,m)=>if l.length-(1+m)<4∨l.length-(1+m)-4<n then none else
   if mY (l.drop (1+m+n))=w5 (l.take (1+m+n))then some (1+m,1+m+n)else none
theorem YE [hg:Glb G H] [Tab H 27 oc] [Sl H s eB xs] (hn:xs.length≤1000000000000) (c:∀x∈xs,x<256):SC G prog 226 [s.val] H (λv i=>
 (nf xs=none∧i=H∧∃e,v=.tuple #[.int .i64 0,.int .i64 0,.int .i64 0,G.err e])∨(∃f t,nf xs=some (f,t)∧f≤t∧t+4≤xs.length∧i=H∧v=.tuple #[iN f,iN t,iN (t+4),.nilIface])):=by
 refine sWk func226 ?_;refine ws_ (wr_ (e_ asn (e_ asn (e_ asn (e_ asn (on_ (qn_ (ws_ (ws_ (wr_ (e_ mv (e_ lnn (e_ ieq ?_)))))))))))));refine on_ (qn_ (wi_ (k:=λh1=>?_) (m:=λh1=>?_)))
 ·obtain rfl:xs= []:=List.length_eq_zero_iff.1 a8;refine ws_ ?_;refine dX dN (gR ?_);exact⟨_,hsb,.inl ⟨rfl,rfl,_,rfl⟩⟩
 obtain⟨x,r,hx⟩:∃x r,xs=x::r:=by
  cases xs with
  |nil=>simp at h1
  |cons x r=>exact⟨x,r,rfl⟩
 have a:xs[0]? =some x:=by rw[hx];rfl
 have hxb:=c x (Yj a);refine wk_ (qn_ (ws_ (ws_ (wr_ (e_ mv ?_)))));refine e_ (er rfl rfl 0 rfl a8) ?_;refine e_ (gT rfl bH bH x a) ?_;refine gW (λh2=>?_) λh2=>?_
 ·obtain rfl:x=0:=by omega
  have e:nf xs=none:=by rw[hx,nf,if_pos rfl]
  refine ws_ ?_;refine dX dN (gR ?_);exact⟨_,hsb,.inl ⟨e,rfl,_,rfl⟩⟩
 have a:¬x=0:=a8;refine wk_ (qn_ (ws_ (wr_ (e_ mv (e_ mv (e_ lnn ?_))))));refine e_ (oh rfl rfl) ?_;refine kJ H rfl (1) (min xs.length 11) ⟨_,_,rfl,(aT)⟩ ⟨_,_,rfl,(aT)⟩ a8 aP rfl (λs1 i1=>?_);refine c1_ rfl (l3 bT) ?_;rintro _ _ ⟨b1,rfl,rfl⟩;refine go ?_;refine c1_ rfl (oG (Yl _) bT (λy hy=>c y (Yq (Yp hy)))) ?_;rintro v1 H1 h;rw[Va]at h;rcases h with⟨e,he,rfl,rfl⟩|⟨n,m,he,rfl,rfl⟩
 ·have b:nf xs=none:=by rw[hx,nf,if_neg a,←hx,he]
  refine e_ mv (e_ exr (e_ exr (e_ asn (e_ asn (on_ (qn_ (ws_ (ws_ (wr_ (e_ mv ?_))))))))));refine e_ (eg rfl) ?_;refine gk (k:=ift (k:=go ?_));refine rT (k:=?_);exact⟨_,hsb,.inl ⟨b,rfl,_,rfl⟩⟩
 obtain⟨p1,p2,p3,j,p5,p6⟩:=k7 _ 0 n m (λy hy=>c y (Yq (Yp hy))) a8 he;rw[Yo,Yg]at j;have b:nf xs=if xs.length-(1+m)<4∨xs.length-(1+m)-4<n then none else if mY (xs.drop (1+m+n))=w5 (xs.take (1+m+n))then some (1+m,1+m+n)else none:=by rw[hx,nf,if_neg a,←hx,he]
 refine e_ mv (e_ exr (e_ exr (e_ asn (e_ asn (on_ (qn_ (ws_ (ws_ (wr_ (e_ mv ?_))))))))));refine e_ (dL rfl) ?_;refine gk (k:=fM (k:=go ?_));refine d1_ rfl xb ?_;refine e_ (wB rfl rfl (((1+m:Nat)):Int) (by rw[IntKind.wrap_i64];omega)) ?_;refine e_ asn (on_ (qn_ (ws_ (ws_ (wr_ (e_ mv (e_ lnn (e_ mv (e_ isb (e_ asn (on_ (qn_ (ws_ ?_)))))))))))));refine wr_ (e_ mv (e_ ilt (sp_ mv (k:=λh3=>?_) (m:=λh3=>?_))))
 ·refine gk (k:=ift (k:=ws_ ?_));refine dX dN (gR ?_);exact⟨_,hsb,.inl ⟨by rw[b,if_pos a8],rfl,_,rfl⟩⟩
 refine go ?_;refine eg_ (dW 18446744073709551616 rfl rfl rfl (xs.length-(1+m)-4) a8 a8) ?_;refine gW (λh4=>?_) λh4=>?_
 ·refine ws_ ?_;refine dX dN (gR ?_);exact⟨_,hsb,.inl ⟨by rw[b,if_pos a8],rfl,_,rfl⟩⟩
 refine wk_ (qn_ (ws_ (wr_ ?_)));rw[if_neg a8]at b;refine e_ mv (e_ mv ?_);refine e_ (ew rfl a8) ?_;refine e_ (wB rfl rfl (((1+m+n:Nat)):Int) (by rw[IntKind.wrap_i64];omega)) (go ?_);refine dX dN ?_;have g:Sl H (s.cut 1 (1+m+n) xs.length) eB ((xs.take xs.length).drop (1+m+n)):=Sl.cut (e:=eB) inferInstance a8 a8;rw[Xn]at g;have d:Sl H (s.cut 1 0 (1+m+n)) eB ((xs.take (1+m+n)).drop 0):=Sl.cut (e:=eB) inferInstance a8 a8;rw[Va]at d;refine as_ 0 (q:=mv) (k:=as_ 1 (q:=mv) (k:=?_));refine dS 2 rfl rfl aa rfl (ey (fV rfl bH (1+m+n) xs.length ⟨_,_,rfl,rfl⟩ rfl a8 a8)) ?_;refine dS 3 rfl rfl aa rfl (iR (vs:= [_]) rfl (Je ba (λy hy=>c y (Yp hy)))) ?_;refine as_ 4 (q:=mv) (k:=as_ 5 (q:=mv) (k:=?_));refine dS 6 rfl rfl aa rfl (ey (fV rfl bH 0 (1+m+n) rfl ⟨_,_,rfl,rfl⟩ a8 a8)) ?_;refine dS 7 rfl rfl aa rfl (iR (vs:= [_]) rfl (Qy az (λy hy=>c y (Yq hy)))) ?_;refine gW (λh5=>?_) λh5=>?_
 ·rw[if_neg a8]at b;refine ws_ ?_;refine dX dN (gR ?_);exact⟨_,hsb,.inl ⟨b,rfl,_,rfl⟩⟩
 rw[if_pos a8]at b;refine go ?_;refine gR ?_;exact⟨_,hsb,.inr ⟨_,_,b,a8,a8,rfl,rfl⟩⟩
end
theorem PC {G:dJ}{H:dD}{s:SV}{xs:List Nat} [hg:Glb G H] [Tab H 27 oc] [hs:Sl H s eB xs] (hn:xs.length≤1000000000000) (h:∀x∈xs,x<256):SC G prog 173 [s.val] H (λv d=>
 (nf xs=none∧d=H∧∃e,v=.tuple #[.agg #[.int .u8 0,.slice none 0 0],.int .i64 0,G.err e])∨(∃f t x,∃c:SV,nf xs=some (f,t)∧f≤t∧t+4≤xs.length∧xs[0]? =some x∧v=.tuple #[.agg #[.int .u8 ((x:Nat):Int),c.val],iN (t+4),.nilIface]∧d=Row c eB ((xs.take t).drop f)::H)):=by
 refine sWk func173 ?_;refine ws_ (wr_ (alc (k:=λb1=>?_)));refine e_ asn (e_ asn (on_ (qn_ (ws_ (wr_ (e_ mv ?_))))));refine c1_ rfl (YE hn h) ?_;rintro v1 H1 i;rcases i with⟨he,rfl,e,rfl⟩|⟨f,q,he,b,a,rfl,rfl⟩
 ·refine e_ mv (e_ exr (e_ exr (e_ exr (e_ exr (e_ asn (e_ asn (e_ asn (e_ asn (on_ (qn_ (ws_ (ws_ (wr_ ?_)))))))))))));refine e_ mv ?_;refine e_ (eg rfl) ?_;refine on_ (qn_ (ift (k:=ws_ (wr_ (e_ (bld []) (e_ mv (sto (k:=e_ asn (e_ asn (on_ (qn_ (wt_ (qr_ ?_)))))))))))));refine rT (k:=?_);exact⟨_,hsb,.inl ⟨he,rfl,e,rfl⟩⟩
 obtain⟨x,hx⟩:=gE xs 0;have hc:Sl H (s.cut 1 f q) eB ((xs.take q).drop f):=Sl.cut (e:=eB) hs a8 a8;refine e_ mv (e_ exr (e_ exr (e_ exr (e_ exr (e_ asn (e_ asn (e_ asn (e_ asn (on_ (qn_ (ws_ (ws_ (wr_ ?_)))))))))))));refine e_ mv ?_;refine e_ (dL rfl) ?_;refine on_ (qn_ (fM (k:=wk_ (qn_ (ws_ ?_)))));refine wD [7,8,11] (λk H=>(k=1→Sl H s eB xs)∧(k=2→Sl H s eB xs)∧(k=6→Sl H s eB xs)) (aF 0 (k:=?_));refine aN 1 rfl (λH hH=>by have hN:=hH.1 rfl;exact er rfl rfl 0 rfl a8) ?_;refine aN 2 rfl (λH hH=>by have hN:=hH.2.1 rfl;exact gT rfl bH bH x hx) ?_;refine aF 3 (k:=aF 4 (k:=aF 5 (k:=?_)));refine aN 6 rfl (λH hH=>by have hN:=hH.2.2 rfl;exact fV rfl bH f q ⟨_,_,rfl,rfl⟩ ⟨_,_,rfl,rfl⟩ a8 a8) ?_;refine aF 10 (k:=?_);refine aS 7 rfl (fK eSV rfl rfl) ?_;rintro _ _ ⟨s1,rfl,rfl⟩;refine aS 8 rfl (v1_ (wI (s:=s.cut 1 f q) bT)) ?_;rintro _ _ ⟨g,rfl,rfl⟩;refine af_ 9 (q:=ea λH hH=>bld [(0,_),(1,_)]) (k:=?_);refine aS 11 rfl (ej rfl rfl rfl) ?_;rintro _ _ ⟨rfl,rfl⟩;refine aF 12 (k:=aF 13 (k:=aZ (qn_ (wt_ (rT (k:=?_))))));exact⟨_,hsb,.inr ⟨f,q,x,g,he,b,a,hx,rfl,rfl⟩⟩
section
variable {F H:dD}{G:dJ}{s:SV}{xs:List Nat}
def lh:Nat→List Nat→Option (List (Nat×List Nat))
 | 0,l=>if l.length=0 then some []else none
 |n+1,l=>
  match nf l with
  |none=>none
  |some (f,t)=>
   match lh n (l.drop (t+4))with
   |none=>none
   |some r=>some ((l.headD 0,(l.take t).drop f)::r)
def mC (kind:Nat) (l:List Nat):Option (List (Nat×List Nat)):=
 if l.length<10 then none else
 if mY (l.drop (l.length-4))=xh (l.take (l.length-4))then
  if kind=0∨l.take 4≠ [99,110,99,100]∨l[4]? ≠some kind then none else
  match iz 0 (((l.take (l.length-4)).drop 5).take (min ((l.take (l.length-4)).drop 5).length 10))with
  | .error _=>none
  | .ok (n,m)=>lh n (((l.take (l.length-4)).drop 5).drop m)
 else none
def M8 (bl:List (Nat×List Nat)):Option (List (Nat×List Nat))→Option (List (Nat×List Nat))
 |none=>none
 |some r=>some (bl++r)
theorem Iw {l:List Nat}{x:Nat}(h:l[0]? =some x):l.headD 0=x:=by
 cases l with
 |nil=>cases h
 |cons a l=>simp at h;exact h
theorem sy.snoc {l:List (Nat×SV)}{bl:List (Nat×List Nat)}(h:sy F l bl) (x:Nat) (s:SV) (body:List Nat):sy (Row s eB body::F) (l++ [(x,s)]) (bl++ [(x,body)]):=by
 obtain⟨h1,h2⟩:=h;refine⟨by simp[h1],λi p q hp a=>?_⟩
 by_cases hi:i<l.length
 ·rw[Yv hi]at hp;rw[Yv a8]at a;obtain⟨h3,h4⟩:=h2 i p q hp a;exact⟨h3,inferInstance⟩
 ·rw[Yu a8]at hp a;have b:i-l.length=0:=by
   have:=(Yk.1 hp).1;simp at this;omega
  rw[b]at hp;rw[←h1,b]at a;simp at hp a;subst hp;subst a;exact⟨rfl,inferInstance⟩
theorem sy.nil:sy F [] []:=⟨rfl,λi p q h=>aK⟩
def WA (p:Nat×SV) (q:Nat×List Nat):Hp:=Row p.2 eB q.2
theorem Ml [hg:Glb G H] [Tab H 27 oc] [Tab H 25 mA] [hs:Sl H s eB xs] (a:Nat) (hk:a<256) (hn:xs.length≤1000000000) (u:∀x∈xs,x<256):SC G prog 116 [.int .u8 (a:Int),s.val] H (λv V=>
 (mC a xs=none∧V=H∧∃e,v=.tuple #[.slice none 0 0,G.err e])∨(∃j l F,∃R:SV,mC a xs=some j∧sy F l j∧F=(List.zipWith WA l j).reverse∧v=.tuple #[R.val,.nilIface]∧V=Row R eK l::eU F::H)):=by
 refine sWk func116 ?_;refine go ?_;refine wi_ (k:=λh1=>?_) (m:=λh1=>?_)
 ·have e:mC a xs=none:=by rw[mC,if_pos a8]
  refine ws_ ?_;refine dX dN (gR ?_);exact⟨_,hsb,.inl ⟨e,rfl,_,rfl⟩⟩
 have b:mC a xs=if mY (xs.drop (xs.length-4))=xh (xs.take (xs.length-4))then if a=0∨xs.take 4≠ [99,110,99,100]∨xs[4]? ≠some a then none else
  match iz 0 (((xs.take (xs.length-4)).drop 5).take (min ((xs.take (xs.length-4)).drop 5).length 10))with
  | .error _=>none
  | .ok (n,m)=>lh n (((xs.take (xs.length-4)).drop 5).drop m)
  else none:=by rw[mC,if_neg a8]
 obtain⟨M,hx4⟩:=gE xs 4;have hx4b:=u M (Yj hx4);refine wk_ (qn_ (ws_ (wr_ (e_ mv (e_ lnn ?_)))));refine e_ (Mm rfl rfl a8) (go ?_);refine dX dN ?_;have K:Sl H (s.cut 1 (xs.length-4) xs.length) eB ((xs.take xs.length).drop (xs.length-4)):=Sl.cut (e:=eB) inferInstance a8 a8;rw[Xn]at K;have J:Sl H (s.cut 1 0 (xs.length-4)) eB ((xs.take (xs.length-4)).drop 0):=Sl.cut (e:=eB) inferInstance a8 a8;rw[Va]at J;refine as_ 0 (q:=mv) (k:=as_ 1 (q:=mv) (k:=?_));refine dS 2 rfl rfl aa rfl (ey (fV rfl bH (xs.length-4) xs.length ⟨_,_,rfl,a8⟩ rfl a8 a8)) ?_;refine dS 3 rfl rfl aa rfl (iR (vs:= [_]) rfl (Je ba (λy hy=>u y (Yp hy)))) ?_;refine as_ 4 (q:=mv) (k:=as_ 5 (q:=mv) (k:=?_));refine dS 6 rfl rfl aa rfl (ey (fV rfl bH 0 (xs.length-4) rfl ⟨_,_,rfl,a8⟩ a8 a8)) ?_;refine dS 7 rfl rfl aa rfl (iR (vs:= [_]) rfl (Kg az (λy hy=>u y (Yq hy)))) ?_;refine gW (λh2=>?_) λh2=>?_
 ·rw[if_neg a8]at b;refine ws_ ?_;refine dX dN (gR ?_);exact⟨_,hsb,.inl ⟨b,rfl,_,rfl⟩⟩
 rw[if_pos a8]at b;refine wk_ (qn_ (ws_ (ws_ (wr_ ?_))));have E:Sl H (s.cut 1 0 4) eB ((xs.take 4).drop 0):=Sl.cut (e:=eB) inferInstance a8 a8;rw[Va]at E;refine e_ mv (e_ ieq (sp_ mv (k:=λh3=>?_) (m:=λh3=>?_)))
 ·refine go ?_;refine ift (k:=ws_ ?_);refine dX dN (gR ?_);refine⟨_,hsb,.inl ⟨?_,rfl,_,rfl⟩⟩;rw[b,if_pos]
  first
   |exact .inl a8
   |exact .inr (.inl aU)
   |exact .inr (.inr cF)
 refine go ?_;refine eg_ (fV rfl bH 0 4 rfl ⟨_,_,rfl,rfl⟩ a8 a8) ?_;refine eg_ (fx rfl) ?_;refine eg_ (D9 rfl rfl (λy hy=>u y (Yq hy)) (ys:= [99,110,99,100]) ax) ?_;refine e_ pkf (sp_ mv (k:=λh4=>?_) (m:=λh4=>?_))
 ·refine gk (k:=ift (k:=ws_ ?_));refine dX dN (gR ?_);refine⟨_,hsb,.inl ⟨?_,rfl,_,rfl⟩⟩;rw[b,if_pos]
  first
   |exact .inl a8
   |exact .inr (.inl aU)
   |exact .inr (.inr cF)
 refine eg_ mv ?_;refine eg_ (er rfl rfl 4 rfl a8) ?_;refine eg_ (gT rfl bH bH M hx4) ?_;refine gW (λh5=>?_) λh5=>?_
 ·refine ws_ ?_;refine dX dN (gR ?_);refine⟨_,hsb,.inl ⟨?_,rfl,_,rfl⟩⟩;rw[b,if_pos]
  first
   |exact .inl a8
   |exact .inr (.inl aU)
   |exact .inr (.inr cF)
 refine wk_ (qn_ (ws_ (wr_ ?_)));rw[if_neg (by
  rintro(h|h|h)
  ·omega
  ·exact h aU
  ·exact h (by rw[hx4];congr 1;omega))]at b
 refine go ?_;refine kJ H rfl (5) (xs.length-4) ⟨_,_,rfl,(aT)⟩ ⟨_,_,rfl,(aT)⟩ a8 aP rfl (λs1 i1=>?_);obtain⟨c,g⟩:=ex ((xs.take (xs.length-4)).drop 5);rw[←g]at i1 b;have i:∀y∈c,y<256:=λy hy=>u y (Yq (Yp (g ▸ hy)));have hlr:c.length=xs.length-9:=by rw[g,Yo,Yg];omega
 refine e_ asn (on_ (qn_ (ws_ (wr_ (e_ mv (e_ mv (e_ lnn ?_)))))));refine e_ (oh rfl rfl) ?_;refine kJ H rfl (0) (min c.length 10) rfl ⟨_,_,rfl,(aT)⟩ a8 aP rfl (λN i2=>?_);rw[Va]at i2;refine c1_ rfl (l3 az) ?_;rintro _ _ ⟨b1,rfl,rfl⟩;refine go ?_;refine c1_ rfl (oG (Yl _) az (λy hy=>i y (Yq hy))) ?_;rintro X H1 w;rw[Va]at w;rcases w with⟨e,he,rfl,rfl⟩|⟨n,m,he,rfl,rfl⟩
 ·rw[he]at b;refine e_ mv (e_ exr (e_ exr (e_ asn (e_ asn (on_ (qn_ (ws_ (ws_ (wr_ (e_ mv ?_))))))))));refine e_ (eg rfl) ?_;refine gk (k:=ift (k:=gR ?_));exact⟨_,hsb,.inl ⟨b,rfl,_,rfl⟩⟩
 obtain⟨p1,p2,p3,p4,p5,p6⟩:=k7 _ 0 n m (λy hy=>i y (Yq hy)) a8 he;rw[Yg]at p4;rw[he]at b;replace b:mC a xs=lh n (c.drop m):=b;refine e_ mv (e_ exr (e_ exr (e_ asn (e_ asn (on_ (qn_ (ws_ (ws_ (wr_ (e_ mv ?_))))))))));refine e_ (dL rfl) ?_;refine gk (k:=fM (k:=go ?_));refine d1_ rfl xb ?_;refine kJ H rfl m c.length ⟨_,_,rfl,(aT)⟩ rfl a8 aP rfl (λs3 T=>?_);rw[Xn]at T;refine gk (k:=wl_ (SV×SV×Nat×List Nat×List (Nat×SV)×List (Nat×List Nat)×dD) (λy=>Sl H y.2.1 eB y.2.2.2.1∧(∀z∈y.2.2.2.1,z<256)∧sy y.2.2.2.2.2.2 y.2.2.2.2.1 y.2.2.2.2.2.1∧y.2.2.1<18446744073709551616∧y.2.2.2.2.1.length+y.2.2.2.1.length≤1000000000∧mC a xs=M8 y.2.2.2.2.2.1 (lh y.2.2.1 y.2.2.2.1)∧y.2.2.2.2.2.2=(List.zipWith WA y.2.2.2.2.1 y.2.2.2.2.2.1).reverse) (λy=>[(7,y.2.1.val),(9,uN y.2.2.1),(11,y.1.val)]) (λy=>Row y.1 eK y.2.2.2.2.1::eU y.2.2.2.2.2.2::H) (λy=>y.2.2.1) ((SV.nil,s3,n,c.drop m, [], [], [])) (h0:=?_) (k:=?_))
 ·try dsimp only
  refine⟨T,λz C=>i z (Yp C),sy.nil,a8,by rw[Yo];simp only[Yc];omega,?_,rfl⟩;rw[b];cases lh n (c.drop m)with
  |none=>rfl
  |some r=>rfl
 rintro⟨Y,sr,B,r,l,j,F⟩ ⟨hsr,t,L,hn',hlen,hI,U⟩
 try dsimp only at*
 refine gW (λh6=>?_) λh6=>?_
 ·obtain⟨d,rfl⟩:∃d,B=d+1:=⟨B-1,a8⟩;rw[lh]at hI;refine go ?_;refine c1_ rfl (PC (xs:=r) a8 t) ?_;rintro X H1 w;rcases w with⟨p,rfl,e,rfl⟩|⟨f,q,x,A,p,hft,htl,hx,rfl,rfl⟩
  all_goals rw[p]at hI
  all_goals simp only[]at hI
  ·refine gk (k:=alc (k:=λb1=>?_));refine sto (k:=e_ asn (e_ asn (on_ (qn_ (ws_ (ws_ (wr_ (e_ mv ?_))))))));refine e_ (eg rfl) ?_;refine gk (k:=ift (k:=go ?_));refine gR ?_;exact⟨_,hsb,.inl ⟨hI,rfl,_,rfl⟩⟩
  refine gk (k:=alc (k:=λb2=>?_));refine sto (k:=e_ asn (e_ asn (on_ (qn_ (ws_ (ws_ (wr_ (e_ mv ?_))))))));refine e_ (dL rfl) ?_;refine gk (k:=fM (k:=gk (k:=fS eK (k:=λs1=>?_))));refine app (k:=λN=>?_);refine go ?_;refine kJ H rfl (q+4) r.length ⟨_,_,rfl,(aT)⟩ rfl a8 aP rfl (λZ S=>?_);rw[Xn]at S;refine e_ asn (on_ (bn_ (qn_ (wr_ (e_ mv ?_)))));refine e_ (Bb 18446744073709551616 rfl rfl rfl rfl _ 1 rfl rfl a8 a8) (go ?_);refine lN ((N,Z,d,r.drop (q+4),l++ [(x,A)],j++ [(x,(r.take q).drop f)],Row A eB ((r.take q).drop f)::F)) ?_
  try dsimp only
  refine⟨S,λz C=>t z (Yp C),L.snoc x A _,a8,by rw[Ya,Yo];simp only[Yb,Yc];omega,?_,by rw[List.zipWith_append L.1,U,List.reverse_append];rfl⟩;rw[hI,Iw hx];cases lh d (r.drop (q+4))with
  |none=>rfl
  |some r'=>simp[M8]
 obtain rfl:B=0:=a8;rw[lh]at hI;refine gW (λh7=>?_) λh7=>?_
 ·rw[if_neg a8]at hI;refine ws_ ?_;refine dX dN (gR ?_);exact⟨_,hsb,.inl ⟨hI,rfl,_,rfl⟩⟩
 rw[if_pos a8]at hI;refine gR ?_;exact⟨_,hsb,.inr ⟨j,l,F,Y,by rw[hI];simp[M8],L,U,rfl,rfl⟩⟩
theorem PA [hg:Glb G H] [Tab H 27 oc] [Tab H 25 mA] [hs:Sl H s eB xs] (a:Nat) (hk:a<256) (hn:xs.length≤1000000000) (f:∀x∈xs,x<256):SC G prog 116 [.int .u8 (a:Int),s.val] H (λv d=>
 (mC a xs=none∧d=H∧∃e,v=.tuple #[.slice none 0 0,G.err e])∨(∃c l F,∃b:SV,mC a xs=some c∧sy F l c∧v=.tuple #[b.val,.nilIface]∧d=Row b eK l::eU F::H)):=
 (Ml a hk hn f).mono λv d h=>h.imp id λ⟨c,l,F,b,h1,h2,_,h3,h4⟩=>⟨c,l,F,b,h1,h2,h3,h4⟩
end
section
variable {G:dJ}{H:dD}
structure FV where
 name:ByteArray
 kind:Int
 fold:Bool
 stop:Bool
 stem:Bool
def eF:Enc FV:=⟨λp=>[.string p.name,.int .i64 p.kind,.bool p.fold,.bool p.stop,.bool p.stem],5,true,λ_=>rfl,λp v h=>by simp at h;rcases h with rfl|rfl|rfl|rfl|rfl <;> rfl,ae,λh=>aK,ae⟩
instance {p:FV}:kV eF p (.agg [.string p.name,.int .i64 p.kind,.bool p.fold,.bool p.stop,.bool p.stem].toArray):=⟨rfl⟩
instance {n:ByteArray}{k:Int}{a b c:Bool}:gP eF (.agg [.string n,.int .i64 k,.bool a,.bool b,.bool c].toArray) ⟨n,k,a,b,c⟩:=⟨rfl⟩
def nD (i c:Nat):Bool:=decide ((97≤c∧c≤122)∨(i≠0∧(c=95∨(48≤c∧c≤57))))
def sI:Nat→List Nat→Bool
 |_, []=>true
 |i,c::r=>nD i c&&sI (i+1) r
def ju (l:List Nat):Bool:=decide (1≤l.length∧l.length≤32)&&sI 0 l
def iG (f:FV):Bool:=if f.kind=1 then true else if f.kind=2∨f.kind=3 then !f.fold&&!f.stop&&!f.stem else false
def uw:List (List Nat)→List FV→Bool
 |_, []=>true
 |seen,f::r=>!decide (dC f.name∈seen)&&(ju (dC f.name)&&(iG f&&uw (seen++ [dC f.name]) r))
def iK (fs:List FV):Bool:=decide (1≤fs.length∧fs.length≤16)&&uw [] fs
theorem M6 (s:ByteArray) (hn:s.size≤1000000000000):SC G prog 156 [.string s] H (λv d=>v=.bool (ju (dC s))∧d=H):=by
 have hs:=dI s;refine sWk func156 ?_;refine ws_ (wr_ (e_ asn (on_ (qn_ (ws_ (ws_ (wr_ (e_ mv (e_ xO (e_ ilt (sp_ mv (k:=λh1=>?_) (m:=λh1=>?_))))))))))))
 ·refine gk (k:=ift (k:=go ?_));refine rT (k:=?_);have e:ju (dC s)=false:=bL;exact⟨_,dH.refl,by rw[e];rfl,rfl⟩
 refine gW (λh2=>?_) λh2=>?_
 ·refine gR ?_;have e:ju (dC s)=false:=bL;exact⟨_,dH.refl,by rw[e];rfl,rfl⟩
 have e:ju (dC s)=sI 0 (dC s):=by unfold ju;rw[Ys a8];rfl
 refine gk (k:=wl_ Nat (λi=>i≤s.size∧ju (dC s)=sI i ((dC s).drop i)) (λi=>[(0,.string s),(15,iN s.size),(16,iN i)]) (λ_=>H) (λi=>s.size-i) (0) (h0:=?_) (k:=?_))
 ·try dsimp only
  exact⟨Yl _,by rw[e,Va]⟩
 rintro i ⟨hi,hI⟩
 try dsimp only at*
 refine gW (λh3=>?_) λh3=>?_
 ·obtain⟨c,hc⟩:=gE (dC s) i;rw[eh hc,sI]at hI;refine wk_ (qn_ (ws_ (wb_ (ws_ (wr_ (e_ mv (e_ asn (on_ (qn_ (ws_ (wr_ (e_ mv (e_ mv ?_)))))))))))));refine e_ (qb rfl rfl _ rfl _ (by first|assumption|rfl|exact Yi a8)) ?_;refine e_ asn (on_ (qn_ (ws_ (wr_ (e_ mv (e_ ige (sp_ mv (k:=λh4=>?_) (m:=λh4=>?_))))))))
  ·refine eg_ mv (eg_ ile (e_ pkt (e_ asn (on_ (qn_ (ws_ (wr_ (e_ mv (e_ mN (sp_ mv (k:=λh5=>?_) (m:=λh5=>?_)))))))))))
   ·refine eg_ mv (eg_ ieq (tB mv (k:=λh6=>?_) (m:=λh6=>?_)))
    ·refine go ?_;refine ift (k:=gR ?_);exact⟨_,dH.refl,au,rfl⟩
    refine eg_ mv (eg_ ine (tB mv (k:=λb=>?_) (m:=λb=>?_)))
    ·refine eg_ mv (eg_ ilt (tB mv (k:=λh8=>?_) (m:=λh8=>?_)))
     ·refine gk (k:=ift (k:=go ?_));refine gR ?_;exact⟨_,dH.refl,au,rfl⟩
     refine gW (λh9=>?_) λh9=>?_
     ·refine gR ?_;exact⟨_,dH.refl,au,rfl⟩
     refine go ?_;refine lN (i+1) ?_
     try dsimp only
     refine⟨a8,?_⟩;rw[hI,show nD i c=true from Ys a8,Xv]
    refine gk (k:=fM (k:=go ?_));refine go ?_;refine lN (i+1) ?_
    try dsimp only
    refine⟨a8,?_⟩;rw[hI,show nD i c=true from Ys a8,Xv]
   refine go ?_;refine gk (k:=fM (k:=go ?_));refine lN (i+1) ?_
   try dsimp only
   refine⟨a8,?_⟩;rw[hI,show nD i c=true from Ys a8,Xv]
  refine of_ (of_ (e_ pkf (e_ asn (on_ (qn_ (ws_ (wr_ (e_ mv (e_ mN (e_ mv (eg_ mv (eg_ ieq (tB mv (k:=λh10=>?_) (m:=λh10=>?_))))))))))))))
  ·refine go ?_;refine ift (k:=gR ?_);exact⟨_,dH.refl,au,rfl⟩
  refine eg_ mv (eg_ ine (tB mv (k:=λh11=>?_) (m:=λh11=>?_)))
  ·refine eg_ mv (eg_ ilt (tB mv (k:=λh12=>?_) (m:=λh12=>?_)))
   ·refine gk (k:=ift (k:=go ?_));refine gR ?_;exact⟨_,dH.refl,au,rfl⟩
   refine gW (λa=>?_) λa=>?_
   ·refine gR ?_;exact⟨_,dH.refl,au,rfl⟩
   refine go ?_;refine lN (i+1) ?_
   try dsimp only
   refine⟨a8,?_⟩;rw[hI,show nD i c=true from Ys a8,Xv]
  refine gk (k:=fM (k:=go ?_));refine go ?_;refine lN (i+1) ?_
  try dsimp only
  refine⟨a8,?_⟩;rw[hI,show nD i c=true from Ys a8,Xv]
 obtain rfl:i=s.size:=a8;rw[Vn a8,sI]at hI;refine gR ?_;exact⟨_,dH.refl,by rw[hI];rfl,rfl⟩
theorem M7 (f:FV):SC G prog 157 [.agg #[.string f.name,.int .i64 f.kind,.bool f.fold,.bool f.stop,.bool f.stem]] H (λv b=>v=.bool (iG f)∧b=H):=by
 refine sWk func157 ?_;refine gk (k:=bxx (k:=λb1=>?_));refine go ?_;refine gW (λh1=>?_) λh1=>?_
 ·refine gR ?_;exact⟨_,hsb,by unfold iG;rw[if_pos aU];rfl,rfl⟩
 refine gW (λh2=>?_) λh2=>?_
 ·refine gW (λh3=>?_) λh3=>?_
  ·refine ws_ (wr_ (e_ fla (e_ ldv (e_ mN (sp_ mv (k:=λh4=>?_) (m:=λh4=>?_))))))
   ·refine eg_ fla (eg_ ldv (eg_ mN (e_ pkt (sp_ mv (k:=λh5=>?_) (m:=λh5=>?_)))))
    ·refine gR ?_;exact⟨_,hsb,aH,rfl⟩
    refine gR ?_;exact⟨_,hsb,aH,rfl⟩
   refine go ?_;refine gR ?_;exact⟨_,hsb,aH,rfl⟩
  refine gR ?_;exact⟨_,hsb,by unfold iG;rw[if_neg a8,if_neg a8];rfl,rfl⟩
 refine gW (λh6=>?_) λh6=>?_
 ·refine ws_ (wr_ (e_ fla (e_ ldv (e_ mN (sp_ mv (k:=λa=>?_) (m:=λa=>?_))))))
  ·refine eg_ fla (eg_ ldv (eg_ mN (e_ pkt (sp_ mv (k:=λh8=>?_) (m:=λh8=>?_)))))
   ·refine gR ?_;exact⟨_,hsb,aH,rfl⟩
   refine gR ?_;exact⟨_,hsb,aH,rfl⟩
  refine go ?_;refine gR ?_;exact⟨_,hsb,aH,rfl⟩
 refine gR ?_;exact⟨_,hsb,by unfold iG;rw[if_neg a8,if_neg a8];rfl,rfl⟩
end
def nm (f:FV):List Nat:=dC f.name
theorem AF {G:dJ}{H:dD}{s:SV}{fs:List FV} [hg:Glb G H] [hs:Sl H s eF fs] (hn:fs.length≤1000000000) (hf:∀f∈fs,f.name.size≤1000000000000):SC G prog 112 [.agg #[s.val]] H (λv h=>h=H∧((iK fs=false∧v=G.err 0)∨(iK fs=true∧v=.nilIface))):=by
 refine sWk func112 ?_;refine gk (k:=bxx (k:=λg=>?_));refine e_ asn (on_ (qn_ (ws_ (ws_ (wr_ (e_ fla (e_ ldv (e_ lnn (e_ ilt (sp_ mv (k:=λh1=>?_) (m:=λh1=>?_)))))))))))
 ·refine gk (k:=ift (k:=go ?_));refine gR ?_;have e:iK fs=false:=bP;exact⟨_,hsb,rfl,.inl ⟨e,rfl⟩⟩
 refine gW (λh2=>?_) λh2=>?_
 ·refine gR ?_;have e:iK fs=false:=bP;exact⟨_,hsb,rfl,.inl ⟨e,rfl⟩⟩
 refine wk_ (qn_ (ws_ (wr_ ?_)));have e:iK fs=uw [] fs:=by unfold iK;rw[Ys a8];rfl
 refine go ?_;refine s_ (Ek rfl) ?_;rintro _ _ ⟨d,rfl,rfl⟩;refine gk (k:=wl_ (Nat×List (List Nat)) (λy=>y.1≤fs.length∧iK fs=uw y.2 (fs.drop y.1)) (λy=>[(1,pA g),(3,.map (some d)),(24,s.val),(25,iN fs.length),(26,iN y.1)]) (λy=>Mp d y.2::H) (λy=>fs.length-y.1) ((0, [])) (h0:=?_) (k:=?_))
 ·try dsimp only
  exact⟨Yl _,by rw[e,Va]⟩
 rintro⟨i,a⟩ ⟨hi,hI⟩
 try dsimp only at*
 refine gW (λh3=>?_) λh3=>?_
 ·obtain⟨f,b⟩:=gE fs i;have c:=hf f (Yj b);rw[eh b,uw]at hI;refine gk (k:=alc (k:=λb2=>?_));refine go ?_;refine s_ (HW rfl rfl) ?_;rintro _ _ ⟨⟨lv1,rfl⟩,rfl⟩;refine e_ mv (e_ exr (e_ exr (e_ asn (e_ asn (on_ (qn_ (ws_ (wr_ (e_ mv (sp_ mv (k:=λh4=>?_) (m:=λh4=>?_)))))))))))
  ·refine gk (k:=ift (k:=go ?_));refine gR ?_;refine⟨_,hsb,rfl,.inl ⟨?_,rfl⟩⟩;rw[hI];simp_all
  refine go ?_;refine sg_ (v1_ (M6 f.name c)) (k:=?_);rintro _ _ ⟨rfl,rfl⟩;refine eg_ mN (e_ pkf (sp_ mv (k:=λh5=>?_) (m:=λh5=>?_)))
  ·refine gk (k:=ift (k:=go ?_));refine gR ?_;refine⟨_,hsb,rfl,.inl ⟨?_,rfl⟩⟩;rw[hI];simp_all
  refine go ?_;refine sg_ (v1_ (M7 f)) (k:=?_);rintro _ _ ⟨rfl,rfl⟩;refine gW (λh6=>?_) λh6=>?_
  ·refine gR ?_;refine⟨_,hsb,rfl,.inl ⟨?_,rfl⟩⟩;rw[hI];simp_all
  refine go ?_;refine s_ (Az rfl rfl rfl aU) ?_;rintro _ _ ⟨rfl,rfl⟩;refine go ?_;refine lN ((i+1,a++ [dC f.name])) ?_
  try dsimp only
  refine⟨a8,?_⟩;rw[hI];simp_all
 obtain rfl:i=fs.length:=a8;rw[Vn (Xl _),uw]at hI;refine gR ?_;exact⟨_,hsb,rfl,.inr ⟨hI,rfl⟩⟩
section
variable {fs:List FV}
def kB (f:FV):Nat:=f.kind.toNat+(if f.fold then 4 else 0)+(if f.stop then 8 else 0)+(if f.stem then 16 else 0)
def kR (f:FV):List Nat:=uv f.name.size++dC f.name++ [kB f]
def re (fs:List FV):List Nat:=fs.flatMap kR
def Bh (fs:List FV):List Nat:=uv fs.length++re fs
theorem jR (l:List FV) (f:FV):re (l++ [f])=re l++kR f:=by simp[re]
theorem DC:∀(fs:List FV) (seen:List (List Nat)),uw seen fs=true→∀f∈fs,ju (dC f.name)=true∧iG f=true
 | [],_,_,f,h=>bx
 |a::r,seen,hc,f,h=>by
  simp only[uw,Xu]at hc;rcases Xo.1 h with rfl|h
  ·exact⟨hc.2.1,hc.2.2.1⟩
  ·exact DC r _ hc.2.2.2 f h
theorem IA {l:List Nat}(h:ju l=true):1≤l.length∧l.length≤32:=by
 simp only[ju,Xu,Xq]at h;exact h.1
theorem Fh {f:FV}(h:iG f=true):f.kind=1∨(f.kind=2∨f.kind=3)∧f.fold=false∧f.stop=false∧f.stem=false:=by
 unfold iG at h
 split at h
 ·exact .inl aU
 ·split at h
  ·simp only[Xu,Uf]at h;exact .inr ⟨aU,h.1.1,h.1.2,h.2⟩
  ·cases h
theorem jx (h:iK fs=true):(1≤fs.length∧fs.length≤16)∧∀f∈fs,f.name.size≤32∧1≤f.kind∧f.kind≤3:=by
 simp only[iK,Xu,Xq]at h;refine⟨h.1,λf a=>?_⟩;obtain⟨h1,h2⟩:=DC fs [] h.2 f a;have h3:=IA h1;rw[dI]at h3;rcases Fh h2 with h4|⟨h4,_⟩ <;> omega
theorem SZ:∀(k:Fin 4) (a b c:Bool),(let x:=if a then k.val ||| 4 else k.val;let y:=if b then x ||| 8 else x;if c then y ||| 16 else y)=k.val+(if a then 4 else 0)+(if b then 8 else 0)+(if c then 16 else 0):=ae
theorem XE (f:FV) (h:f.kind.toNat≤3):(if f.stem then(if f.stop then(if f.fold then f.kind.toNat ||| 4 else f.kind.toNat) ||| 8 else(if f.fold then f.kind.toNat ||| 4 else f.kind.toNat)) ||| 16 else(if f.stop then(if f.fold then f.kind.toNat ||| 4 else f.kind.toNat) ||| 8 else(if f.fold then f.kind.toNat ||| 4 else f.kind.toNat)))=kB f:=
 SZ ⟨f.kind.toNat,a8⟩ f.fold f.stop f.stem
theorem Ol {G:dJ}{H:dD}{s:SV} [hg:Glb G H] [hs:Sl H s eF fs] (hn:fs.length≤1000000000) (hf:∀f∈fs,f.name.size≤1000000000000):SC G prog 161 [.agg #[s.val]] H (λv h=>(iK fs=false∧v=.tuple #[.slice none 0 0,G.err 0]∧h=H)∨(iK fs=true∧∃d:SV,v=.tuple #[d.val,.nilIface]∧h=Row d eB (Bh fs)::H)):=by
 refine sWk func161 ?_;refine gk (k:=bxx (k:=λb1=>?_));refine go ?_;refine c1_ rfl (AF hn hf) ?_;rintro v1 H1 m;rcases m with⟨rfl,⟨hc,rfl⟩|⟨hc,rfl⟩⟩
 ·refine e_ asn (on_ (qn_ (ws_ (wr_ (e_ mv ?_)))));refine e_ (eg rfl) ?_;refine gk (k:=ift (k:=gR ?_));exact⟨_,hsb,.inl ⟨hc,rfl,rfl⟩⟩
 obtain⟨⟨hl1,hl2⟩,c⟩:=jx hc;refine e_ asn (on_ (qn_ (ws_ (wr_ (e_ mv ?_)))));refine e_ (dL rfl) ?_;refine gk (k:=fM (k:=go ?_));refine c0_ rfl iM ?_;rintro _ _ ⟨g,rfl,rfl⟩;refine e_ asn (on_ (qn_ (ws_ (wr_ (e_ mv (e_ fla (e_ ldv (e_ lnn ?_))))))));refine e_ ((ad)) ?_;refine d2_ rfl (gl fs.length a8 aq) (gk (k:=wl_ (Nat×List Nat) (λy=>y.1≤fs.length∧y.2=uv fs.length++re (fs.take y.1)∧y.2.length≤100+100*y.1) (λy=>[(5,pA g),(22,s.val),(23,iN fs.length),(24,iN y.1)]) (λy=>Wr g y.2::H) (λy=>fs.length-y.1) ((0,uv fs.length)) (h0:=?_) (k:=?_)))
 ·try dsimp only
  have:=iw (n:=fs.length) a8;exact⟨Yl _,by simp[re],a8⟩
 rintro⟨i,zs⟩ ⟨hi,hI,hzl⟩
 try dsimp only at*
 refine gW (λh1=>?_) λh1=>?_
 ·obtain⟨f,b⟩:=gE fs i;obtain⟨hfn,hk1,hk2⟩:=c f (Yj b);have hul:=iw (n:=f.name.size) a8;have hbl:=dI f.name;have a:=XE f a8;have e:f.kind.toNat<256:=a8;have l:f.kind.toNat ||| 4<256:=U7 (n:=8) e ae;have o2:f.kind.toNat ||| 4 ||| 8<256:=U7 (n:=8) l ae;have o3:f.kind.toNat ||| 8<256:=U7 (n:=8) e ae;have hel:(kR f).length≤100:=by simp only[kR,Ya,Yb,Yc];omega
  refine gk (k:=alc (k:=λb2=>?_));refine go ?_;refine d2_ rfl (Jj f.name a8 a8) (on_ (qn_ (ws_ (wr_ (e_ fla (e_ ldv ?_))))));refine e_ (dW 256 rfl rfl rfl f.kind.toNat a8 a8) ?_;refine gW (λh2=>?_) λh2=>?_
  ·refine wr_ (e_ mv ?_);refine e_ (ku 256 rfl rfl rfl rfl _ 4 rfl rfl ak ak) ?_;refine gW (λh3=>?_) λh3=>?_
   ·refine wr_ (e_ mv ?_);refine e_ (ku 256 rfl rfl rfl rfl _ 8 rfl rfl ak ak) ?_;refine gW (λh4=>?_) λh4=>?_
    ·refine wr_ (e_ mv ?_);refine e_ (ku 256 rfl rfl rfl rfl _ 16 rfl rfl ak ak) ?_;refine e_ asn (on_ (qn_ (wr_ ?_)));simp only[*,Xx,↓reduceIte]at a;rw[a];refine go ?_;refine d2_ rfl (qA (kB f) aj) (go ?_);refine ln_ ((i+1,zs++kR f)) (h4:=?_) (k:=?_)
     ·try dsimp only
      rw[show zs++kR f=zs++(uv f.name.size++dC f.name)++ [kB f] by simp[kR]];exact hsb
     try dsimp only
     refine⟨a8,?_,aj⟩;rw[hI,dK b,jR,Yf]
    refine wk_ (qn_ (wr_ ?_));simp only[*,Xx,↓reduceIte]at a;rw[a];refine go ?_;refine d2_ rfl (qA (kB f) aj) (go ?_);refine ln_ ((i+1,zs++kR f)) (h4:=?_) (k:=?_)
    ·try dsimp only
     rw[show zs++kR f=zs++(uv f.name.size++dC f.name)++ [kB f] by simp[kR]];exact hsb
    try dsimp only
    refine⟨a8,?_,aj⟩;rw[hI,dK b,jR,Yf]
   refine gW (λh5=>?_) λh5=>?_
   ·refine wr_ (e_ mv ?_);refine e_ (ku 256 rfl rfl rfl rfl _ 16 rfl rfl ak ak) ?_;refine e_ asn (on_ (qn_ (wr_ ?_)));simp only[*,Xx,↓reduceIte]at a;rw[a];refine go ?_;refine d2_ rfl (qA (kB f) aj) (go ?_);refine ln_ ((i+1,zs++kR f)) (h4:=?_) (k:=?_)
    ·try dsimp only
     rw[show zs++kR f=zs++(uv f.name.size++dC f.name)++ [kB f] by simp[kR]];exact hsb
    try dsimp only
    refine⟨a8,?_,aj⟩;rw[hI,dK b,jR,Yf]
   refine wk_ (qn_ (wr_ ?_));simp only[*,Xx,↓reduceIte]at a;rw[a];refine go ?_;refine d2_ rfl (qA (kB f) aj) (go ?_);refine ln_ ((i+1,zs++kR f)) (h4:=?_) (k:=?_)
   ·try dsimp only
    rw[show zs++kR f=zs++(uv f.name.size++dC f.name)++ [kB f] by simp[kR]];exact hsb
   try dsimp only
   refine⟨a8,?_,aj⟩;rw[hI,dK b,jR,Yf]
  refine gW (λh6=>?_) λh6=>?_
  ·refine wr_ (e_ mv ?_);refine e_ (ku 256 rfl rfl rfl rfl _ 8 rfl rfl ak ak) ?_;refine gW (λp=>?_) λp=>?_
   ·refine wr_ (e_ mv ?_);refine e_ (ku 256 rfl rfl rfl rfl _ 16 rfl rfl ak ak) ?_;refine e_ asn (on_ (qn_ (wr_ ?_)));simp only[*,Xx,↓reduceIte]at a;rw[a];refine go ?_;refine d2_ rfl (qA (kB f) aj) (go ?_);refine ln_ ((i+1,zs++kR f)) (h4:=?_) (k:=?_)
    ·try dsimp only
     rw[show zs++kR f=zs++(uv f.name.size++dC f.name)++ [kB f] by simp[kR]];exact hsb
    try dsimp only
    refine⟨a8,?_,aj⟩;rw[hI,dK b,jR,Yf]
   refine wk_ (qn_ (wr_ ?_));simp only[*,Xx,↓reduceIte]at a;rw[a];refine go ?_;refine d2_ rfl (qA (kB f) aj) (go ?_);refine ln_ ((i+1,zs++kR f)) (h4:=?_) (k:=?_)
   ·try dsimp only
    rw[show zs++kR f=zs++(uv f.name.size++dC f.name)++ [kB f] by simp[kR]];exact hsb
   try dsimp only
   refine⟨a8,?_,aj⟩;rw[hI,dK b,jR,Yf]
  refine gW (λh8=>?_) λh8=>?_
  ·refine wr_ (e_ mv ?_);refine e_ (ku 256 rfl rfl rfl rfl _ 16 rfl rfl ak ak) ?_;refine e_ asn (on_ (qn_ (wr_ ?_)));simp only[*,Xx,↓reduceIte]at a;rw[a];refine go ?_;refine d2_ rfl (qA (kB f) aj) (go ?_);refine ln_ ((i+1,zs++kR f)) (h4:=?_) (k:=?_)
   ·try dsimp only
    rw[show zs++kR f=zs++(uv f.name.size++dC f.name)++ [kB f] by simp[kR]];exact hsb
   try dsimp only
   refine⟨a8,?_,aj⟩;rw[hI,dK b,jR,Yf]
  refine wk_ (qn_ (wr_ ?_));simp only[*,Xx,↓reduceIte]at a;rw[a];refine go ?_;refine d2_ rfl (qA (kB f) aj) (go ?_);refine ln_ ((i+1,zs++kR f)) (h4:=?_) (k:=?_)
  ·try dsimp only
   rw[show zs++kR f=zs++(uv f.name.size++dC f.name)++ [kB f] by simp[kR]];exact hsb
  try dsimp only
  refine⟨a8,?_,aj⟩;rw[hI,dK b,jR,Yf]
 obtain rfl:i=fs.length:=a8;rw[Xn]at hI;have hI':zs=Bh fs:=hI;subst hI';refine go ?_;refine c1_ rfl (kK a8) ?_;rintro _ _ ⟨j,rfl,rfl⟩;refine gR ?_;exact⟨_,hsb,.inr ⟨hc,j,rfl,rfl⟩⟩
end
def mkF (q:List Nat) (k:Nat):FV:=⟨eG q,((k &&& 3:Nat):Int),decide (((k &&& 4:Nat):Int)≠0),decide (((k &&& 8:Nat):Int)≠0),decide (((k &&& 16:Nat):Int)≠0)⟩
theorem I8 {most:Nat}{l q:List Nat}{m:Nat}(a:∀x∈l,x<256) (h:mq most l=.ok (q,m)):m≤l.length∧q.length≤most∧(∀x∈q,x<256)∧l.take m=uv q.length++q:=by
 unfold mq at h
 split at h
 ·cases h
 ·rename_i n b hr;obtain⟨h1,h2,h3,h4⟩:=lL a hr
  split at h
  ·cases h
  ·simp only[Except.ok.injEq,Prod.mk.injEq]at h;obtain⟨rfl,rfl⟩:=h;have hl:((l.drop b).take n).length=n:=by rw[Yg,Yo];omega
   refine⟨a8,a8,λx hx=>a x (Yp (Yq hx)),?_⟩;rw[hl,←h3,List.take_add]
section
variable {G:dJ}{P:Program}{t:Tm}{H:dD}{dst:Option Tmp}{ty:TypeId}{pos:String}{after:Array Edge}{g:Option (Nat×Bool)}
end
theorem we (n:Nat):(w32 n).length=4:=rfl
theorem Dl (l:List (Nat×List Nat)) (q:Nat×List Nat):fN (l++ [q])=fN l++kS q.1 q.2:=by simp[fN]
theorem zQ:∀(l:List (Nat×List Nat)) (i:Nat),(fN (l.take i)).length≤(fN l).length
 | [],i=>aq
 |q::l,0=>by simp[fN]
 |q::l,i+1=>by
  have:=zQ l i;simp only[fN,Vq,Vx,Ya]at this⊢;omega
theorem Ho {l:List (Nat×List Nat)}{q:Nat×List Nat}(h:q∈l):q.2.length≤(fN l).length:=by
 induction l with
 |nil=>cases h
 |cons a l ih=>
  simp only[fN,Vx,Ya]at ih⊢;rcases Xo.1 h with rfl|h
  ·simp only[kS,mL,Ya];omega
  ·have:=ih h;omega
theorem YD {G:dJ}{H:dD}{s:SV}{l:List (Nat×SV)}{bl:List (Nat×List Nat)} [hg:Glb G H] [Tab H 27 oc] [Tab H 25 mA] [Sl H s eK l] (a:Nat) (hk0:a≠0) (hk:a<256) (t:sy H l bl) (j:∀q∈bl,0<q.1∧q.1<256∧∀x∈q.2,x<256) (hn:(fN bl).length≤1000000000) (hm:bl.length≤1000000000):SC G prog 169 [.int .u8 (a:Int),s.val] H (λv u=>∃h:SV,v=.tuple #[h.val,.nilIface]∧u=Row h eB (nN a bl)::H):=by
 obtain⟨c,d⟩:=t;have hul:=iw (n:=bl.length) a8;have hql:(oO a bl).length≤10000000000:=by simp only[oO,Ya,Yb,Yc];omega
 refine sWk func169 ?_;refine gW (λh1=>?_) λh1=>?_
 ·exfalso;omega
 refine go ?_;refine c0_ rfl iM ?_;rintro _ _ ⟨g,rfl,rfl⟩;refine go ?_;refine s_ (zb eB rfl rfl rfl rfl rfl) ?_;rintro _ _ ⟨s1,rfl,rfl⟩;refine s_ (K7 rfl aq) ?_;rintro _ _ ⟨rfl,rfl⟩;refine d2_ rfl (Eb aq aq) (go ?_);refine d2_ rfl (qA a aq) (on_ (qn_ (ws_ (wr_ (e_ mv (e_ mv (e_ lnn ?_)))))));refine e_ (dW 18446744073709551616 rfl rfl rfl bl.length a8 a8) ?_;refine d2_ rfl (gl bl.length a8 aq) (gk (k:=wl_ (Nat×List Nat) (λy=>y.1≤bl.length∧y.2= [99,110,99,100]++ [a]++uv bl.length++fN (bl.take y.1)) (λy=>[(6,pA g),(27,s.val),(28,iN bl.length),(29,iN y.1)]) (λy=>Wr g y.2::H) (λy=>bl.length-y.1) ((0, [99,110,99,100]++ [a]++uv bl.length)) (hs:=?_) (h0:=?_) (k:=?_)))
 ·rw[c]
  repeat (first|exact Sub.nil|refine Sub.cons rfl ?_)
 ·try dsimp only
  exact⟨Yl _,by simp[fN]⟩
 rintro⟨i,zs⟩ ⟨hi,hI⟩
 try dsimp only at*
 have hzl:zs.length≤10000000000:=by
  have:=zQ bl i;rw[hI];simp only[Ya,Yb,Yc];omega
 refine go ?_;refine gW (λh2=>?_) λh2=>?_
 ·obtain⟨p,hp⟩:=gE l i;obtain⟨q,b⟩:=gE bl i;obtain⟨f,hS⟩:=d i p q hp b;obtain⟨ht1,ht2,e⟩:=j q (Yj b);have hbl:=Ho (Yj b);have hel:(kS q.1 q.2).length≤10000000000:=by
   have hu:=iw (n:=q.2.length) a8;simp only[kS,mL,Ya,Yb,Yc,we];omega
  refine gk (k:=alc (k:=λg=>?_));refine go ?_;refine c2_ rfl (PB p.1 a8 a8 e a8) ?_;rintro _ _ ⟨r,rfl,rfl⟩;rw[f];refine e_ mv (e_ exr (e_ exr (e_ asn (e_ asn (on_ (qn_ (ws_ (ws_ (wr_ (e_ mv ?_))))))))));refine e_ (dL rfl) ?_;refine gk (k:=fM (k:=go ?_));refine d2_ rfl (Eb a8 a8) (go ?_);refine lN ((i+1,zs++kS q.1 q.2)) ?_
  try dsimp only
  refine⟨a8,?_⟩;rw[dK b,Dl,hI];simp
 obtain rfl:i=bl.length:=a8;rw[Xn]at hI;have hI':zs=oO a bl:=hI;subst hI';refine go ?_;refine c1_ rfl (kK a8) ?_;rintro _ _ ⟨r,rfl,rfl⟩;refine d1_ rfl (Kg a8 (B0 hk λq b=>(j q b).2)) ?_;refine d2_ rfl (FT (xh (oO a bl)) a8) (go ?_);refine c1_ rfl (kK (xs:=nN a bl) (by simp only[nN,Ya,we];omega)) ?_;rintro _ _ ⟨m,rfl,rfl⟩;refine gR ?_;exact⟨_,hsb,m,rfl,rfl⟩
section
variable {bl:List (Nat×List Nat)}{body l:List Nat}{kind n tag:Nat}
theorem wM (r:List Nat) (h:n<4294967296):mY (w32 n++r)=n:=by
 simp only[w32,Yd,mY];omega
theorem wP (hl:4≤l.length) (e:∀x∈l,x<256):w32 (mY l)=l.take 4:=by
 match l,hl with
 |a::b::c::d::r,_=>
  have ha:=e a aq;have h2:=e b aq;have hc:=e c aq;have hd:=e d aq;simp only[mY,w32,Vq,List.take_zero,List.cons.injEq,and_true];omega
theorem tM {v:Nat}(r:List Nat) (h:v<18446744073709551616):iz 0 (uv v++r)=.ok (v,(uv v).length):=
 Gk v 0 r a8 bA (λh=>absurd h (Nat.lt_irrefl 0))
theorem gw {most v:Nat}(r:List Nat) (h:v<18446744073709551616) (hm:v≤most):iH most (uv v++r)=.ok (v,(uv v).length):=by
 rw[iH,tM r h];simp only[];rw[if_neg a8]
theorem BR {a b:List Nat}(h:a.length≤n):(a++b).take n=a++b.take (n-a.length):=by
 rw[List.take_append,Xr h]
theorem yj (tag:Nat) (body:List Nat):(mL tag body).length=1+(uv body.length).length+body.length:=by
 simp only[mL,Ya,Ul]
theorem uk (tag:Nat) (body:List Nat):(kS tag body).length=1+(uv body.length).length+body.length+4:=by
 rw[kS,Ya,yj,we]
theorem Ez (tag:Nat) (r:List Nat):nf (tag::r)=if tag=0 then none else
 match iz 0 (((tag::r).take (min (tag::r).length 11)).drop 1)with
 | .error _=>none
 | .ok (n,m)=>if(tag::r).length-(1+m)<4∨(tag::r).length-(1+m)-4<n then none else
  if mY ((tag::r).drop (1+m+n))=w5 ((tag::r).take (1+m+n))then some (1+m,1+m+n)else none:=rfl
theorem Ey (r:List Nat) (h0:tag≠0) (b:tag<256) (c:∀x∈body,x<256) (hl:body.length<18446744073709551616):
 nf (kS tag body++r)=some (1+(uv body.length).length,1+(uv body.length).length+body.length):=by
 have h10:=iw hl;have hlen:=uk tag body;have hpl:=yj tag body;have hx:kS tag body++r=tag::(uv body.length++(body++(w32 (w5 (mL tag body))++r))):=by
  simp[kS,mL]
 have a:iz 0 (((kS tag body++r).take (min (kS tag body++r).length 11)).drop 1)=.ok (body.length,(uv body.length).length):=by
  rw[hx];have:min (tag::(uv body.length++(body++(w32 (w5 (mL tag body))++r)))).length 11=(min (uv body.length++(body++(w32 (w5 (mL tag body))++r))).length 10)+1:=by
   rw[Yb];omega
  rw[this,Vq,U9,Va,BR bz];exact tM _ hl
 rw[hx,Ez,if_neg h0,←hx,a];simp only[];rw[if_neg bz];have hd:(kS tag body++r).drop (1+(uv body.length).length+body.length)=w32 (w5 (mL tag body))++r:=by
  rw[kS,Yf,←hpl,Vg]
 have b:(kS tag body++r).take (1+(uv body.length).length+body.length)=mL tag body:=by
  rw[kS,Yf,←hpl,T9]
 rw[hd,b,wM _ (Nk (Bi aU c)),if_pos rfl]
theorem MA (r:List Nat):((kS tag body++r).take (1+(uv body.length).length+body.length)).drop (1+(uv body.length).length)=body:=by
 have hpl:=yj tag body;have a:(kS tag body++r).take (1+(uv body.length).length+body.length)=mL tag body:=by
  rw[kS,Yf,←hpl,T9]
 rw[a,mL,show 1+(uv body.length).length=([tag]++uv body.length).length by simp[Nat.add_comm],Vg]
theorem sD:∀(bl:List (Nat×List Nat)),(∀q∈bl,0<q.1∧q.1<256∧(∀x∈q.2,x<256)∧q.2.length<18446744073709551616)→lh bl.length (fN bl)=some bl
 | [],_=>rfl
 |q::bl,h=>by
  obtain⟨h1,h2,h3,h4⟩:=h q aq;have a:=sD bl λp hp=>h p (by simp[hp]);have he:fN (q::bl)=kS q.1 q.2++fN bl:=by simp[fN]
  rw[Yb,lh,he,Ey _ a8 h2 h3 h4];simp only[];have hd:(kS q.1 q.2++fN bl).drop (1+(uv q.2.length).length+q.2.length+4)=fN bl:=by
   rw[←uk q.1 q.2,Vg]
  rw[hd,a,MA];simp only[Option.some.injEq,List.cons.injEq,and_true];simp[kS,mL]
theorem D0 (kind:Nat) (bl:List (Nat×List Nat)):(oO kind bl).length=5+(uv bl.length).length+(fN bl).length:=by
 simp only[oO,Ya,Yb,Yc]
theorem xZ (kind:Nat) (bl:List (Nat×List Nat)):(nN kind bl).length=5+(uv bl.length).length+(fN bl).length+4:=by
 rw[nN,Ya,D0,we]
theorem Eu (f:kind≠0) (hk:kind<256) (hn:bl.length<18446744073709551616) (h:∀q∈bl,0<q.1∧q.1<256∧(∀x∈q.2,x<256)∧q.2.length<18446744073709551616):mC kind (nN kind bl)=some bl:=by
 have hl:=xZ kind bl;have d:=D0 kind bl;have h10:=iw hn;have h1:=sM bl.length;have i:(nN kind bl).take ((nN kind bl).length-4)=oO kind bl:=by
  rw[hl,nN,show 5+(uv bl.length).length+(fN bl).length+4-4=(oO kind bl).length from a8,T9]
 have hd:(nN kind bl).drop ((nN kind bl).length-4)=w32 (xh (oO kind bl)):=by
  rw[hl,nN,show 5+(uv bl.length).length+(fN bl).length+4-4=(oO kind bl).length from a8,Vg]
 have e:∀q∈bl,q.1<256∧∀x∈q.2,x<256:=λq d=>⟨(h q d).2.1,(h q d).2.2.1⟩;rw[mC,i,hd];have g:=wM [] (Kf (B0 hk e));rw[Ym]at g;have a:¬(nN kind bl).length<10:=by
  rw[hl];rcases Us ((uv bl.length).length+(fN bl).length) 1 with h0|h0
  ·omega
  ·omega
 rw[if_neg a,if_pos g];have b:(nN kind bl).take 4= [99,110,99,100]:=by simp[nN,oO]
 have h4:(nN kind bl)[4]? =some kind:=by simp[nN,oO]
 rw[b,h4,if_neg (by simp[f])];have c:(oO kind bl).drop 5=uv bl.length++fN bl:=by simp[oO]
 rw[c,BR bz,tM _ hn];simp only[];rw[Vg,sD bl h]
theorem EA {f t:Nat}(d:∀x∈l,x<256) (h:nf l=some (f,t)):f≤t∧t+4≤l.length∧l.headD 0≠0∧l.take (t+4)=kS (l.headD 0) ((l.take t).drop f):=by
 match l,d,h with
 |tag::r,d,h=>
  rw[nf]at h
  split at h
  ·cases h
  ·rename_i h0
   split at h
   ·cases h
   ·rename_i n m hr
    split at h
    ·cases h
    ·rename_i hle
     split at h
     ·rename_i k;simp only[Option.some.injEq,Prod.mk.injEq]at h;obtain⟨rfl,rfl⟩:=h;have g:∀x∈(((tag::r).take (min (tag::r).length 11)).drop 1),x<256:=λy hy=>d y (Yq (Yp hy));obtain⟨p1,p2,p3,j,i,p6⟩:=k7 _ 0 n m g a8 hr;have b:(tag::r).length=r.length+1:=rfl;rw[Yo,Yg]at j;have hm:r.take m=uv n:=by
       rw[b,show min (r.length+1) 11=min r.length 10+1 from a8,Vq,U9,Va,List.take_take]at i;rw[←i];congr 1;omega
      have c:((tag::r).take (1+m+n)).drop (1+m)=(r.drop m).take n:=by
       rw[show 1+m+n=m+n+1 from a8,Vq,show 1+m=m+1 from a8,U9,List.drop_take,show m+n-m=n from a8]
      have e:((r.drop m).take n).length=n:=by rw[Yg,Yo];omega
      have a:(tag::r).take (1+m+n)=mL tag ((r.drop m).take n):=by
       rw[show 1+m+n=m+n+1 from a8,Vq,List.take_add,hm,mL,e];rfl
      refine⟨a8,a8,h0,?_⟩;show(tag::r).take (1+m+n+4)=kS tag _;rw[c,kS,List.take_add,a];congr 1;rw[←a,←k,wP ba (λy hy=>d y (Yp hy))]
     ·cases h
theorem vP:∀(n:Nat) (l:List Nat) (bl:List (Nat×List Nat)),(∀x∈l,x<256)→lh n l=some bl→bl.length=n∧l=fN bl∧(∀q∈bl,q.1≠0)∧(∀q∈bl,q.1<256∧∀x∈q.2,x<256)
 | 0,l,bl,hb,h=>by
  rw[lh]at h
  split at h
  ·cases h;exact⟨rfl,List.length_eq_zero_iff.1 aU,λq hq=>(by cases hq),λq hq=>(by cases hq)⟩
  ·cases h
 |n+1,l,bl,hb,h=>by
  rw[lh]at h
  split at h
  ·cases h
  ·rename_i f t hr
   split at h
   ·cases h
   ·rename_i r b;simp only[Option.some.injEq]at h;subst h;obtain⟨p1,k,j,i⟩:=EA hb hr;obtain⟨g,e,d,c⟩:=vP n _ r (λy hy=>hb y (Yp hy)) b;refine⟨by simp[g],?_,?_,?_⟩
    ·rw[show fN ((l.headD 0,(l.take t).drop f)::r)=kS (l.headD 0) ((l.take t).drop f)++fN r by simp[fN],←i,←e,Vd]
    ·intro q hq;rcases Xo.1 hq with rfl|hq
     ·exact j
     ·exact d q hq
    ·intro q hq;rcases Xo.1 hq with rfl|hq
     ·refine⟨?_,λx hx=>hb x (Yq (Yp hx))⟩;cases l with
      |nil=>simp at k
      |cons a l=>exact hb a aq
     ·exact c q hq
theorem Ew (c:∀x∈l,x<256) (h:mC kind l=some bl):l=nN kind bl∧(∀q∈bl,q.1≠0)∧(∀q∈bl,q.1<256∧∀x∈q.2,x<256):=by
 rw[mC]at h
 split at h
 ·cases h
 ·rename_i hlen
  split at h
  ·rename_i k
   split at h
   ·cases h
   ·rename_i hk
    split at h
    ·cases h
    ·rename_i n m hr;have a:∀x∈(l.take (l.length-4)).drop 5,x<256:=λy hy=>c y (Yq (Yp hy));obtain⟨p1,p2,p3,j,b,p6⟩:=k7 _ 0 n m (λy hy=>a y (Yq hy)) a8 hr;obtain⟨i,g,f,d⟩:=vP n _ bl (λy hy=>a y (Yp hy)) h;refine⟨?_,f,d⟩;have hm:((l.take (l.length-4)).drop 5).take m=uv n:=by
      rw[List.take_take]at b;rw[←b];congr 1;rw[Yg]at j;omega
     have p:l.take (l.length-4)=oO kind bl:=by
      have h5:(l.take (l.length-4)).take 5= [99,110,99,100]++ [kind]:=by
       have u:(l.take (l.length-4)).take 5=l.take 5:=by rw[List.take_take];congr 1;omega
       have t:l.take 4= [99,110,99,100]:=Classical.byContradiction λe=>hk (.inr (.inl e));have s:l[4]? =some kind:=Classical.byContradiction λe=>hk (.inr (.inr e));rw[u,dK s,t]
      rw[oO,←h5,i,←hm,←g,Yf,Vd,Vd]
     have r:(l.drop (l.length-4)).take 4=l.drop (l.length-4):=Xr ba;rw[nN,←p,←k,wP ba (λy hy=>c y (Yp hy)),r,Vd]
  ·cases h
end
section
variable {fs:List FV}{l:List Int}{most:Nat}
theorem zh {q:List Nat}(r:List Nat) (h:q.length≤most) (hm:most<18446744073709551616):mq most (uv q.length++q++r)=.ok (q,(uv q.length).length+q.length):=by
 rw[mq,Yf,gw _ a8 h];simp only[];rw[if_neg aj,Vg,T9]
theorem Tn:∀(k:Fin 4) (a b c:Bool),let x:=k.val+(if a then 4 else 0)+(if b then 8 else 0)+(if c then 16 else 0);x &&& 3=k.val∧decide (((x &&& 4:Nat):Int)≠0)=a∧decide (((x &&& 8:Nat):Int)≠0)=b∧decide (((x &&& 16:Nat):Int)≠0)=c∧x≤31:=ae
theorem Th {f:FV}(h1:0≤f.kind) (h2:f.kind≤3):mkF (dC f.name) (kB f)=f∧kB f≤31:=by
 have h:=Tn ⟨f.kind.toNat,a8⟩ f.fold f.stop f.stem;obtain⟨name,kind,a,b,c⟩:=f;simp only at h h1 h2;obtain⟨j,i,g,e,d⟩:=h;simp only[mkF,kB,jW,FV.mk.injEq,true_and];exact⟨⟨by rw[j];omega,i,g,e⟩,d⟩
theorem oE {x:Int}:rise (x::l)=true↔(∀y,l.head? =some y→x<y)∧rise l=true:=by
 cases l with
 |nil=>simp[rise]
 |cons y r=>simp[rise]
theorem pK:∀(l:List Int) (last:Int),l.length≤(iQ last l).length
 | [],_=>aq
 |x::l,last=>by
  have:=pK l x;have h:=sM (x-last-1).toNat;rw[iQ,Ya,Yb];omega
theorem vO:∀(l:List Int) (last:Int) (r:List Nat), -1≤last→rise (last::l)=true→(∀x∈l,x≤9223372036854775807)→oF l.length last (iQ last l++r)=.ok (l,(iQ last l).length)
 | [],last,r,_,_,_=>rfl
 |x::l,last,r,hl,hr,hb=>by
  rw[oE]at hr;obtain⟨h1,h2⟩:=hr;have h3:=h1 x rfl;have h4:=hb x aq;have a:=vO l x r a8 h2 λy hy=>hb y (by simp[hy]);rw[Yb,oF,iQ,Yf,tM _ a8];simp only[];rw[if_neg a8,Vg,show last+((x-last-1).toNat:Int)+1=x from a8,a];simp only[Ya]
theorem Cu (h1:o8 l=false) (h2:rise l=true) (a:∀x∈l,x≤9223372036854775807) (hl:l.length<18446744073709551616):
 gF (uv l.length++iQ (-1) l).length (uv l.length++iQ (-1) l)=.ok (l,(uv l.length++iQ (-1) l).length):=by
 have hge:=pK l (-1);rw[gF,gw _ hl bz];simp only[];have h3:rise (-1::l)=true:=by
  rw[oE];refine⟨λy hy=>?_,h2⟩;have:=(mX l).1 h1 0 y (by rw[List.head?_eq_getElem?]at hy;exact hy);omega
 have:=vO l (-1) [] (T8 _) h3 a;rw[Ym]at this;rw[Vg,this];simp only[Ya]
theorem sT:∀(n:Nat) (last:Int) (l:List Nat) (d:List Int) (m:Nat),(∀x∈l,x<256)→ -1≤last→oF n last l=.ok (d,m)→d.length=n∧m≤l.length∧l.take m=iQ last d∧rise (last::d)=true∧(∀x∈d,0≤x∧x≤9223372036854775807)
 | 0,last,l,d,m,hb,hl,h=>by
  simp only[oF,Except.ok.injEq,Prod.mk.injEq]at h;obtain⟨rfl,rfl⟩:=h;exact⟨rfl,Yl _,by simp[iQ],by simp[rise],λx hx=>by cases hx⟩
 |n+1,last,l,d,m,hb,hl,h=>by
  rw[oF]at h
  split at h
  ·cases h
  ·rename_i v c k
   split at h
   ·cases h
   ·rename_i hle
    split at h
    ·cases h
    ·rename_i r j hr;simp only[Except.ok.injEq,Prod.mk.injEq]at h;obtain⟨rfl,rfl⟩:=h;obtain⟨p1,p2,p3,p4,i,p6⟩:=k7 _ 0 v c hb a8 k;obtain⟨g,f,e,b,a⟩:=sT n _ _ r j (λy hy=>hb y (Yp hy)) a8 hr;rw[Yo]at f;refine⟨by simp[g],a8,?_,?_,?_⟩
     ·rw[iQ,show(last+(v:Int)+1-last-1).toNat=v from a8,←i,←e,List.take_add]
     ·rw[oE];exact⟨λy hy=>by simp at hy;omega,b⟩
     ·intro x hx;rcases Xo.1 hx with rfl|hx
      ·omega
      ·exact a x hx
theorem yN {l:List Nat}{d:List Int}{m:Nat}(b:∀x∈l,x<256) (h:gF most l=.ok (d,m)):m≤l.length∧l.take m=uv d.length++iQ (-1) d∧o8 d=false∧rise d=true∧(∀x∈d,0≤x∧x≤9223372036854775807):=by
 rw[gF]at h
 split at h
 ·cases h
 ·rename_i n c q;obtain⟨u1,u2,e,u4⟩:=lL b q
  split at h
  ·cases h
  ·rename_i r p hr;simp only[Except.ok.injEq,Prod.mk.injEq]at h;obtain⟨rfl,rfl⟩:=h;obtain⟨k,j,g,f,a⟩:=sT n _ _ r p (λy hy=>b y (Yp hy)) (T8 _) hr;rw[Yo]at j;refine⟨a8,?_,(mX r).2 λi x hx=>(a x (Yj hx)).1,(oE.1 f).2,a⟩;rw[k,←e,←g,List.take_add]
abbrev Pcs:=List (List Nat×List Int)
theorem PU (h:iK fs=true):∀x∈Bh fs,x<256:=by
 obtain⟨h1,h2⟩:=jx h;intro x hx;rcases Xm.1 hx with hx|hx
 ·exact kz _ x hx
 ·obtain⟨f,b,hx⟩:=U4.1 hx;obtain⟨k1,k2,a⟩:=h2 f b;simp only[kR,Xm,Vb]at hx;rcases hx with(hx|hx)|rfl
  ·exact kz _ x hx
  ·exact lZ _ x hx
  ·have:=(Th (f:=f) a8 a).2;omega
theorem zP:∀(fs:List FV),(∀f∈fs,f.name.size≤32)→(re fs).length≤43*fs.length
 | [],_=>by simp[re]
 |f::fs,h=>by
  have ih:=zP fs λg a=>h g (by simp[a]);have h1:=h f aq;have h2:=iw (n:=f.name.size) a8;have h3:=dI f.name;rw[show re (f::fs)=kR f++re fs by simp[re],kR];simp only[Ya,Yb,Yc];omega
theorem Dj (h:iK fs=true):(Bh fs).length≤1000:=by
 obtain⟨h1,h2⟩:=jx h;have h3:=zP fs λf a=>(h2 f a).1;have h4:=iw (n:=fs.length) a8;rw[Bh,Ya];omega
end
end Go.Sx
