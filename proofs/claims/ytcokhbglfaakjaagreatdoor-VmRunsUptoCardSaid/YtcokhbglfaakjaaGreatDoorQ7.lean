import Derived.Test.YtcokhbglfaakjaaGreatDoorQ5
set_option linter.all false
set_option maxHeartbeats 0
namespace Go.Sx
open Go Go.Proofs Tryz
set_option maxRecDepth 100000
section
variable {G:dJ}{b:Nat}{xs:List Nat}
def w32 (x:Nat):List Nat:= [x%256,x/256%256,x/65536%256,x/16777216%256]
theorem Nr (x i:Nat) (hi:i<4):(w32 x)[i]? =some (x/2^(8*i)%256):=by
 match i,hi with
 | 0,_=>simp[w32]
 | 1,_=>simp[w32]
 | 2,_=>simp[w32]
 | 3,_=>simp[w32]
theorem dK {α:Type}{l:List α}{i:Nat}{x:α}(h:l[i]? =some x):l.take (i+1)=l.take i++ [x]:=by
 rw[Um,h];all_goals rfl
theorem FT {H R:dD} [hr:Rem H Wr b xs R] (x:Nat) (hn:xs.length≤1000000000000):SC G prog 225 [pA b,.int .u32 (x:Int)] H (λv d=>v=.tuple #[]∧d=Wr b (xs++w32 x)::R):=by
 refine xi hr λs=>?_;refine sWk func225 ?_;refine gk (k:=wl_ (SV×Nat×List Nat) (λy=>y.2.2=xs++(w32 x).take y.2.1∧y.2.1≤4) (λy=>[(0,pA b),(1,.int .u32 (x:Int)),(5,iN y.2.1)]) (λy=>Vr b [y.1.val]::Row y.1 eB y.2.2::R) (λy=>4-y.2.1) ((s,0,xs)) (h0:=?_) (k:=?_))
 ·exact⟨aq,Yl _⟩
 rintro⟨s,i,zs⟩ ⟨hI,hi⟩
 try dsimp only at*
 have a:=congrArg List.length hI;simp only[Ya,Yg]at a;refine ws_ (wr_ (e_ ilt (on_ (qn_ (ws_ (wi_ (k:=λh1=>?_) (m:=λh1=>?_)))))))
 ·refine wk_ (qn_ (ws_ (wb_ (ws_ (wr_ (e_ mv (e_ asn (on_ (qn_ ?_)))))))));refine wD [10,11,14] (λk H=>(k=4→dQ H b [s.val])) (aF 0 (k:=aF 1 (k:=aF 2 (k:=aF 3 (k:=?_)))));refine aN 4 rfl (λH hH=>by have hN:=hH rfl;exact ldv) ?_;refine aF 5 (k:=aF 6 (k:=aF 7 (k:=?_)));refine aN 8 rfl (λH hH=>hX rfl rfl x (8*i) rfl a8 (by show 8*i≤32;omega)) ?_;refine aN 9 rfl (λH hH=>(bj)) ?_;refine aS 10 rfl (fK eB rfl rfl) ?_;rintro _ _ ⟨s1,rfl,rfl⟩;refine aS 11 rfl (gf rfl rfl rfl rfl ab ab) ?_;rintro _ _ ⟨c,rfl,rfl⟩;refine aF 12 (k:=aF 13 (k:=?_));refine aS 14 rfl (ej rfl rfl rfl) ?_;rintro _ _ ⟨rfl,rfl⟩;refine aZ (bn_ (qn_ (wr_ (e_ iad (e_ mv (on_ ?_))))));refine lN ((c,i+1,zs++ [x/2^(8*i)%256])) ?_
  try dsimp only
  refine⟨?_,a8⟩;rw[hI,dK (Nr x i a8),Yf]
 obtain rfl:i=4:=a8;have e:zs=xs++w32 x:=hI;refine gR ?_;exact⟨_,by rw[e];exact hsb,rfl,rfl⟩
theorem Jj {H R:dD} [hr:Rem H Wr b xs R] (q:ByteArray) (hn:xs.length≤100000000000) (hq:q.size≤100000000000):SC G prog 213 [pA b,.string q] H (λv a=>v=.tuple #[]∧a=Wr b (xs++(uv q.size++dC q))::R):=by
 have hl:=iw (n:=q.size) a8;refine SC.rem (h:=hr) ?_;refine sWk func213 ?_;refine ws_ (wr_ (e_ mv (e_ mv (e_ xO ?_))));refine e_ ((ad)) ?_;refine d2_ rfl (gl q.size a8 a8) ?_;refine KY b λs=>?_;refine go ?_;refine s_ (yL rfl rfl rfl ab ab) ?_;rintro _ _ ⟨s1,rfl,rfl⟩;refine gR ?_;exact⟨_,by rw[Yf];exact hsb,rfl,rfl⟩
end
section
variable {p r:Nat}
def bs (p r:Nat):Nat:=if r%2=1 then(r/2) ^^^ p else r/2
def bs4 (p r:Nat):Nat:=bs p (bs p (bs p (bs p r)))
def Qe (p r x:Nat):Nat:=bs4 p (bs4 p (r ^^^ x))
def Bq (p r:Nat) (l:List Nat):Nat:=l.foldl (Qe p) r
def tn:Nat:=3988292384
def qn:Nat:=2197175160
def w5 (l:List Nat):Nat:=4294967295 ^^^ Bq tn 4294967295 l
def xh (l:List Nat):Nat:=4294967295 ^^^ Bq qn 4294967295 l
theorem UJ (p a b:Nat):bs p (a ^^^ b)=bs p a ^^^ bs p b:=by
 have h1:(a ^^^ b)/2=a/2 ^^^ b/2:=Nat.xor_div_two_pow (n:=1);have h2:(a ^^^ b)%2=(a%2) ^^^ (b%2):=Nat.xor_mod_two_pow (n:=1);unfold bs;rw[h1,h2];rcases Nat.mod_two_eq_zero_or_one a with ha|ha <;> rcases Nat.mod_two_eq_zero_or_one b with hb|hb <;> rw[ha,hb]
 ·simp
 ·simp[Q9]
 ·simp only[Nat.xor_zero,↓reduceIte,Nat.zero_ne_one];rw[Q9,Nat.xor_comm (b/2) p,←Q9]
 ·simp only[Nat.xor_self,Nat.zero_ne_one,↓reduceIte];rw[Q9,←Q9 p,Nat.xor_comm p,Q9 (b/2),Nat.xor_self,Nat.xor_zero]
theorem Qk (p a b:Nat):bs4 p (a ^^^ b)=bs4 p a ^^^ bs4 p b:=by simp only[bs4,UJ]
theorem wJ (p q:Nat):bs p (2*q)=q:=by unfold bs;rw[if_neg a8];omega
theorem UK (p q:Nat):bs4 p (16*q)=q:=by
 unfold bs4;rw[show 16*q=2*(2*(2*(2*q)))from a8,wJ,wJ,wJ,wJ]
theorem O6 (r:Nat):r=(16*(r/16)) ^^^ (r%16):=by
 have h:(r/16) <<< 4+r%16=(r/16) <<< 4 |||r%16:=Nat.shiftLeft_add_eq_or_of_lt (V2 r ae) _;have h2:(r/16) <<< 4=16*(r/16):=by rw[Nat.shiftLeft_eq];omega
 rw[h2]at h;have h3:16*(r/16)+r%16=r:=Nat.div_add_mod r 16;have h4:(16*(r/16)) ^^^ (r%16)=(16*(r/16)) |||(r%16):=by
  apply Nat.eq_of_testBit_eq;intro i;rw[Nat.testBit_xor,Nat.testBit_or,show 16*(r/16)=2^4*(r/16)from rfl,show r%16=r%2^4 from rfl,Nat.testBit_two_pow_mul,Nat.testBit_mod_two_pow]
  by_cases hi:i<4
  ·simp[hi,show ¬(4≤i)from a8]
  ·simp[hi]
 rw[h4,←h,h3]
theorem nib (p r:Nat):(r/2^4) ^^^ bs4 p (r%16)=bs4 p r:=by
 conv=>rhs;rw[O6 r]
 rw[Qk,UK]
theorem Hn (hp:p<4294967296) (hr:r<4294967296):bs p r<4294967296:=by
 unfold bs
 split
 ·exact Nat.xor_lt_two_pow (n:=32) a8 hp
 ·omega
theorem oq (hp:p<4294967296) (hr:r<4294967296):bs4 p r<4294967296:=Hn hp (Hn hp (Hn hp (Hn hp hr)))
theorem wL {a b:Nat}(ha:a<4294967296) (c:b<4294967296):a ^^^ b<4294967296:=Nat.xor_lt_two_pow (n:=32) ha c
theorem Qd {x:Nat}(hp:p<4294967296) (hr:r<4294967296) (hx:x<256):Qe p r x<4294967296:=oq hp (oq hp (wL hr a8))
theorem wH (hp:p<4294967296):∀(l:List Nat) (r:Nat),r<4294967296→(∀x∈l,x<256)→Bq p r l<4294967296
 | [],r,hr,_=>hr
 |x::l,r,hr,hb=>wH hp l (Qe p r x) (Qd hp hr (hb x aq)) (λy hy=>hb y (by simp[hy]))
theorem A4 (p r:Nat) (l:List Nat) (x:Nat):Bq p r (l++ [x])=Qe p (Bq p r l) x:=by simp[Bq]
theorem Ad (r:Nat):r &&& 15=r%16:=Nat.and_two_pow_sub_one_eq_mod r 4
def oc:List Nat:= [0,0x1db71064,0x3b6e20c8,0x26d930ac,0x76dc4190,0x6b6b51f4,0x4db26158,0x5005713c,0xedb88320,0xf00f9344,0xd6d6a3e8,0xcb61b38c,0x9b64c2b0,0x86d3d2d4,0xa00ae278,0xbdbdf21c]
def mA:List Nat:= [0,0x105ec76f,0x20bd8ede,0x30e349b1,0x417b1dbc,0x5125dad3,0x61c69362,0x7198540d,0x82f63b78,0x92a8fc17,0xa24bb5a6,0xb21572c9,0xc38d26c4,0xd3d3e1ab,0xe330a81a,0xf36e6f75]
theorem Nj:∀i:Fin 16,oc[i.val]? =some (bs4 tn i.val):=ax
theorem Ke:∀i:Fin 16,mA[i.val]? =some (bs4 qn i.val):=ax
theorem FM (r:Nat):(oc.map λn=>Value.int .u32 ((n:Nat):Int))[0+(r &&& 15)*1]? =some (.int .u32 ((bs4 tn (r%16):Nat):Int)):=by
 rw[Vw,U5,Ad,Xd,Nj ⟨r%16,a8⟩];all_goals rfl
theorem Cm (r:Nat):(mA.map λn=>Value.int .u32 ((n:Nat):Int))[0+(r &&& 15)*1]? =some (.int .u32 ((bs4 qn (r%16):Nat):Int)):=by
 rw[Vw,U5,Ad,Xd,Ke ⟨r%16,a8⟩];all_goals rfl
theorem WB {G:dJ}{H:dD}{s:SV}{xs:List Nat} [Tab H 27 oc] [Sl H s eB xs] (a:Nat) (hr:a<4294967296) (hn:xs.length≤1000000000000) (g:∀x∈xs,x<256):SC G prog 305 [.int .u32 (a:Int),s.val] H (λv h=>v=.int .u32 ((Bq tn a xs:Nat):Int)∧h=H):=by
 refine sWk func305 ?_;refine go ?_;refine wl_ (Nat×Nat) (λy=>y.1≤xs.length∧y.2=Bq tn a (xs.take y.1)∧y.2<4294967296) (λy=>[(0,.int .u32 ((y.2:Nat):Int)),(7,s.val),(8,iN xs.length),(9,iN y.1)]) (λ_=>H) (λy=>xs.length-y.1) ((0,a)) (h0:=?_) (k:=?_)
 ·exact⟨Yl _,rfl,hr⟩
 rintro⟨i,r⟩ ⟨hi,hI,b⟩
 try dsimp only at*
 refine gW (λh1=>?_) λh1=>?_
 ·obtain⟨x,hx⟩:=gE xs i;have hxb:=g x (Yj hx);have f:r ^^^ x<4294967296:=wL b a8;have e:=FM (r ^^^ x);have h2b:bs4 tn ((r ^^^ x)%16)<4294967296:=oq ae a8;have d:bs4 tn (r ^^^ x)<4294967296:=oq ae f;have c:=FM (bs4 tn (r ^^^ x));have h3b:bs4 tn (bs4 tn (r ^^^ x)%16)<4294967296:=oq ae a8;refine wk_ (qn_ (ws_ (wb_ (ws_ (wr_ (e_ ixa (e_ lel (e_ asn (on_ (qn_ (ws_ (wr_ (e_ mv ?_)))))))))))));refine e_ mv ?_;refine e_ ((aA)) ?_;refine e_ (q9 4294967296 rfl rfl rfl rfl _ _ rfl rfl ak ak) ?_;refine e_ asn (on_ (qn_ (ws_ (wr_ (e_ mv ?_)))));refine e_ (hX rfl rfl _ 4 rfl rfl cA) ?_;refine e_ mv ?_;refine e_ (qd 4294967296 rfl rfl rfl rfl _ 15 rfl rfl ak ak) ?_;refine e_ (gI rfl rfl ((r ^^^ x) &&& 15) rfl (by rw[Ad];omega)) ?_;refine e_ (nx rfl e) ?_;refine e_ (q9 4294967296 rfl rfl rfl rfl _ _ rfl rfl ak ak) ?_;refine e_ asn (on_ (qn_ (wr_ ?_)));rw[nib];refine e_ mv ?_;refine e_ (hX rfl rfl _ 4 rfl rfl cA) ?_;refine e_ mv ?_;refine e_ (qd 4294967296 rfl rfl rfl rfl _ 15 rfl rfl ak ak) ?_;refine e_ (gI rfl rfl (bs4 tn (r ^^^ x) &&& 15) rfl (by rw[Ad];omega)) ?_;refine e_ (nx rfl c) ?_;refine e_ (q9 4294967296 rfl rfl rfl rfl _ _ rfl rfl ak ak) ?_;refine e_ asn (on_ (bn_ (qn_ (wr_ ?_))));rw[nib];refine go ?_;refine lN ((i+1,bs4 tn (bs4 tn (r ^^^ x)))) ?_
  try dsimp only
  refine⟨a8,?_,oq ae d⟩;rw[dK hx,A4,←hI];all_goals rfl
 obtain rfl:i=xs.length:=a8;rw[Xn]at hI;refine gR ?_;exact⟨_,dH.refl,by rw[hI];all_goals rfl,rfl⟩
end
section
variable {G:dJ}{H:dD}{s:SV}{xs:List Nat}
theorem Kg [Tab H 25 mA] [Sl H s eB xs] (hn:xs.length≤1000000000000) (f:∀x∈xs,x<256):SC G prog 171 [s.val] H (λv g=>v=.int .u32 ((xh xs:Nat):Int)∧g=H):=by
 refine sWk func171 ?_;refine go ?_;refine gk (k:=wl_ (Nat×Nat) (λy=>y.1≤xs.length∧y.2=Bq qn 4294967295 (xs.take y.1)∧y.2<4294967296) (λy=>[(3,.int .u32 ((y.2:Nat):Int)),(6,s.val),(7,iN xs.length),(8,iN y.1)]) (λ_=>H) (λy=>xs.length-y.1) ((0,4294967295)) (h0:=?_) (k:=?_))
 ·exact⟨Yl _,rfl,a8⟩
 rintro⟨i,r⟩ ⟨hi,hI,a⟩
 try dsimp only at*
 refine gW (λh1=>?_) λh1=>?_
 ·obtain⟨x,hx⟩:=gE xs i;have hxb:=f x (Yj hx);have e:r ^^^ x<4294967296:=wL a a8;have d:=Cm (r ^^^ x);have h2b:bs4 qn ((r ^^^ x)%16)<4294967296:=oq ae a8;have c:bs4 qn (r ^^^ x)<4294967296:=oq ae e;have b:=Cm (bs4 qn (r ^^^ x));have h3b:bs4 qn (bs4 qn (r ^^^ x)%16)<4294967296:=oq ae a8;refine wk_ (qn_ (ws_ (wb_ (ws_ (wr_ (e_ ixa (e_ lel (e_ asn (on_ (qn_ (ws_ (wr_ (e_ mv ?_)))))))))))));refine e_ mv ?_;refine e_ ((aA)) ?_;refine e_ (q9 4294967296 rfl rfl rfl rfl _ _ rfl rfl ak ak) ?_;refine e_ asn (on_ (qn_ (ws_ (wr_ (e_ mv ?_)))));refine e_ (hX rfl rfl _ 4 rfl rfl cA) ?_;refine e_ mv ?_;refine e_ (qd 4294967296 rfl rfl rfl rfl _ 15 rfl rfl ak ak) ?_;refine e_ (gI rfl rfl ((r ^^^ x) &&& 15) rfl (by rw[Ad];omega)) ?_;refine e_ (nx rfl d) ?_;refine e_ (q9 4294967296 rfl rfl rfl rfl _ _ rfl rfl ak ak) ?_;refine e_ asn (on_ (qn_ (wr_ ?_)));rw[nib];refine e_ mv ?_;refine e_ (hX rfl rfl _ 4 rfl rfl cA) ?_;refine e_ mv ?_;refine e_ (qd 4294967296 rfl rfl rfl rfl _ 15 rfl rfl ak ak) ?_;refine e_ (gI rfl rfl (bs4 qn (r ^^^ x) &&& 15) rfl (by rw[Ad];omega)) ?_;refine e_ (nx rfl b) ?_;refine e_ (q9 4294967296 rfl rfl rfl rfl _ _ rfl rfl ak ak) ?_;refine e_ asn (on_ (bn_ (qn_ (wr_ ?_))));rw[nib];refine go ?_;refine lN ((i+1,bs4 qn (bs4 qn (r ^^^ x)))) ?_
  try dsimp only
  refine⟨a8,?_,oq ae c⟩;rw[dK hx,A4,←hI];all_goals rfl
 obtain rfl:i=xs.length:=a8;rw[Xn]at hI;refine we_ (qe_ (le_ (bh_ (qn_ (ws_ (wr_ (e_ mv ?_)))))));refine e_ (Be 4294967296 rfl rfl rfl _ rfl a8) ?_;refine gR ?_;exact⟨_,dH.refl,by rw[hI];all_goals rfl,rfl⟩
theorem PD [Tab H 27 oc] [Sl H s eB xs] (hn:xs.length≤1000000000000) (a:∀x∈xs,x<256):SC G prog 289 [.int .u32 0,s.val] H (λv b=>v=.int .u32 ((w5 xs:Nat):Int)∧b=H):=by
 have hc:=wH (p:=tn) ae xs 4294967295 ae a;refine sWk func289 ?_;refine ws_ (wr_ (e_ asn (on_ (qn_ (ws_ (wr_ (e_ mv ?_)))))));refine e_ (Be 4294967296 rfl rfl rfl 0 rfl a8) (go ?_);refine d2_ rfl (WB 4294967295 ae hn a) ?_;refine e_ (Be 4294967296 rfl rfl rfl _ rfl hc) ?_;refine gR ?_;exact⟨_,dH.refl,rfl,rfl⟩
theorem Qy [Tab H 27 oc] [Sl H s eB xs] (hn:xs.length≤1000000000000) (a:∀x∈xs,x<256):SC G prog 258 [s.val] H (λv b=>v=.int .u32 ((w5 xs:Nat):Int)∧b=H):=by
 refine sWk func258 ?_;refine go ?_;refine d2_ rfl (PD hn a) (gR ?_);exact⟨_,hsb,rfl,rfl⟩
end
section
variable {bl:List (Nat×List Nat)}{body l:List Nat}{tag:Nat}
theorem kz:∀n,∀x∈uv n,x<256:=by
 intro n
 induction n using Nat.strongRecOn with
 |_ n ih=>
  intro x hx
  by_cases h:n<128
  ·rw[oz h]at hx;simp at hx;omega
  ·rw[uI h]at hx;rcases Xo.1 hx with rfl|hx
   ·omega
   ·exact ih (n/128) a8 x hx
theorem Jk (n:Nat):∀x∈w32 n,x<256:=by
 intro x hx;simp only[w32,Xo,S9,or_false]at hx;omega
theorem Nk (a:∀x∈l,x<256):w5 l<4294967296:=wL ae (wH ae l _ ae a)
theorem Kf (a:∀x∈l,x<256):xh l<4294967296:=wL ae (wH ae l _ ae a)
def mL (tag:Nat) (body:List Nat):List Nat:= [tag]++uv body.length++body
def kS (tag:Nat) (body:List Nat):List Nat:=mL tag body++w32 (w5 (mL tag body))
def fN (bl:List (Nat×List Nat)):List Nat:=bl.flatMap λq=>kS q.1 q.2
def oO (kind:Nat) (bl:List (Nat×List Nat)):List Nat:= [99,110,99,100]++ [kind]++uv bl.length++fN bl
def nN (kind:Nat) (bl:List (Nat×List Nat)):List Nat:=oO kind bl++w32 (xh (oO kind bl))
theorem Bi (a:tag<256) (b:∀x∈body,x<256):∀x∈mL tag body,x<256:=by
 intro x hx;simp only[mL,Xm,Vb]at hx;rcases hx with(rfl|hx)|hx
 ·exact a
 ·exact kz _ x hx
 ·exact b x hx
theorem PV (a:tag<256) (b:∀x∈body,x<256):∀x∈kS tag body,x<256:=by
 intro x hx;rcases Xm.1 hx with hx|hx
 ·exact Bi a b x hx
 ·exact Jk _ x hx
theorem IQ (h:∀q∈bl,q.1<256∧∀x∈q.2,x<256):∀x∈fN bl,x<256:=by
 intro x hx;obtain⟨q,a,hx⟩:=U4.1 hx;exact PV (h q a).1 (h q a).2 x hx
theorem B0 {a:Nat}(hk:a<256) (h:∀q∈bl,q.1<256∧∀x∈q.2,x<256):∀x∈oO a bl,x<256:=by
 intro x hx;simp only[oO,Xm,Xo,S9,or_false]at hx;rcases hx with((hx|rfl)|hx)|hx
 ·omega
 ·exact hk
 ·exact kz _ x hx
 ·exact IQ h x hx
def eK:Enc (Nat×SV):=⟨λp=>[.int .u8 ((p.1:Nat):Int),p.2.val],2,true,λ_=>rfl,λp v h=>by simp at h;rcases h with rfl|rfl <;> rfl,ae,λh=>aK,ae⟩
instance {p:Nat×SV}:kV eK p (.agg [.int .u8 ((p.1:Nat):Int),p.2.val].toArray):=⟨rfl⟩
instance {v:Value}{n:Nat}{s:SV} [h:gP eB v n]:gP eK (.agg [v,s.val].toArray) (n,s):=⟨by have:=h.out;subst this;rfl⟩
def sy (H:dD) (l:List (Nat×SV)) (bl:List (Nat×List Nat)):Prop:=l.length=bl.length∧∀(i:Nat) (p:Nat×SV) (q:Nat×List Nat),l[i]? =some p→bl[i]? =some q→p.1=q.1∧Sl H p.2 eB q.2
theorem PB {G:dJ}{H:dD}{s:SV} [hg:Glb G H] [Tab H 27 oc] [Sl H s eB body] (tag:Nat) (ht0:tag≠0) (c:tag<256) (d:∀x∈body,x<256) (hn:body.length≤10000000000):SC G prog 224 [.int .u8 (tag:Int),s.val] H (λv e=>∃a:SV,v=.tuple #[a.val,.nilIface]∧e=Row a eB (kS tag body)::H):=by
 have hul:=iw (n:=body.length) a8;have hlen:(mL tag body).length≤100000000000:=by simp only[mL,Ya,Ul];omega
 refine sWk func224 ?_;refine gW (λh1=>?_) λh1=>?_
 ·exfalso;omega
 refine go ?_;refine c0_ rfl iM ?_;rintro _ _ ⟨b1,rfl,rfl⟩;refine go ?_;refine d2_ rfl (qA tag aq) (on_ (qn_ (ws_ (wr_ (e_ mv (e_ mv (e_ lnn ?_)))))));refine e_ ((ad)) ?_;refine d2_ rfl (gl body.length a8 aq) (go ?_);refine d2_ rfl (Eb (by simp only[Ya,Yc,Ul];omega) a8) (go ?_);refine c1_ rfl (kK (xs:=mL tag body) a8) ?_;rintro _ _ ⟨s1,rfl,rfl⟩;refine d1_ rfl (Qy (xs:=mL tag body) a8 (Bi c d)) ?_;refine d2_ rfl (FT (w5 (mL tag body)) a8) (go ?_);refine c1_ rfl (kK (xs:=kS tag body) (by simp only[kS,Ya];simp only[w32,Yb,Yc];omega)) ?_;rintro _ _ ⟨b,rfl,rfl⟩;refine gR ?_;exact⟨_,hsb,b,rfl,rfl⟩
end
theorem we (n:Nat):(w32 n).length=4:=rfl
theorem Dl (l:List (Nat×List Nat)) (q:Nat×List Nat):fN (l++ [q])=fN l++kS q.1 q.2:=by simp[fN]
theorem zQ:∀(l:List (Nat×List Nat)) (i:Nat),(fN (l.take i)).length≤(fN l).length
 | [],i=>aq
 |q::l,0=>by simp[fN]
 |q::l,i+1=>by
  have:=zQ l i;simp only[fN,Vq,Vx,Ya]at this⊢;omega
theorem Ho {l:List (Nat×List Nat)}{q:Nat×List Nat}(h:q∈l):q.2.length≤(fN l).length:=by
 induction l with
 |nil=>cases h
 |cons a l ih=>
  simp only[fN,Vx,Ya]at ih⊢;rcases Xo.1 h with rfl|h
  ·simp only[kS,mL,Ya];omega
  ·have:=ih h;omega
theorem YD {G:dJ}{H:dD}{s:SV}{l:List (Nat×SV)}{bl:List (Nat×List Nat)} [hg:Glb G H] [Tab H 27 oc] [Tab H 25 mA] [Sl H s eK l] (a:Nat) (hk0:a≠0) (hk:a<256) (t:sy H l bl) (j:∀q∈bl,0<q.1∧q.1<256∧∀x∈q.2,x<256) (hn:(fN bl).length≤1000000000) (hm:bl.length≤1000000000):SC G prog 169 [.int .u8 (a:Int),s.val] H (λv u=>∃h:SV,v=.tuple #[h.val,.nilIface]∧u=Row h eB (nN a bl)::H):=by
 obtain⟨c,d⟩:=t;have hul:=iw (n:=bl.length) a8;have hql:(oO a bl).length≤10000000000:=by simp only[oO,Ya,Yb,Yc];omega
 refine sWk func169 ?_;refine gW (λh1=>?_) λh1=>?_
 ·exfalso;omega
 refine go ?_;refine c0_ rfl iM ?_;rintro _ _ ⟨g,rfl,rfl⟩;refine go ?_;refine s_ (zb eB rfl rfl rfl rfl rfl) ?_;rintro _ _ ⟨s1,rfl,rfl⟩;refine s_ (K7 rfl aq) ?_;rintro _ _ ⟨rfl,rfl⟩;refine d2_ rfl (Eb aq aq) (go ?_);refine d2_ rfl (qA a aq) (on_ (qn_ (ws_ (wr_ (e_ mv (e_ mv (e_ lnn ?_)))))));refine e_ (dW 18446744073709551616 rfl rfl rfl bl.length a8 a8) ?_;refine d2_ rfl (gl bl.length a8 aq) (gk (k:=wl_ (Nat×List Nat) (λy=>y.1≤bl.length∧y.2= [99,110,99,100]++ [a]++uv bl.length++fN (bl.take y.1)) (λy=>[(6,pA g),(27,s.val),(28,iN bl.length),(29,iN y.1)]) (λy=>Wr g y.2::H) (λy=>bl.length-y.1) ((0, [99,110,99,100]++ [a]++uv bl.length)) (hs:=?_) (h0:=?_) (k:=?_)))
 ·rw[c]
  repeat (first|exact Sub.nil|refine Sub.cons rfl ?_)
 ·try dsimp only
  exact⟨Yl _,by simp[fN]⟩
 rintro⟨i,zs⟩ ⟨hi,hI⟩
 try dsimp only at*
 have hzl:zs.length≤10000000000:=by
  have:=zQ bl i;rw[hI];simp only[Ya,Yb,Yc];omega
 refine go ?_;refine gW (λh2=>?_) λh2=>?_
 ·obtain⟨p,hp⟩:=gE l i;obtain⟨q,b⟩:=gE bl i;obtain⟨f,hS⟩:=d i p q hp b;obtain⟨ht1,ht2,e⟩:=j q (Yj b);have hbl:=Ho (Yj b);have hel:(kS q.1 q.2).length≤10000000000:=by
   have hu:=iw (n:=q.2.length) a8;simp only[kS,mL,Ya,Yb,Yc,we];omega
  refine gk (k:=alc (k:=λg=>?_));refine go ?_;refine c2_ rfl (PB p.1 a8 a8 e a8) ?_;rintro _ _ ⟨r,rfl,rfl⟩;rw[f];refine e_ mv (e_ exr (e_ exr (e_ asn (e_ asn (on_ (qn_ (ws_ (ws_ (wr_ (e_ mv ?_))))))))));refine e_ (dL rfl) ?_;refine gk (k:=fM (k:=go ?_));refine d2_ rfl (Eb a8 a8) (go ?_);refine lN ((i+1,zs++kS q.1 q.2)) ?_
  try dsimp only
  refine⟨a8,?_⟩;rw[dK b,Dl,hI];simp
 obtain rfl:i=bl.length:=a8;rw[Xn]at hI;have hI':zs=oO a bl:=hI;subst hI';refine go ?_;refine c1_ rfl (kK a8) ?_;rintro _ _ ⟨r,rfl,rfl⟩;refine d1_ rfl (Kg a8 (B0 hk λq b=>(j q b).2)) ?_;refine d2_ rfl (FT (xh (oO a bl)) a8) (go ?_);refine c1_ rfl (kK (xs:=nN a bl) (by simp only[nN,Ya,we];omega)) ?_;rintro _ _ ⟨m,rfl,rfl⟩;refine gR ?_;exact⟨_,hsb,m,rfl,rfl⟩
section
variable {i:Nat}{v:Int}{x:Operand}
section
variable {G:dJ}{P:Program}{t:Tm}{H:dD}{dst:Option Tmp}{ty:TypeId}{pos:String}{after:Array Edge}{g:Option (Nat×Bool)}
theorem D6 {T E:TypeId}{b n a c:Nat}{z:Value}(hx:evo t x=some (pA b)) [hT:Und P T (.array n E)] [hE:Inf P E a c z] (hn:0<n):
 Ev G P ⟨dst,.slice T x none none none,ty,pos,after,g⟩ t H (SV.mk (some ⟨b,0,none⟩) n n).val:=
 fun ρ hρ w _=>by
  have h0:¬(n=0):=a8;simp[execOp,hρ _ _ hx,Instr.sliceAt,ef (T:=T),Instr.sureAddr,fy (T:=E) (s:=a),Instr.sliceBounds,jT,SV.val]
theorem UP {b:Nat}{l:List Value}{α:Type}{e:Enc α}{xs:List α}{n:Nat} [h:dQ H b l] (hl:l=e.all xs) (hn:n=xs.length):Sl H ⟨some ⟨b,0,none⟩,n,n⟩ e xs:=
 ⟨λL hL=>by
  obtain⟨E,fz,hm⟩:=h.mem L hL;refine⟨hn,Xl _,.inr ⟨b,0,l.toArray,E,fz,rfl,hm,?_,?_⟩⟩
  ·rw[hl];simp only[List.size_toArray,e.all_length];rw[hn];omega
  ·intro j v hv;rw[Vw,hl];simpa using hv⟩
def BM (v:Int):Nat:=(v%18446744073709551616).toNat
theorem Dd {S D:TypeId}{ds:TypeDesc}{i:Int} [hs:Und P S ds] [hd:Und P D (.int .u64)] (hx:evo t x=some (.int .i64 i)):
 Ev G P ⟨dst,.convert S D x,ty,pos,after,g⟩ t H (uN (BM i)):=
 fun ρ hρ w _=>by
  have e:(underlying S).run P w=.ok ds w:=by simp[underlying,hs.out]
  have b:(underlying D).run P w=.ok (.int .u64) w:=by simp[underlying,hd.out]
  have a:IntKind.wrap .u64 i=((BM i:Nat):Int):=by
   have h1:0≤i%18446744073709551616:=Int.emod_nonneg _ ae;rw[BM,Int.toNat_of_nonneg h1];all_goals rfl
  simp only[execOp,convert,hρ _ _ hx,Sem.run_bind,e,b,Result.andThen_ok];cases ds <;> simp[Conv.intToInt,a]
end
theorem US {x:Nat}(h:x<18446744073709551616):x ^^^ 9223372036854775808=(x+9223372036854775808)%18446744073709551616:=by
 have a:∀y:Nat,y<9223372036854775808→y ^^^ 9223372036854775808=y+9223372036854775808:=by
  intro y hy;have h1:2^63*1+y=2^63*1 |||y:=Nat.two_pow_add_eq_or_of_lt (i:=63) hy 1;have h2:y ^^^ 9223372036854775808=2^63*1 |||y:=by
   apply Nat.eq_of_testBit_eq;intro i;rw[Nat.testBit_xor,Nat.testBit_or,show(9223372036854775808:Nat)=2^63 from rfl,U5,Nat.testBit_two_pow]
   by_cases hi:63=i
   ·subst hi;rw[Nat.testBit_lt_two_pow hy];all_goals rfl
   ·rw[Yr hi];simp
  rw[h2,←h1];omega
 by_cases hx:x<9223372036854775808
 ·rw[a x hx];omega
 ·have h1:=a (x-9223372036854775808) a8;have h2:x=(x-9223372036854775808) ^^^ 9223372036854775808:=by rw[h1];omega
  have h3:x ^^^ 9223372036854775808=x-9223372036854775808:=by
   conv=>lhs;rw[h2]
   rw[Q9,Nat.xor_self,Nat.xor_zero]
  rw[h3];omega
theorem Ru (v:Int):BM v<18446744073709551616:=by
 have h1:0≤v%18446744073709551616:=Int.emod_nonneg _ ae;have h2:v%18446744073709551616<18446744073709551616:=Int.emod_lt_of_pos _ ae;rw[BM];omega
def xI (v:Int):Nat:=(BM v+9223372036854775808)%18446744073709551616
def CL (v:Int) (i:Nat):Nat:=xI v/2^(56-8*i)%256
def kZ (v:Int):List Nat:=(List.range 8).map (CL v)
def uY (v:Int) (i:Nat):List Nat:=(kZ v).take i++List.replicate (8-i) 0
theorem oH (v:Int):(kZ v).length=8:=by simp[kZ]
theorem Lc (v:Int) (h:i≤8):(uY v i).length=8:=by simp[uY,oH];omega
theorem La (v:Int) (h:i<8):(kZ v)[i]? =some (CL v i):=by
 rw[kZ,Xd,Ur h];all_goals rfl
theorem zq (v:Int) (h:i<8):(kZ v).take (i+1)=(kZ v).take i++ [CL v i]:=by
 rw[Um,La v h];all_goals rfl
theorem Lb (v:Int) (h:i<8):(uY v i).set i (CL v i)=uY v (i+1):=by
 have hl:((kZ v).take i).length=i:=by rw[Yg,oH];omega
 rw[uY,List.set_append,if_neg cP,hl,Ui,show 8-i=(8-(i+1))+1 from a8,V6,List.set_cons_zero,uY,zq v h,Yf];all_goals rfl
theorem GC (v:Int):∀x∈kZ v,x<256:=by
 intro x hx;obtain⟨i,_,rfl⟩:=Xt.1 hx;exact V2 _ ae
def u8s (l:List Nat):List Value:=l.map fun(n:Nat)=>Value.int .u8 (n:Int)
theorem Nv (l:List Nat):u8s l=eB.all l:=by
 rw[Fw,u8s,Uo];all_goals rfl
theorem Spl.at_ {l:List Nat}{x:Nat}(h:i<l.length):Spl (u8s l) (0+i*1) [.int .u8 (x:Int)] (u8s (l.set i x)):=
 rW (by simp[u8s];omega) (by
  rw[Vw,U5,u8s,u8s,R9,U6,if_pos bA];simp)
theorem Ik (v:Int):u8s (uY v 0)= [.int .u8 0,.int .u8 0,.int .u8 0,.int .u8 0,.int .u8 0,.int .u8 0,.int .u8 0,.int .u8 0]:=by
 rw[uY,List.take_zero,Ye];all_goals rfl
theorem VZ {G:dJ}{H:dD}(hv: -9223372036854775808≤v∧v≤9223372036854775807):SC G prog 248 [.int .i64 v] H (λu d=>u=.string (eG (kZ v))∧d=H):=by
 have a:=Ru v;have hx:=US a;refine sWk func248 ?_;refine ws_ (wr_ (e_ asn (on_ (qn_ (ws_ (wr_ (e_ mv ?_)))))));refine e_ (Dd rfl) ?_;refine e_ (q9 18446744073709551616 rfl rfl rfl rfl (BM v) 9223372036854775808 rfl rfl a ae) ?_;refine e_ (asv (v:=uN (xI v)) rfl (by rw[hx];all_goals rfl)) ?_;refine gk (k:=alc (k:=λc=>?_));rw[←Ik v];refine gk (k:=e8 Nat (λy=>y≤8) (λy=>[(9,iN y)]) [(3,_),(4,_)] (λy=>[Vr c (u8s (uY v y))]) _ (λy=>8-y) (0) (h0:=?_) (k:=?_))
 ·exact Yl _
 rintro i hi
 try dsimp only[Yd,Ye]at*
 refine gW (λh1=>?_) λh1=>?_
 ·have b:i<8:=by omega
  haveI hSp:Spl (u8s (uY v i)) (0+i*1) [.int .u8 ((CL v i:Nat):Int)] (u8s ((uY v i).set i (CL v i))):=Spl.at_ (by rw[Lc v a8];exact b);refine wk_ (qn_ (ws_ (wb_ (ws_ (wr_ (e_ mv (e_ asn (on_ (qn_ (wr_ (e_ mv (e_ mv (e_ mv ?_)))))))))))));refine e_ iml (e_ isb ?_);refine e_ (hX rfl rfl (xI v) (56-8*i) rfl a8 (by show _≤64;omega)) ?_;refine e_ (ez 256 rfl rfl rfl (xI v/2^(56-8*i)) rfl) ?_;refine e_ (gI rfl rfl _ rfl a8) ?_;refine s_ (ej (v:=.int .u8 ((CL v i:Nat):Int)) rfl rfl rfl) ?_;rintro _ _ ⟨rfl,rfl⟩;rw[Lb v b];refine go ?_;refine lN (i+1) ?_
  try dsimp only
  omega
 obtain rfl:i=8:=a8;have h8:uY v 8=kZ v:=by rw[uY,Xr (by rw[oH];omega)];simp
 rw[h8];haveI hSl:Sl (Vr c (u8s (kZ v))::H) ⟨some ⟨c,0,none⟩,8,8⟩ eB (kZ v):=UP (Nv _) (by rw[oH]);refine we_ (qe_ (le_ (bh_ (qn_ (ws_ (wr_ ?_))))));refine e_ (D6 rfl ae) ?_;refine e_ (fx rfl) ?_;exact gZ
theorem WM {G:dJ}{H:dD}(hv: -9223372036854775808≤v∧v≤9223372036854775807):SC G prog 147 [.int .i64 v] H (λu d=>u=.string (eG (kZ v))∧d=H):=by
 refine sWk func147 ?_;refine ws_ (wr_ (e_ asn (on_ (qn_ (ws_ (wr_ (e_ mv ?_)))))));refine e_ (Dd rfl) ?_;refine e_ (lk 18446744073709551616 rfl rfl rfl rfl (BM v) 9223372036854775808 rfl rfl) ?_;refine e_ (asv (v:=uN (xI v)) rfl rfl) (go ?_);refine s_ (fk eB rfl) ?_;rintro _ _ ⟨c,rfl,rfl⟩;refine gk (k:=e8 (SV×Nat) (λy=>y.2≤8) (λy=>[(4,y.1.val),(5,iN y.2)]) [(3,_)] (λy=>[Row y.1 eB ((kZ v).take y.2)]) _ (λy=>8-y.2) ((c,0)) (h0:=?_) (k:=?_))
 ·exact Yl _
 rintro⟨s,i⟩ hi
 try dsimp only[Yd,Ye]at*
 refine gW (λh1=>?_) λh1=>?_
 ·have b:i<8:=by omega
  have hlen:((kZ v).take i).length≤8:=az;refine wk_ (qn_ (ws_ (wb_ (wr_ (e_ mv (e_ mv (e_ mv (e_ iml (e_ isb ?_)))))))));refine e_ (hX rfl rfl (xI v) (56-8*i) rfl a8 (by show _≤64;omega)) ?_;refine e_ (mw rfl rfl (xI v/2^(56-8*i)) 256 rfl rfl ae) ?_;refine e_ (dW 256 rfl rfl rfl (CL v i) rfl (V2 _ ae)) ?_;refine fS eB (k:=λs22=>?_);refine app (k:=λa=>?_);rw[←zq v b];refine go ?_;refine lN ((a,i+1)) ?_
  try dsimp only
  omega
 obtain rfl:i=8:=a8;rw[Xr (show(kZ v).length≤8 by rw[oH];omega)];refine we_ (qe_ (le_ (bh_ (qn_ (ws_ (wr_ (e_ mv ?_)))))));refine e_ (fx rfl) ?_;exact gZ
end
theorem Pr {a:Nat}{bl:List (Nat×List Nat)}(hk:a<256) (h:∀q∈bl,q.1<256∧∀x∈q.2,x<256):∀x∈nN a bl,x<256:=λx hx=>by
 rcases Xm.1 hx with hx|hx
 ·exact B0 hk h x hx
 ·exact Jk _ x hx
end Go.Sx
