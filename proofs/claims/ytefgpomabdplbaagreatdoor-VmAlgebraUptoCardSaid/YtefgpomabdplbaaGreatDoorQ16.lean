import Derived.Test.YtefgpomabdplbaaGreatDoorQ15
set_option linter.unusedVariables false
set_option linter.unusedSimpArgs false
set_option linter.unusedSectionVars false
set_option linter.unnecessarySimpa false
set_option maxHeartbeats 0
namespace Go.Sx
open Go Go.Proofs
set_option maxRecDepth 100000
def w32 (x:Nat):List Nat:= [x % 256,x / 256 % 256,x / 65536 % 256,x / 16777216 % 256]
theorem I9 (x i:Nat) (hi:i<4):(w32 x)[i]? =some (x / 2 ^ (8*i) % 256):=by
 match i,hi with
 | 0,_=> simp[w32]
 | 1,_=> simp[w32]
 | 2,_=> simp[w32]
 | 3,_=> simp[w32]
theorem cP {α:Type}{l:List α}{i:Nat}{x:α}(h:l[i]? =some x):l.take (i+1)=l.take i++ [x]:=by
 rw[List.take_add_one,h];all_goals rfl
theorem Bs {G:cK}{H R:cG}{b:Nat}{xs:List Nat} [hr:Rem H Wr b xs R] (x:Nat) (hn:xs.length≤1000000000000):SC G Tryz.prog 183 [.pointer (some ⟨b,0,none⟩), .int .u32 (x:Int)] H (fun v H'=> v= .tuple #[]∧H'=Wr b (xs++w32 x)::R):=by
 refine tt hr fun s=> ?_
 refine sWk Tryz.func183 Tryz.ntmps183 ?_
 refine gk (k:=wl_ (SV×Nat×List Nat) (fun y=> y.2.2=xs++(w32 x).take y.2.1∧y.2.1≤4) (fun y=> [(0, .pointer (some ⟨b,0,none⟩)),(1, .int .u32 (x:Int)),(5, .int .i64 ((y.2.1:Nat):Int))]) (fun y=> Vr b [y.1.val]::Row y.1 eB y.2.2::R) (fun y=> 4 - y.2.1) ((s,0,xs)) (h0:=?_) (k:=?_))
 ·try dsimp only
  exact⟨an,Yl _⟩
 rintro⟨s,i,zs⟩ ⟨hI,hi⟩
 try dsimp only at*
 have hlen:=congrArg List.length hI
 simp only[Ya,Yg]at hlen
 refine gk (k:=wi_ (k:=fun h1=>?_) (m:=fun h1=>?_))
 ·refine go ?_
  refine df cI (fun i=> [10,11,14].contains i) (fun k H=> (k=4→cQ H b [s.val])) (af_ 0 (q:=cD fun H hH=>mv) (k:=af_ 1 (q:=cD fun H hH=>mv) (k:=af_ 2 (q:=cD fun H hH=>nck) (k:=af_ 3 (q:=cD fun H hH=>fla) (k:=?_)))))
  refine cE 4 rfl rfl (a8) rfl (cD fun H hH=>bA) (?_)
  refine af_ 5 (q:=cD fun H hH=>mv) (k:=af_ 6 (q:=cD fun H hH=>mv) (k:=af_ 7 (q:=cD fun H hH=>iml) (k:=?_)))
  refine cE 8 rfl rfl (a8) rfl (cD fun H hH=>fC rfl rfl x (8*i) rfl (aa) (by show 8*i≤32;omega)) (?_)
  refine cE 9 rfl rfl (a8) rfl (cD fun H hH=>(aR)) (?_)
  refine cN 10 rfl (a8) rfl (fun k hk=> fun hi=> ab) (ew eB rfl rfl) ?_
  rintro _ _ ⟨s1,rfl,rfl⟩
  refine cN 11 rfl (a8) rfl (fun k hk=> fun hi=> ab) (eY rfl rfl rfl rfl (af) (af)) ?_
  rintro _ _ ⟨s2,rfl,rfl⟩
  refine af_ 12 (q:=cD fun H hH=>nck) (k:=af_ 13 (q:=cD fun H hH=>fla) (k:=?_))
  refine cN 14 rfl (a8) rfl (fun k hk=> fun hi=> absurd hk (ad)) (dM rfl rfl rfl) ?_
  rintro _ _ ⟨rfl,rfl⟩
  refine db (a8) (fun k hk=> fun hi=> absurd hk (ad)) (go ?_)
  refine ln_ ((s2,i+1,zs++ [x / 2 ^ (8*i) % 256])) (k:=?_)
  try dsimp only
  refine⟨?_,aa⟩
  rw[hI,cP (I9 x i (aa)),Yf]
 obtain rfl:i=4:=aa
 have e:zs=xs++w32 x:=hI
 refine gk (k:=rt_ Tryz.results183 (k:=?_))
 exact⟨_,by rw[e];exact hsb,rfl,rfl⟩
theorem Ei {G:cK}{H R:cG}{b:Nat}{xs:List Nat} [hr:Rem H Wr b xs R] (q:ByteArray) (hn:xs.length≤100000000000) (hq:q.size≤100000000000):SC G Tryz.prog 172 [.pointer (some ⟨b,0,none⟩), .string q] H (fun v H'=> v= .tuple #[]∧H'=Wr b (xs++(uv q.size++cF q))::R):=by
 have hl:=fq (n:=q.size) (aa)
 refine SC.rem (h:=hr) ?_
 refine sWk Tryz.func172 Tryz.ntmps172 ?_
 refine ws_ (wr_ (e_ mv (k:=e_ mv (k:=e_ nT (k:=?_)))))
 refine e_ ((ae)) (k:=?_)
 refine d2_ rfl (ek q.size (aa) (aa)) (k:=?_)
 refine FT b fun s=> ?_
 refine go ?_
 refine s_ (uJ rfl rfl rfl (af) (af)) (k:=?_)
 rintro _ _ ⟨s1,rfl,rfl⟩
 refine gk (k:=rt_ Tryz.results172 (k:=?_))
 exact⟨_,by rw[Yf];exact hsb,rfl,rfl⟩
def bs (p r:Nat):Nat:=if r % 2=1 then(r / 2) ^^^ p else r / 2
def bs4 (p r:Nat):Nat:=bs p (bs p (bs p (bs p r)))
def Ks (p r x:Nat):Nat:=bs4 p (bs4 p (r ^^^ x))
def x9 (p r:Nat) (l:List Nat):Nat:=l.foldl (Ks p) r
def pB:Nat:=3988292384
def ng:Nat:=2197175160
def rR (l:List Nat):Nat:=4294967295 ^^^ x9 pB 4294967295 l
def tq (l:List Nat):Nat:=4294967295 ^^^ x9 ng 4294967295 l
theorem NC (p a b:Nat):bs p (a ^^^ b)=bs p a ^^^ bs p b:=by
 have h1:(a ^^^ b) / 2=a / 2 ^^^ b / 2:=Nat.xor_div_two_pow (n:=1)
 have h2:(a ^^^ b) % 2=(a % 2) ^^^ (b % 2):=Nat.xor_mod_two_pow (n:=1)
 unfold bs
 rw[h1,h2]
 rcases Nat.mod_two_eq_zero_or_one a with ha|ha <;> rcases Nat.mod_two_eq_zero_or_one b with hb|hb <;> rw[ha,hb]
 ·simp
 ·simp[Nat.xor_assoc]
 ·simp only[Nat.xor_zero,↓reduceIte,Nat.zero_ne_one]
  rw[Nat.xor_assoc,Nat.xor_comm (b / 2) p,←Nat.xor_assoc]
 ·simp only[Nat.xor_self,Nat.zero_ne_one,↓reduceIte]
  rw[Nat.xor_assoc,←Nat.xor_assoc p,Nat.xor_comm p,Nat.xor_assoc (b / 2),Nat.xor_self,Nat.xor_zero]
theorem Kx (p a b:Nat):bs4 p (a ^^^ b)=bs4 p a ^^^ bs4 p b:=by simp only[bs4,NC]
theorem sJ (p q:Nat):bs p (2*q)=q:=by unfold bs;rw[if_neg (aa)];omega
theorem ND (p q:Nat):bs4 p (16*q)=q:=by
 unfold bs4
 rw[show 16*q=2*(2*(2*(2*q)))from aa,sJ,sJ,sJ,sJ]
theorem IY (r:Nat):r=(16*(r / 16)) ^^^ (r % 16):=by
 have h:(r / 16) <<< 4+r % 16=(r / 16) <<< 4 |||r % 16:=Nat.shiftLeft_add_eq_or_of_lt (Nat.mod_lt r (ag)) _
 have h2:(r / 16) <<< 4=16*(r / 16):=by rw[Nat.shiftLeft_eq];omega
 rw[h2]at h
 have h3:16*(r / 16)+r % 16=r:=Nat.div_add_mod r 16
 have h4:(16*(r / 16)) ^^^ (r % 16)=(16*(r / 16)) |||(r % 16):=by
  apply Nat.eq_of_testBit_eq
  intro i
  rw[Nat.testBit_xor,Nat.testBit_or,show 16*(r / 16)=2 ^ 4*(r / 16)from rfl,show r % 16=r % 2 ^ 4 from rfl,Nat.testBit_two_pow_mul,Nat.testBit_mod_two_pow]
  by_cases hi:i<4
  ·simp[hi,show ¬(4≤i)from aa]
  ·simp[hi]
 rw[h4,←h,h3]
theorem nib (p r:Nat):(r / 2 ^ 4) ^^^ bs4 p (r % 16)=bs4 p r:=by
 conv=> rhs;rw[IY r]
 rw[Kx,ND]
theorem Cy {p r:Nat}(hp:p<4294967296) (hr:r<4294967296):bs p r<4294967296:=by
 unfold bs
 split
 ·exact Nat.xor_lt_two_pow (n:=32) (aa) hp
 ·omega
theorem lx {p r:Nat}(hp:p<4294967296) (hr:r<4294967296):bs4 p r<4294967296:=Cy hp (Cy hp (Cy hp (Cy hp hr)))
theorem sM {a b:Nat}(ha:a<4294967296) (hb:b<4294967296):a ^^^ b<4294967296:=Nat.xor_lt_two_pow (n:=32) ha hb
theorem Kr {p r x:Nat}(hp:p<4294967296) (hr:r<4294967296) (hx:x<256):Ks p r x<4294967296:=lx hp (lx hp (sM hr (aa)))
theorem sH {p:Nat}(hp:p<4294967296):∀(l:List Nat) (r:Nat),r<4294967296→(∀x∈l,x<256)→x9 p r l<4294967296
 | [],r,hr,_=> hr
 |x::l,r,hr,hb=> sH hp l (Ks p r x) (Kr hp hr (hb x (an))) (fun y hy=> hb y (by simp[hy]))
theorem vW (p r:Nat) (l:List Nat) (x:Nat):x9 p r (l++ [x])=Ks p (x9 p r l) x:=by simp[x9]
theorem w4 (r:Nat):r &&& 15=r % 16:=Nat.and_two_pow_sub_one_eq_mod r 4
def lg:List Nat:= [0,0x1db71064,0x3b6e20c8,0x26d930ac,0x76dc4190,0x6b6b51f4,0x4db26158,0x5005713c,0xedb88320,0xf00f9344,0xd6d6a3e8,0xcb61b38c,0x9b64c2b0,0x86d3d2d4,0xa00ae278,0xbdbdf21c]
def jP:List Nat:= [0,0x105ec76f,0x20bd8ede,0x30e349b1,0x417b1dbc,0x5125dad3,0x61c69362,0x7198540d,0x82f63b78,0x92a8fc17,0xa24bb5a6,0xb21572c9,0xc38d26c4,0xd3d3e1ab,0xe330a81a,0xf36e6f75]
theorem I1:∀i:Fin 16,lg[i.val]? =some (bs4 pB i.val):=ay
theorem Fp:∀i:Fin 16,jP[i.val]? =some (bs4 ng i.val):=ay
theorem Bn (r:Nat):(lg.map fun n=> Value.int .u32 ((n:Nat):Int))[0+(r &&& 15)*1]? =some (.int .u32 ((bs4 pB (r % 16):Nat):Int)):=by
 rw[Nat.zero_add,Nat.mul_one,w4,Xd,I1 ⟨r % 16,aa⟩];all_goals rfl
theorem y8 (r:Nat):(jP.map fun n=> Value.int .u32 ((n:Nat):Int))[0+(r &&& 15)*1]? =some (.int .u32 ((bs4 ng (r % 16):Nat):Int)):=by
 rw[Nat.zero_add,Nat.mul_one,w4,Xd,Fp ⟨r % 16,aa⟩];all_goals rfl
theorem On {G:cK}{H:cG}{s:SV}{xs:List Nat} [Tab H 27 lg] [Sl H s eB xs] (r0:Nat) (hr:r0<4294967296) (hn:xs.length≤1000000000000) (hb:∀x∈xs,x<256):SC G Tryz.prog 245 [.int .u32 ((r0:Nat):Int),s.val] H (fun v H'=> v= .int .u32 ((x9 pB r0 xs:Nat):Int)∧H'=H):=by
 refine sWk Tryz.func245 Tryz.ntmps245 ?_
 refine go ?_
 refine wl_ (Nat×Nat) (fun y=> y.1≤xs.length∧y.2=x9 pB r0 (xs.take y.1)∧y.2<4294967296) (fun y=> [(0, .int .u32 ((y.2:Nat):Int)),(7,s.val),(8, .int .i64 ((xs.length:Nat):Int)),(9, .int .i64 ((y.1:Nat):Int))]) (fun _=> H) (fun y=> xs.length - y.1) ((0,r0)) (h0:=?_) (k:=?_)
 ·try dsimp only
  exact⟨Yl _,rfl,hr⟩
 rintro⟨i,r⟩ ⟨hi,hI,hr1⟩
 try dsimp only at*
 refine gk (k:=wi_ (k:=fun h1=>?_) (m:=fun h1=>?_))
 ·obtain⟨x,hx⟩:∃x,xs[i]? =some x:=⟨_,Yi (aa)⟩
  have hxb:=hb x (Yj hx)
  have h1x:r ^^^ x<4294967296:=sM hr1 (aa)
  have h1z:=Bn (r ^^^ x)
  have h2b:bs4 pB ((r ^^^ x) % 16)<4294967296:=lx (ag) (aa)
  have h2x:bs4 pB (r ^^^ x)<4294967296:=lx (ag) h1x
  have h2z:=Bn (bs4 pB (r ^^^ x))
  have h3b:bs4 pB (bs4 pB (r ^^^ x) % 16)<4294967296:=lx (ag) (aa)
  refine wk_ (qn_ (ws_ (wb_ (ws_ (wr_ (e_ ixa (k:=e_ lel (k:=e_ asn (k:=on_ (qn_ (ws_ (wr_ (e_ mv (k:=?_))))))))))))))
  refine e_ mv (k:=?_)
  refine e_ ((aw)) (k:=?_)
  refine e_ (mK 4294967296 rfl rfl rfl rfl _ _ rfl rfl (aj) (aj)) (k:=?_)
  refine e_ asn (k:=on_ (qn_ (ws_ (wr_ (e_ mv (k:=?_))))))
  refine e_ (fC rfl rfl _ 4 rfl rfl (bS)) (k:=?_)
  refine e_ mv (k:=?_)
  refine e_ (mR 4294967296 rfl rfl rfl rfl _ 15 rfl rfl (aj) (aj)) (k:=?_)
  refine e_ (eM rfl rfl ((r ^^^ x) &&& 15) rfl (by rw[w4];omega)) (k:=?_)
  refine e_ (kH rfl h1z) (k:=?_)
  refine e_ (mK 4294967296 rfl rfl rfl rfl _ _ rfl rfl (aj) (aj)) (k:=?_)
  refine e_ asn (k:=on_ (qn_ (wr_ (?_))))
  rw[nib]
  refine e_ mv (k:=?_)
  refine e_ (fC rfl rfl _ 4 rfl rfl (bS)) (k:=?_)
  refine e_ mv (k:=?_)
  refine e_ (mR 4294967296 rfl rfl rfl rfl _ 15 rfl rfl (aj) (aj)) (k:=?_)
  refine e_ (eM rfl rfl (bs4 pB (r ^^^ x) &&& 15) rfl (by rw[w4];omega)) (k:=?_)
  refine e_ (kH rfl h2z) (k:=?_)
  refine e_ (mK 4294967296 rfl rfl rfl rfl _ _ rfl rfl (aj) (aj)) (k:=?_)
  refine e_ asn (k:=on_ (bn_ (qn_ (wr_ (?_)))))
  rw[nib]
  refine go ?_
  refine ln_ ((i+1,bs4 pB (bs4 pB (r ^^^ x)))) (k:=?_)
  try dsimp only
  refine⟨aa,?_,lx (ag) h2x⟩
  rw[cP hx,vW,←hI];all_goals rfl
 obtain rfl:i=xs.length:=aa
 rw[List.take_length]at hI
 refine gk (k:=rt_ Tryz.results245 (k:=?_))
 exact⟨_,cJ.refl,by rw[hI];all_goals rfl,rfl⟩
theorem Fs {G:cK}{H:cG}{s:SV}{xs:List Nat} [Tab H 25 jP] [Sl H s eB xs] (hn:xs.length≤1000000000000) (hb:∀x∈xs,x<256):SC G Tryz.prog 150 [s.val] H (fun v H'=> v= .int .u32 ((tq xs:Nat):Int)∧H'=H):=by
 refine sWk Tryz.func150 Tryz.ntmps150 ?_
 refine go ?_
 refine gk (k:=wl_ (Nat×Nat) (fun y=> y.1≤xs.length∧y.2=x9 ng 4294967295 (xs.take y.1)∧y.2<4294967296) (fun y=> [(3, .int .u32 ((y.2:Nat):Int)),(6,s.val),(7, .int .i64 ((xs.length:Nat):Int)),(8, .int .i64 ((y.1:Nat):Int))]) (fun _=> H) (fun y=> xs.length - y.1) ((0,4294967295)) (h0:=?_) (k:=?_))
 ·try dsimp only
  exact⟨Yl _,rfl,aa⟩
 rintro⟨i,r⟩ ⟨hi,hI,hr1⟩
 try dsimp only at*
 refine gk (k:=wi_ (k:=fun h1=>?_) (m:=fun h1=>?_))
 ·obtain⟨x,hx⟩:∃x,xs[i]? =some x:=⟨_,Yi (aa)⟩
  have hxb:=hb x (Yj hx)
  have h1x:r ^^^ x<4294967296:=sM hr1 (aa)
  have h1z:=y8 (r ^^^ x)
  have h2b:bs4 ng ((r ^^^ x) % 16)<4294967296:=lx (ag) (aa)
  have h2x:bs4 ng (r ^^^ x)<4294967296:=lx (ag) h1x
  have h2z:=y8 (bs4 ng (r ^^^ x))
  have h3b:bs4 ng (bs4 ng (r ^^^ x) % 16)<4294967296:=lx (ag) (aa)
  refine wk_ (qn_ (ws_ (wb_ (ws_ (wr_ (e_ ixa (k:=e_ lel (k:=e_ asn (k:=on_ (qn_ (ws_ (wr_ (e_ mv (k:=?_))))))))))))))
  refine e_ mv (k:=?_)
  refine e_ ((aw)) (k:=?_)
  refine e_ (mK 4294967296 rfl rfl rfl rfl _ _ rfl rfl (aj) (aj)) (k:=?_)
  refine e_ asn (k:=on_ (qn_ (ws_ (wr_ (e_ mv (k:=?_))))))
  refine e_ (fC rfl rfl _ 4 rfl rfl (bS)) (k:=?_)
  refine e_ mv (k:=?_)
  refine e_ (mR 4294967296 rfl rfl rfl rfl _ 15 rfl rfl (aj) (aj)) (k:=?_)
  refine e_ (eM rfl rfl ((r ^^^ x) &&& 15) rfl (by rw[w4];omega)) (k:=?_)
  refine e_ (kH rfl h1z) (k:=?_)
  refine e_ (mK 4294967296 rfl rfl rfl rfl _ _ rfl rfl (aj) (aj)) (k:=?_)
  refine e_ asn (k:=on_ (qn_ (wr_ (?_))))
  rw[nib]
  refine e_ mv (k:=?_)
  refine e_ (fC rfl rfl _ 4 rfl rfl (bS)) (k:=?_)
  refine e_ mv (k:=?_)
  refine e_ (mR 4294967296 rfl rfl rfl rfl _ 15 rfl rfl (aj) (aj)) (k:=?_)
  refine e_ (eM rfl rfl (bs4 ng (r ^^^ x) &&& 15) rfl (by rw[w4];omega)) (k:=?_)
  refine e_ (kH rfl h2z) (k:=?_)
  refine e_ (mK 4294967296 rfl rfl rfl rfl _ _ rfl rfl (aj) (aj)) (k:=?_)
  refine e_ asn (k:=on_ (bn_ (qn_ (wr_ (?_)))))
  rw[nib]
  refine go ?_
  refine ln_ ((i+1,bs4 ng (bs4 ng (r ^^^ x)))) (k:=?_)
  try dsimp only
  refine⟨aa,?_,lx (ag) h2x⟩
  rw[cP hx,vW,←hI];all_goals rfl
 obtain rfl:i=xs.length:=aa
 rw[List.take_length]at hI
 refine we_ (qe_ (le_ (bh_ (qn_ (ws_ (wr_ (e_ mv (k:=?_))))))))
 refine e_ (wT 4294967296 rfl rfl rfl _ rfl (aa)) (k:=?_)
 refine gk (k:=rt_ Tryz.results150 (k:=?_))
 exact⟨_,cJ.refl,by rw[hI];all_goals rfl,rfl⟩
theorem K0 {G:cK}{H:cG}{s:SV}{xs:List Nat} [Tab H 27 lg] [Sl H s eB xs] (hn:xs.length≤1000000000000) (hb:∀x∈xs,x<256):SC G Tryz.prog 232 [.int .u32 0,s.val] H (fun v H'=> v= .int .u32 ((rR xs:Nat):Int)∧H'=H):=by
 have hc:=sH (p:=pB) (ag) xs 4294967295 (ag) hb
 refine sWk Tryz.func232 Tryz.ntmps232 ?_
 refine ws_ (wr_ (e_ asn (k:=on_ (qn_ (ws_ (wr_ (e_ mv (k:=?_))))))))
 refine e_ (wT 4294967296 rfl rfl rfl 0 rfl (aa)) (k:=?_)
 refine go ?_
 refine d2_ rfl (On 4294967295 (ag) hn hb) (k:=?_)
 refine e_ (wT 4294967296 rfl rfl rfl _ rfl hc) (k:=?_)
 refine gk (k:=rt_ Tryz.results232 (k:=?_))
 exact⟨_,cJ.refl,rfl,rfl⟩
theorem KK {G:cK}{H:cG}{s:SV}{xs:List Nat} [Tab H 27 lg] [Sl H s eB xs] (hn:xs.length≤1000000000000) (hb:∀x∈xs,x<256):SC G Tryz.prog 208 [s.val] H (fun v H'=> v= .int .u32 ((rR xs:Nat):Int)∧H'=H):=by
 refine sWk Tryz.func208 Tryz.ntmps208 ?_
 refine go ?_
 refine d2_ rfl (K0 hn hb) (k:=gk (k:=rt_ Tryz.results208 (k:=?_)))
 exact⟨_,hsb,rfl,rfl⟩
theorem ic:∀n,∀x∈uv n,x<256:=by
 intro n
 induction n using Nat.strongRecOn with
 |_ n ih=>
  intro x hx
  by_cases h:n<128
  ·rw[lE h]at hx;simp at hx;omega
  ·rw[qE h]at hx
   rcases List.mem_cons.1 hx with rfl|hx
   ·omega
   ·exact ih (n / 128) (aa) x hx
theorem Ej (n:Nat):∀x∈w32 n,x<256:=by
 intro x hx
 simp only[w32,List.mem_cons,List.not_mem_nil,or_false]at hx
 omega
theorem I2 {l:List Nat}(hb:∀x∈l,x<256):rR l<4294967296:=sM (ag) (sH (ag) l _ (ag) hb)
theorem Fq {l:List Nat}(hb:∀x∈l,x<256):tq l<4294967296:=sM (ag) (sH (ag) l _ (ag) hb)
def jZ (tag:Nat) (body:List Nat):List Nat:= [tag]++uv body.length++body
def iG (tag:Nat) (body:List Nat):List Nat:=jZ tag body++w32 (rR (jZ tag body))
def dW (bl:List (Nat×List Nat)):List Nat:=bl.flatMap fun q=> iG q.1 q.2
def lT (kind:Nat) (bl:List (Nat×List Nat)):List Nat:= [99,110,99,100]++ [kind]++uv bl.length++dW bl
def kT (kind:Nat) (bl:List (Nat×List Nat)):List Nat:=lT kind bl++w32 (tq (lT kind bl))
theorem wX {tag:Nat}{body:List Nat}(ht:tag<256) (hb:∀x∈body,x<256):∀x∈jZ tag body,x<256:=by
 intro x hx
 simp only[jZ,List.mem_append,List.mem_singleton]at hx
 rcases hx with(rfl|hx)|hx
 ·exact ht
 ·exact ic _ x hx
 ·exact hb x hx
theorem Kh {tag:Nat}{body:List Nat}(ht:tag<256) (hb:∀x∈body,x<256):∀x∈iG tag body,x<256:=by
 intro x hx
 rcases List.mem_append.1 hx with hx|hx
 ·exact wX ht hb x hx
 ·exact Ej _ x hx
theorem DJ {bl:List (Nat×List Nat)}(h:∀q∈bl,q.1<256∧∀x∈q.2,x<256):∀x∈dW bl,x<256:=by
 intro x hx
 obtain⟨q,hq,hx⟩:=List.mem_flatMap.1 hx
 exact Kh (h q hq).1 (h q hq).2 x hx
theorem wI {kind:Nat}{bl:List (Nat×List Nat)}(hk:kind<256) (h:∀q∈bl,q.1<256∧∀x∈q.2,x<256):∀x∈lT kind bl,x<256:=by
 intro x hx
 simp only[lT,List.mem_append,List.mem_cons,List.not_mem_nil,or_false]at hx
 rcases hx with((hx|rfl)|hx)|hx
 ·omega
 ·exact hk
 ·exact ic _ x hx
 ·exact DJ h x hx
def eK:Enc (Nat×SV):=⟨fun p=> [.int .u8 ((p.1:Nat):Int),p.2.val],2,true,fun _=> rfl,fun p v h=> by simp at h;rcases h with rfl|rfl <;> rfl,ag,fun h=> aG,ag⟩
instance {p:Nat×SV}:jG eK p (.agg [.int .u8 ((p.1:Nat):Int),p.2.val].toArray):=⟨rfl⟩
instance {v:Value}{n:Nat}{s:SV} [h:fK eB v n]:fK eK (.agg [v,s.val].toArray) (n,s):=⟨by have:=h.out;subst this;rfl⟩
def oH (H:cG) (l:List (Nat×SV)) (bl:List (Nat×List Nat)):Prop:=l.length=bl.length∧∀(i:Nat) (p:Nat×SV) (q:Nat×List Nat),l[i]? =some p→bl[i]? =some q→p.1=q.1∧Sl H p.2 eB q.2
theorem JY {G:cK}{H:cG}{s:SV}{body:List Nat} [hg:Glb G H] [Tab H 27 lg] [Sl H s eB body] (tag:Nat) (ht0:tag≠0) (ht:tag<256) (hb:∀x∈body,x<256) (hn:body.length≤10000000000):SC G Tryz.prog 182 [.int .u8 ((tag:Nat):Int),s.val] H (fun v H'=> ∃s':SV,v= .tuple #[s'.val, .nilIface]∧H'=Row s' eB (iG tag body)::H):=by
 have hul:=fq (n:=body.length) (aa)
 have hlen:(jZ tag body).length≤100000000000:=by simp only[jZ,Ya,List.length_singleton];omega
 refine sWk Tryz.func182 Tryz.ntmps182 ?_
 refine gk (k:=wi_ (k:=fun h1=>?_) (m:=fun h1=>?_))
 ·exfalso;omega
 refine go ?_
 refine c0_ rfl (fM) (k:=?_)
 rintro _ _ ⟨b1,rfl,rfl⟩
 refine go ?_
 refine d2_ rfl (ny tag (an)) (k:=on_ (qn_ (ws_ (wr_ (e_ mv (k:=e_ mv (k:=e_ lnn (k:=?_))))))))
 refine e_ ((ae)) (k:=?_)
 refine d2_ rfl (ek body.length (aa) (an)) (k:=go ?_)
 refine d2_ rfl (zW (by simp only[Ya,Yc,List.length_singleton];omega) (aa)) (k:=go ?_)
 refine c1_ rfl (iv (xs:=jZ tag body) (aa)) (k:=?_)
 rintro _ _ ⟨s1,rfl,rfl⟩
 refine d1_ rfl (KK (xs:=jZ tag body) (aa) (wX ht hb)) (k:=?_)
 refine d2_ rfl (Bs (rR (jZ tag body)) (aa)) (k:=go ?_)
 refine c1_ rfl (iv (xs:=iG tag body) (by simp only[iG,Ya];simp only[w32,Yb,Yc];omega)) (k:=?_)
 rintro _ _ ⟨s2,rfl,rfl⟩
 refine gk (k:=rt_ Tryz.results182 (k:=?_))
 exact⟨_,hsb,s2,rfl,rfl⟩
def kg:List Nat→Nat
 |a::b::c::d::_=> a+256*b+65536*c+16777216*d
 |_=> 0
theorem Ap {v a m:Nat}(hv:v<2 ^ m):v |||(a*2 ^ m)=v+a*2 ^ m:=by
 rw[Nat.or_comm,←Nat.shiftLeft_eq,←Nat.shiftLeft_add_eq_or_of_lt hv,Nat.shiftLeft_eq];omega
theorem Jr {v a:Nat}(hv:v<256) (ha:a<256):v |||(a*2 ^ 8 % 4294967296)=v+a*256:=by
 rw[Nat.mod_eq_of_lt (aa),Ap (m:=8) (aa)]
theorem FL {v a:Nat}(hv:v<65536) (ha:a<256):v |||(a*2 ^ 16 % 4294967296)=v+a*65536:=by
 rw[Nat.mod_eq_of_lt (aa),Ap (m:=16) (aa)]
theorem FK {v a:Nat}(hv:v<16777216) (ha:a<256):v |||(a*2 ^ 24 % 4294967296)=v+a*16777216:=by
 rw[Nat.mod_eq_of_lt (aa),Ap (m:=24) (aa)]
theorem zR {l:List Nat}{a b c d:Nat}(h0:l[0]? =some a) (h1:l[1]? =some b) (h2:l[2]? =some c) (h3:l[3]? =some d):kg l=a+256*b+65536*c+16777216*d:=by
 match l,h0,h1,h2,h3 with
 |x::y::z::w::r,h0,h1,h2,h3=>
  simp at h0 h1 h2 h3
  subst h0;subst h1;subst h2;subst h3;rfl
theorem Ec {G:cK}{H:cG}{s:SV}{xs:List Nat} [Sl H s eB xs] (hn:4≤xs.length) (hb:∀x∈xs,x<256):SC G Tryz.prog 149 [s.val] H (fun v H'=> v= .int .u32 ((kg xs:Nat):Int)∧H'=H):=by
 obtain⟨a,ha⟩:∃x,xs[0]? =some x:=⟨_,Yi (aa)⟩
 obtain⟨b,hbb⟩:∃x,xs[1]? =some x:=⟨_,Yi (aa)⟩
 obtain⟨c,hc⟩:∃x,xs[2]? =some x:=⟨_,Yi (aa)⟩
 obtain⟨d,hd⟩:∃x,xs[3]? =some x:=⟨_,Yi (aa)⟩
 have ha2:=hb a (Yj ha)
 have hb2:=hb b (Yj hbb)
 have hc2:=hb c (Yj hc)
 have hd2:=hb d (Yj hd)
 refine sWk Tryz.func149 Tryz.ntmps149 ?_
 refine go ?_
 refine cX cI (as_ 0 (q:=mv) (k:=?_))
 refine cE 1 rfl rfl (a8) rfl (dz (di rfl rfl 0 rfl (aa))) (?_)
 refine cE 2 rfl rfl (a8) rfl (dz (fX rfl (bQ) (bQ) a ha)) (?_)
 refine cE 3 rfl rfl (a8) rfl (dz ((aw))) (?_)
 refine as_ 4 (q:=mv) (k:=?_)
 refine cE 5 rfl rfl (a8) rfl (dz (di rfl rfl 1 rfl (aa))) (?_)
 refine cE 6 rfl rfl (a8) rfl (dz (fX rfl (bQ) (bQ) b hbb)) (?_)
 refine cE 7 rfl rfl (a8) rfl (dz ((aw))) (?_)
 refine cE 8 rfl rfl (a8) rfl (dz (sC 4294967296 rfl rfl rfl rfl _ 8 rfl rfl)) (?_)
 refine cE 9 rfl rfl (a8) rfl (dz (iE 4294967296 rfl rfl rfl rfl _ _ rfl rfl (aj) (aj))) (?_)
 rw[Jr ha2 hb2]
 refine as_ 10 (q:=mv) (k:=?_)
 refine cE 11 rfl rfl (a8) rfl (dz (di rfl rfl 2 rfl (aa))) (?_)
 refine cE 12 rfl rfl (a8) rfl (dz (fX rfl (bQ) (bQ) c hc)) (?_)
 refine cE 13 rfl rfl (a8) rfl (dz ((aw))) (?_)
 refine cE 14 rfl rfl (a8) rfl (dz (sC 4294967296 rfl rfl rfl rfl _ 16 rfl rfl)) (?_)
 refine cE 15 rfl rfl (a8) rfl (dz (iE 4294967296 rfl rfl rfl rfl _ _ rfl rfl (aj) (aj))) (?_)
 rw[FL (aa) hc2]
 refine as_ 16 (q:=mv) (k:=?_)
 refine cE 17 rfl rfl (a8) rfl (dz (di rfl rfl 3 rfl (aa))) (?_)
 refine cE 18 rfl rfl (a8) rfl (dz (fX rfl (bQ) (bQ) d hd)) (?_)
 refine cE 19 rfl rfl (a8) rfl (dz ((aw))) (?_)
 refine cE 20 rfl rfl (a8) rfl (dz (sC 4294967296 rfl rfl rfl rfl _ 24 rfl rfl)) (?_)
 refine cE 21 rfl rfl (a8) rfl (dz (iE 4294967296 rfl rfl rfl rfl _ _ rfl rfl (aj) (aj))) (?_)
 rw[FK (aa) hd2]
 refine as_ 22 (q:=asn) (k:=az_ (k:=gk (k:=rt_ Tryz.results149 (k:=?_))))
 exact⟨_,cJ.refl,by rw[zR ha hbb hc hd,show a+256*b+65536*c+16777216*d=a+b*256+c*65536+d*16777216 from aa];all_goals rfl,rfl⟩
def kx (l:List Nat):Option (Nat×Nat):=
 match l with
 | []=> none
 |tag::_=> if tag=0 then none else
  match gP 0 ((l.take (min l.length 11)).drop 1)with
  | .error _=> none
  | .ok (n,m)=> if l.length - (1+m)<4∨l.length - (1+m) - 4<n then none else
   if kg (l.drop (1+m+n))=rR (l.take (1+m+n))then some (1+m,1+m+n)else none
theorem OZ {G:cK}{H:cG}{s:SV}{xs:List Nat} [hg:Glb G H] [Tab H 27 lg] [Sl H s eB xs] (hn:xs.length≤1000000000000) (hb:∀x∈xs,x<256):SC G Tryz.prog 184 [s.val] H (fun v H'=>
 (kx xs=none∧H'=H∧∃e,v= .tuple #[.int .i64 0, .int .i64 0, .int .i64 0,G.err e])∨(∃f t,kx xs=some (f,t)∧f≤t∧t+4≤xs.length∧H'=H∧v= .tuple #[.int .i64 ((f:Nat):Int), .int .i64 ((t:Nat):Int), .int .i64 ((t+4:Nat):Int), .nilIface])):=by
 refine sWk Tryz.func184 Tryz.ntmps184 ?_
 refine go ?_
 refine gk (k:=wi_ (k:=fun h1=>?_) (m:=fun h1=>?_))
 ·obtain rfl:xs= []:=List.length_eq_zero_iff.1 (aa)
  refine go ?_
  refine cX cI (as_ 0 (q:=ldv) (k:=as_ 1 (q:=asn) (k:=as_ 2 (q:=asn) (k:=as_ 3 (q:=asn) (k:=as_ 4 (q:=asn) (k:=az_ (k:=gk (k:=rt_ Tryz.results184 (k:=?_)))))))))
  exact⟨_,hsb, .inl ⟨rfl,rfl,_,rfl⟩⟩
 obtain⟨x,r,hx⟩:∃x r,xs=x::r:=by
  cases xs with
  |nil=> simp at h1
  |cons x r=> exact⟨x,r,rfl⟩
 have hx0:xs[0]? =some x:=by rw[hx];all_goals rfl
 have hxb:=hb x (Yj hx0)
 refine wk_ (qn_ (ws_ (ws_ (wr_ (e_ mv (k:=?_))))))
 refine e_ (di rfl rfl 0 rfl (aa)) (k:=?_)
 refine e_ (fX rfl (bQ) (bQ) x hx0) (k:=?_)
 refine gk (k:=wi_ (k:=fun h2=>?_) (m:=fun h2=>?_))
 ·obtain rfl:x=0:=by omega
  have e:kx xs=none:=by rw[hx,kx,if_pos rfl]
  refine go ?_
  refine cX cI (as_ 0 (q:=ldv) (k:=as_ 1 (q:=asn) (k:=as_ 2 (q:=asn) (k:=as_ 3 (q:=asn) (k:=as_ 4 (q:=asn) (k:=az_ (k:=gk (k:=rt_ Tryz.results184 (k:=?_)))))))))
  exact⟨_,hsb, .inl ⟨e,rfl,_,rfl⟩⟩
 have hx0:¬x=0:=aa
 refine wk_ (qn_ (ws_ (wr_ (e_ mv (k:=e_ mv (k:=e_ lnn (k:=?_)))))))
 refine e_ (mN rfl rfl) (k:=?_)
 refine kW H rfl (1) (min xs.length 11) ⟨_,_,rfl,(aN)⟩ ⟨_,_,rfl,(aN)⟩ (aa) (aP) rfl (fun s1 i1=>?_)
 refine c1_ rfl (iS (bB)) (k:=?_)
 rintro _ _ ⟨b1,rfl,rfl⟩
 refine go ?_
 refine c1_ rfl (lN (Yl _) (bB) (fun y hy=> hb y (Yq (Yp hy)))) (k:=?_)
 rintro v1 H1 hK
 rw[List.drop_zero]at hK
 rcases hK with⟨e,he,rfl,rfl⟩|⟨n,m,he,rfl,rfl⟩
 ·have e2:kx xs=none:=by rw[hx,kx,if_neg hx0,←hx,he]
  refine e_ mv (k:=e_ exr (k:=e_ exr (k:=e_ asn (k:=e_ asn (k:=on_ (qn_ (ws_ (ws_ (wr_ (e_ mv (k:=?_)))))))))))
  refine e_ (cZ rfl) (k:=?_)
  refine gk (k:=ift (k:=go ?_))
  refine rt_ Tryz.results184 (k:=?_)
  exact⟨_,hsb, .inl ⟨e2,rfl,_,rfl⟩⟩
 obtain⟨p1,p2,p3,p4,p5,p6⟩:=j5 _ 0 n m (fun y hy=> hb y (Yq (Yp hy))) (aa) he
 rw[Yo,Yg]at p4
 have e2:kx xs=if xs.length - (1+m)<4∨xs.length - (1+m) - 4<n then none else if kg (xs.drop (1+m+n))=rR (xs.take (1+m+n))then some (1+m,1+m+n)else none:=by rw[hx,kx,if_neg hx0,←hx,he]
 refine e_ mv (k:=e_ exr (k:=e_ exr (k:=e_ asn (k:=e_ asn (k:=on_ (qn_ (ws_ (ws_ (wr_ (e_ mv (k:=?_)))))))))))
 refine e_ (cM rfl) (k:=?_)
 refine gk (k:=eg (k:=go ?_))
 refine d1_ rfl (tl) (k:=?_)
 refine e_ (sE rfl rfl (((1+m:Nat)):Int) (by rw[IntKind.wrap_i64];omega)) (k:=?_)
 refine e_ asn (k:=on_ (qn_ (ws_ (ws_ (wr_ (e_ mv (k:=e_ lnn (k:=e_ mv (k:=e_ isb (k:=e_ asn (k:=on_ (qn_ (ws_ (?_))))))))))))))
 refine wr_ (e_ mv (k:=e_ ilt (k:=sp_ (mv) (k:=fun h3=>?_) (m:=fun h3=>?_))))
 ·refine gk (k:=ift (k:=go ?_))
  refine cX cI (as_ 0 (q:=ldv) (k:=as_ 1 (q:=asn) (k:=as_ 2 (q:=asn) (k:=as_ 3 (q:=asn) (k:=as_ 4 (q:=asn) (k:=az_ (k:=gk (k:=rt_ Tryz.results184 (k:=?_)))))))))
  exact⟨_,hsb, .inl ⟨by rw[e2,if_pos (aa)],rfl,_,rfl⟩⟩
 refine eg_ mv (k:=eg_ mv (k:=eg_ isb (k:=?_)))
 refine eg_ (cU 18446744073709551616 rfl rfl rfl (xs.length - (1+m) - 4) (aa) (aa)) (k:=?_)
 refine gk (k:=wi_ (k:=fun h4=>?_) (m:=fun h4=>?_))
 ·refine go ?_
  refine cX cI (as_ 0 (q:=ldv) (k:=as_ 1 (q:=asn) (k:=as_ 2 (q:=asn) (k:=as_ 3 (q:=asn) (k:=as_ 4 (q:=asn) (k:=az_ (k:=gk (k:=rt_ Tryz.results184 (k:=?_)))))))))
  exact⟨_,hsb, .inl ⟨by rw[e2,if_pos (aa)],rfl,_,rfl⟩⟩
 refine wk_ (qn_ (ws_ (wr_ (?_))))
 rw[if_neg (aa)]at e2
 refine e_ mv (k:=e_ mv (k:=?_))
 refine e_ (dy rfl (aa)) (k:=?_)
 refine e_ (sE rfl rfl (((1+m+n:Nat)):Int) (by rw[IntKind.wrap_i64];omega)) (k:=?_)
 refine go ?_
 refine cX cI (?_)
 have hc1:Sl H (s.cut 1 (1+m+n) xs.length) eB ((xs.take xs.length).drop (1+m+n)):=Sl.cut (e:=eB) inferInstance (aa) (aa)
 rw[List.take_length]at hc1
 have hc2:Sl H (s.cut 1 0 (1+m+n)) eB ((xs.take (1+m+n)).drop 0):=Sl.cut (e:=eB) inferInstance (aa) (aa)
 rw[List.drop_zero]at hc2
 refine as_ 0 (q:=mv) (k:=as_ 1 (q:=mv) (k:=?_))
 refine cE 2 rfl rfl (a8) rfl (dz (eL rfl (bQ) (1+m+n) xs.length ⟨_,_,rfl,rfl⟩ rfl (aa) (aa))) (?_)
 refine cE 3 rfl rfl (a8) rfl (gQ (vs:= [_]) rfl (Ec (aK) (fun y hy=> hb y (Yp hy)))) (?_)
 refine as_ 4 (q:=mv) (k:=as_ 5 (q:=mv) (k:=?_))
 refine cE 6 rfl rfl (a8) rfl (dz (eL rfl (bQ) 0 (1+m+n) rfl ⟨_,_,rfl,rfl⟩ (aa) (aa))) (?_)
 refine cE 7 rfl rfl (a8) rfl (gQ (vs:= [_]) rfl (KK (aA) (fun y hy=> hb y (Yq hy)))) (?_)
 refine as_ 8 (q:=ine) (k:=az_ (k:=gk (k:=wi_ (k:=fun h5=>?_) (m:=fun h5=>?_))))
 ·rw[if_neg (aa)]at e2
  refine go ?_
  refine cX cI (as_ 0 (q:=ldv) (k:=as_ 1 (q:=asn) (k:=as_ 2 (q:=asn) (k:=as_ 3 (q:=asn) (k:=as_ 4 (q:=asn) (k:=az_ (k:=gk (k:=rt_ Tryz.results184 (k:=?_)))))))))
  exact⟨_,hsb, .inl ⟨e2,rfl,_,rfl⟩⟩
 rw[if_pos (aa)]at e2
 refine go ?_
 refine gk (k:=rt_ Tryz.results184 (k:=?_))
 exact⟨_,hsb, .inr ⟨_,_,e2,aa,aa,rfl,rfl⟩⟩
theorem JZ {G:cK}{H:cG}{s:SV}{xs:List Nat} [hg:Glb G H] [Tab H 27 lg] [hs:Sl H s eB xs] (hn:xs.length≤1000000000000) (hb:∀x∈xs,x<256):SC G Tryz.prog 152 [s.val] H (fun v H'=>
 (kx xs=none∧H'=H∧∃e,v= .tuple #[.agg [.int .u8 0, .slice none 0 0].toArray, .int .i64 0,G.err e])∨(∃f t x,∃s':SV,kx xs=some (f,t)∧f≤t∧t+4≤xs.length∧xs[0]? =some x∧v= .tuple #[.agg [.int .u8 ((x:Nat):Int),s'.val].toArray, .int .i64 ((t+4:Nat):Int), .nilIface]∧H'=Row s' eB ((xs.take t).drop f)::H)):=by
 refine sWk Tryz.func152 Tryz.ntmps152 ?_
 refine gk (k:=alc (k:=fun b1=>?_))
 refine go ?_
 refine c1_ rfl (OZ hn hb) (k:=?_)
 rintro v1 H1 hK
 rcases hK with⟨he,rfl,e,rfl⟩|⟨f,q,he,hft,htl,rfl,rfl⟩
 ·refine e_ mv (k:=e_ exr (k:=e_ exr (k:=e_ exr (k:=e_ exr (k:=e_ asn (k:=e_ asn (k:=e_ asn (k:=e_ asn (k:=on_ (qn_ (ws_ (ws_ (wr_ (?_))))))))))))))
  refine e_ mv (k:=?_)
  refine e_ (cZ rfl) (k:=?_)
  refine gk (k:=ift (k:=ws_ (wr_ (e_ (bld []) (k:=go ?_)))))
  refine rt_ Tryz.results152 (k:=?_)
  exact⟨_,hsb, .inl ⟨he,rfl,e,rfl⟩⟩
 obtain⟨x,hx⟩:∃x,xs[0]? =some x:=⟨_,Yi (aa)⟩
 have hc:Sl H (s.cut 1 f q) eB ((xs.take q).drop f):=Sl.cut (e:=eB) hs (aa) (aa)
 refine e_ mv (k:=e_ exr (k:=e_ exr (k:=e_ exr (k:=e_ exr (k:=e_ asn (k:=e_ asn (k:=e_ asn (k:=e_ asn (k:=on_ (qn_ (ws_ (ws_ (wr_ (?_))))))))))))))
 refine e_ mv (k:=?_)
 refine e_ (cM rfl) (k:=?_)
 refine gk (k:=eg (k:=go ?_))
 refine df cI (fun i=> [7,8,11].contains i) (fun k H=> (k=1→Sl H s eB xs)∧(k=2→Sl H s eB xs)∧(k=6→Sl H s eB xs)) (af_ 0 (q:=cD fun H hH=>mv) (k:=?_))
 refine cE 1 rfl rfl (a8) rfl (cD fun H hH=>by have hN:=hH.1 rfl;exact di rfl rfl 0 rfl (aa)) (?_)
 refine cE 2 rfl rfl (a8) rfl (cD fun H hH=>by have hN:=hH.2.1 rfl;exact fX rfl (bQ) (bQ) x hx) (?_)
 refine af_ 3 (q:=cD fun H hH=>mv) (k:=af_ 4 (q:=cD fun H hH=>mv) (k:=af_ 5 (q:=cD fun H hH=>mv) (k:=?_)))
 refine cE 6 rfl rfl (a8) rfl (cD fun H hH=>by have hN:=hH.2.2 rfl;exact eL rfl (bQ) f q ⟨_,_,rfl,rfl⟩ ⟨_,_,rfl,rfl⟩ (aa) (aa)) (?_)
 refine af_ 10 (q:=cD fun H hH=>mv) (k:=?_)
 refine cN 7 rfl (a8) rfl (fun k hk=> ⟨fun hi=> ab,fun hi=> ab,fun hi=> ab⟩) (ew eSV rfl rfl) ?_
 rintro _ _ ⟨s1,rfl,rfl⟩
 refine cN 8 rfl (a8) rfl (fun k hk=> ⟨fun hi=> ab,fun hi=> ab,fun hi=> absurd hk (ad)⟩) (cW (vs:= [_]) rfl (sI (s:=s.cut 1 f q) (bB))) ?_
 rintro _ _ ⟨s2,rfl,rfl⟩
 refine af_ 9 (q:=cD fun H hH=>bld [(0,_),(1,_)]) (k:=?_)
 refine cN 11 rfl (a8) rfl (fun k hk=> ⟨fun hi=> ab,fun hi=> ab,fun hi=> absurd hk (ad)⟩) (dM rfl rfl rfl) ?_
 rintro _ _ ⟨rfl,rfl⟩
 refine af_ 12 (q:=cD fun H hH=>asn) (k:=af_ 13 (q:=cD fun H hH=>asn) (k:=db (a8) (fun k hk=> ⟨fun hi=> absurd hk (ad),fun hi=> absurd hk (ad),fun hi=> absurd hk (ad)⟩) (gk (k:=rt_ Tryz.results152 (k:=?_)))))
 exact⟨_,hsb, .inr ⟨f,q,x,s2,he,hft,htl,hx,rfl,rfl⟩⟩
end Go.Sx
