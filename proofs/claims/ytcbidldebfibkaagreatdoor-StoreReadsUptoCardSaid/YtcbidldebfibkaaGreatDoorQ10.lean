import Derived.Test.YtcbidldebfibkaaGreatDoorQ9
set_option linter.unusedVariables false
set_option linter.unusedSimpArgs false
set_option linter.unusedSectionVars false
set_option linter.unnecessarySimpa false
set_option maxHeartbeats 0
namespace Go.Sx
open Go Go.Proofs
set_option maxRecDepth 100000
theorem x6 {G:cM}{H:cG}{s p:SV}{xs:List Nat} [Sl H s eB xs] [Sl H p eSV [s]] (hn:xs.length≤1000000000000):SC G Tryz.prog 74 [p.val] H (fun v H'=> ∃s':SV,v=s'.val∧H'=Row s' eB xs::H):=by
 refine sWk Tryz.func74 Tryz.ntmps74 ?_
 refine go ?_
 refine gk (k:=wl_ (Nat×Nat) (fun y=> y.1≤1∧y.2=y.1*xs.length) (fun y=> [(0,p.val),(3, .int .i64 ((y.2:Nat):Int)),(10,p.val),(11, .int .i64 1),(12, .int .i64 ((y.1:Nat):Int))]) (fun _=> H) (fun y=> 1 - y.1) ((0,0)) (h0:=?_) (k:=?_))
 ·try dsimp only
  exact⟨a8,aj⟩
 rintro⟨i,n⟩ ⟨hi,hn'⟩
 try dsimp only at*
 refine gk (k:=wi_ (k:=fun h1=>?_) (m:=fun h1=>?_))
 ·obtain rfl:i=0:=by omega
  obtain rfl:n=0:=a8
  refine wk_ (qn_ (ws_ (wb_ (ws_ (wr_ (?_))))))
  refine e_ (cO rfl rfl 0 rfl (aj)) (k:=?_)
  refine go ?_
  refine go ?_
  refine ln_ ((1,0+xs.length)) (k:=?_)
  try dsimp only
  exact⟨a8,a8⟩
 obtain rfl:i=1:=a8
 obtain rfl:n=xs.length:=a8
 refine go ?_
 refine s_ (gD eB 0 rfl rfl _ _ rfl rfl rfl (a8) (a8) (a8)) (k:=?_)
 rintro _ _ ⟨s1,rfl,hs1n,hs1c,rfl⟩
 refine go ?_
 refine gk (k:=wl_ (Nat×Nat×List Nat) (fun y=> y.1≤1∧y.2.1=y.1*xs.length∧y.2.2=if y.1=0 then List.replicate xs.length 0 else xs) (fun y=> [(6,s1.val),(7, .int .i64 ((y.2.1:Nat):Int)),(23,p.val),(24, .int .i64 1),(25, .int .i64 ((y.1:Nat):Int))]) (fun y=> Row s1 eB y.2.2::H) (fun y=> 1 - y.1) ((0,0,List.replicate xs.length 0)) (h0:=?_) (k:=?_))
 ·try dsimp only
  exact⟨a8,aj,rfl⟩
 rintro⟨i,n,zs⟩ ⟨hi,hn',hz⟩
 try dsimp only at*
 refine gk (k:=wi_ (k:=fun h2=>?_) (m:=fun h2=>?_))
 ·obtain rfl:i=0:=by omega
  obtain rfl:n=0:=a8
  obtain rfl:zs=List.replicate xs.length 0:=hz
  refine wk_ (qn_ (ws_ (wb_ (ws_ (wr_ (?_))))))
  refine e_ (cO rfl rfl 0 rfl (aj)) (k:=?_)
  refine e_ lel (k:=e_ asn (k:=on_ (qn_ (wr_ (e_ mv (k:=e_ mv (k:=e_ mv (k:=?_))))))))
  refine e_ (ef rfl (aI) 0 xs.length ⟨_,_,rfl,rfl⟩ (aj) (a8) (aj)) (k:=?_)
  refine go ?_
  refine s_ (AY (a:=0) (b:=xs.length) rfl rfl (aI) (a8) (aj) xs.length (aj)) (k:=?_)
  rintro _ _ ⟨rfl,rfl⟩
  refine go ?_
  refine ln_ ((1,0+xs.length,xs)) (h4:=?_) (k:=?_)
  ·try dsimp only
   have e:List.take 0 (List.replicate xs.length 0)++List.take xs.length xs++List.drop (0+xs.length) (List.replicate xs.length 0)=xs:=aj
   rw[e]
   exact hsb
  try dsimp only
  exact⟨a8,a8,rfl⟩
 obtain rfl:i=1:=a8
 obtain rfl:zs=xs:=hz
 refine gk (k:=rt_ Tryz.results74 (k:=?_))
 exact⟨_,hsb,s1,rfl,rfl⟩
theorem iB {G:cM}{H R:cG}{b:Nat}{xs:List Nat} [hr:Rem H Wr b xs R] (hn:xs.length≤1000000000000):SC G Tryz.prog 38 [.pointer (some ⟨b,0,none⟩)] H (fun v H'=> ∃s':SV,v=s'.val∧H'=Row s' eB xs::Wr b xs::R):=by
 refine tD hr fun s=> ?_
 refine sWk Tryz.func38 Tryz.ntmps38 ?_
 refine gk (k:=dD eSV (k:=fun s1=>?_))
 refine c1_ rfl (x6 hn) (k:=?_)
 rintro _ _ ⟨s2,rfl,rfl⟩
 refine gk (k:=rt_ Tryz.results38 (k:=?_))
 exact⟨_,hsb,s2,rfl,rfl⟩
theorem jo {G:cM}{H:cG}{s:SV}{xs:List Nat} [Sl H s eB xs] (hn:xs.length≤1000000000000):SC G Tryz.prog 45 [s.val] H (fun v H'=> ∃b,v= .pointer (some ⟨b,0,none⟩)∧H'=Rd b (xs,0)::H):=by
 refine sWk Tryz.func45 Tryz.ntmps45 ?_
 refine ws_ (wr_ (e_ asn (k:=on_ (qn_ (ws_ (wr_ (e_ mv (k:=e_ lnn (k:=e_ (bld [(1,_)]) (k:=gk (k:=dD eSV (k:=fun s1=>?_))))))))))))
 refine c1_ rfl (x6 hn) (k:=?_)
 rintro _ _ ⟨s2,rfl,rfl⟩
 refine e_ (bld [(0,_),(1,_)]) (k:=bxx (k:=fun b1=>?_))
 refine gk (k:=rt_ Tryz.results45 (k:=?_))
 exact⟨_,hsb,_,rfl,rfl⟩
def w32 (x:Nat):List Nat:= [x % 256,x / 256 % 256,x / 65536 % 256,x / 16777216 % 256]
theorem GH (x i:Nat) (hi:i<4):(w32 x)[i]? =some (x / 2 ^ (8*i) % 256):=by
 match i,hi with
 | 0,_=> simp[w32]
 | 1,_=> simp[w32]
 | 2,_=> simp[w32]
 | 3,_=> simp[w32]
theorem cP {α:Type}{l:List α}{i:Nat}{x:α}(h:l[i]? =some x):l.take (i+1)=l.take i++ [x]:=by
 rw[List.take_add_one,h];rfl
theorem AM {G:cM}{H R:cG}{b:Nat}{xs:List Nat} [hr:Rem H Wr b xs R] (x:Nat) (hn:xs.length≤1000000000000):SC G Tryz.prog 78 [.pointer (some ⟨b,0,none⟩), .int .u32 (x:Int)] H (fun v H'=> v= .tuple #[]∧H'=Wr b (xs++w32 x)::R):=by
 refine tD hr fun s=> ?_
 refine sWk Tryz.func78 Tryz.ntmps78 ?_
 refine gk (k:=wl_ (SV×Nat×List Nat) (fun y=> y.2.2=xs++(w32 x).take y.2.1∧y.2.1≤4) (fun y=> [(0, .pointer (some ⟨b,0,none⟩)),(1, .int .u32 (x:Int)),(5, .int .i64 ((y.2.1:Nat):Int))]) (fun y=> Vr b [y.1.val]::Row y.1 eB y.2.2::R) (fun y=> 4 - y.2.1) ((s,0,xs)) (h0:=?_) (k:=?_))
 ·try dsimp only
  exact⟨aj,Yl _⟩
 rintro⟨s,i,zs⟩ ⟨hI,hi⟩
 try dsimp only at*
 have hlen:=congrArg List.length hI
 simp only[Ya,Yg]at hlen
 refine gk (k:=wi_ (k:=fun h1=>?_) (m:=fun h1=>?_))
 ·refine go ?_
  refine di cL (fun i=> [10,11,14].contains i) (fun k H=> (k=4→dh H b [s.val])) (af_ 0 (q:=cE fun H hH=>mv) (k:=af_ 1 (q:=cE fun H hH=>mv) (k:=af_ 2 (q:=cE fun H hH=>nck) (k:=af_ 3 (q:=cE fun H hH=>fla) (k:=?_)))))
  refine cH 4 rfl rfl (aa) rfl (cE fun H hH=>aq) (?_)
  refine af_ 5 (q:=cE fun H hH=>mv) (k:=af_ 6 (q:=cE fun H hH=>mv) (k:=af_ 7 (q:=cE fun H hH=>iml) (k:=?_)))
  refine cH 8 rfl rfl (aa) rfl (cE fun H hH=>ei rfl rfl x (8*i) rfl (a8) (by show 8*i≤32;omega)) (?_)
  refine cH 9 rfl rfl (aa) rfl (cE fun H hH=>(ao)) (?_)
  refine cQ 10 rfl (aa) rfl (fun k hk=> fun hi=> ab) (dW eB rfl rfl) ?_
  rintro _ _ ⟨s1,rfl,rfl⟩
  refine cQ 11 rfl (aa) rfl (fun k hk=> fun hi=> ab) (ek rfl rfl rfl rfl (af) (af)) ?_
  rintro _ _ ⟨s2,rfl,rfl⟩
  refine af_ 12 (q:=cE fun H hH=>nck) (k:=af_ 13 (q:=cE fun H hH=>fla) (k:=?_))
  refine cQ 14 rfl (aa) rfl (fun k hk=> fun hi=> absurd hk (ad)) (dk rfl rfl rfl) ?_
  rintro _ _ ⟨rfl,rfl⟩
  refine db (aa) (fun k hk=> fun hi=> absurd hk (ad)) (go ?_)
  refine ln_ ((s2,i+1,zs++ [x / 2 ^ (8*i) % 256])) (k:=?_)
  try dsimp only
  refine⟨?_,a8⟩
  rw[hI,cP (GH x i (a8)),Yf]
 obtain rfl:i=4:=a8
 have e:zs=xs++w32 x:=hI
 refine gk (k:=rt_ Tryz.results78 (k:=?_))
 exact⟨_,cv,rfl,rfl⟩
theorem Dh {G:cM}{H R:cG}{b:Nat}{xs:List Nat} [hr:Rem H Wr b xs R] (q:ByteArray) (hn:xs.length≤100000000000) (hq:q.size≤100000000000):SC G Tryz.prog 72 [.pointer (some ⟨b,0,none⟩), .string q] H (fun v H'=> v= .tuple #[]∧H'=Wr b (xs++(uv q.size++cF q))::R):=by
 have hl:=dc (n:=q.size) (a8)
 refine SC.rem (h:=hr) ?_
 refine sWk Tryz.func72 Tryz.ntmps72 ?_
 refine ws_ (wr_ (e_ mv (k:=e_ mv (k:=e_ jA (k:=?_)))))
 refine e_ ((ae)) (k:=?_)
 refine d2_ rfl (eC q.size (a8) (a8)) (k:=?_)
 refine EK b fun s=> ?_
 refine go ?_
 refine s_ (m7 rfl rfl rfl (af) (af)) (k:=?_)
 rintro _ _ ⟨s1,rfl,rfl⟩
 refine gk (k:=rt_ Tryz.results72 (k:=?_))
 exact⟨_,by rw[Yf];exact hsb,rfl,rfl⟩
def bs (p r:Nat):Nat:=if r % 2=1 then(r / 2) ^^^ p else r / 2
def bs4 (p r:Nat):Nat:=bs p (bs p (bs p (bs p r)))
def yS (p r x:Nat):Nat:=bs4 p (bs4 p (r ^^^ x))
def uL (p r:Nat) (l:List Nat):Nat:=l.foldl (yS p) r
def oN:Nat:=3988292384
def lO:Nat:=2197175160
def mN (l:List Nat):Nat:=4294967295 ^^^ uL oN 4294967295 l
def lN (l:List Nat):Nat:=4294967295 ^^^ uL lO 4294967295 l
theorem Lp (p a b:Nat):bs p (a ^^^ b)=bs p a ^^^ bs p b:=by
 have h1:(a ^^^ b) / 2=a / 2 ^^^ b / 2:=Nat.xor_div_two_pow (n:=1)
 have h2:(a ^^^ b) % 2=(a % 2) ^^^ (b % 2):=Nat.xor_mod_two_pow (n:=1)
 unfold bs
 rw[h1,h2]
 rcases Nat.mod_two_eq_zero_or_one a with ha|ha <;> rcases Nat.mod_two_eq_zero_or_one b with hb|hb <;> rw[ha,hb]
 ·simp
 ·simp[Nat.xor_assoc]
 ·simp only[Nat.xor_zero,↓reduceIte,Nat.zero_ne_one]
  rw[Nat.xor_assoc,Nat.xor_comm (b / 2) p,←Nat.xor_assoc]
 ·simp only[Nat.xor_self,Nat.zero_ne_one,↓reduceIte]
  rw[Nat.xor_assoc,←Nat.xor_assoc p,Nat.xor_comm p,Nat.xor_assoc (b / 2),Nat.xor_self,Nat.xor_zero]
theorem IW (p a b:Nat):bs4 p (a ^^^ b)=bs4 p a ^^^ bs4 p b:=by simp only[bs4,Lp]
theorem tf (p q:Nat):bs p (2*q)=q:=by unfold bs;rw[if_neg (a8)];omega
theorem Lr (p q:Nat):bs4 p (16*q)=q:=by
 unfold bs4
 rw[show 16*q=2*(2*(2*(2*q)))from a8,tf,tf,tf,tf]
theorem Hh (r:Nat):r=(16*(r / 16)) ^^^ (r % 16):=by
 have h:(r / 16) <<< 4+r % 16=(r / 16) <<< 4 |||r % 16:=Nat.shiftLeft_add_eq_or_of_lt (Nat.mod_lt r (ag)) _
 have h2:(r / 16) <<< 4=16*(r / 16):=by rw[Nat.shiftLeft_eq];omega
 rw[h2]at h
 have h3:16*(r / 16)+r % 16=r:=Nat.div_add_mod r 16
 have h4:(16*(r / 16)) ^^^ (r % 16)=(16*(r / 16)) |||(r % 16):=by
  apply Nat.eq_of_testBit_eq
  intro i
  rw[Nat.testBit_xor,Nat.testBit_or,show 16*(r / 16)=2 ^ 4*(r / 16)from rfl,show r % 16=r % 2 ^ 4 from rfl,Nat.testBit_two_pow_mul,Nat.testBit_mod_two_pow]
  by_cases hi:i<4
  ·simp[hi,show ¬(4≤i)from a8]
  ·simp[hi]
 rw[h4,←h,h3]
theorem nib (p r:Nat):(r / 2 ^ 4) ^^^ bs4 p (r % 16)=bs4 p r:=by
 conv=> rhs;rw[Hh r]
 rw[IW,Lr]
theorem w3 {p r:Nat}(hp:p<4294967296) (hr:r<4294967296):bs p r<4294967296:=by
 unfold bs
 split
 ·exact Nat.xor_lt_two_pow (n:=32) (a8) hp
 ·omega
theorem mb {p r:Nat}(hp:p<4294967296) (hr:r<4294967296):bs4 p r<4294967296:=w3 hp (w3 hp (w3 hp (w3 hp hr)))
theorem qR {a b:Nat}(ha:a<4294967296) (hb:b<4294967296):a ^^^ b<4294967296:=Nat.xor_lt_two_pow (n:=32) ha hb
theorem BF {p r x:Nat}(hp:p<4294967296) (hr:r<4294967296) (hx:x<256):yS p r x<4294967296:=mb hp (mb hp (qR hr (a8)))
theorem oH {p:Nat}(hp:p<4294967296):∀(l:List Nat) (r:Nat),r<4294967296→(∀x∈l,x<256)→uL p r l<4294967296
 | [],r,hr,_=> hr
 |x::l,r,hr,hb=> oH hp l (yS p r x) (BF hp hr (hb x (aj))) (fun y hy=> hb y (by simp[hy]))
theorem rF (p r:Nat) (l:List Nat) (x:Nat):uL p r (l++ [x])=yS p (uL p r l) x:=by simp[uL]
theorem w6 (r:Nat):r &&& 15=r % 16:=Nat.and_two_pow_sub_one_eq_mod r 4
theorem NM (r:Nat):r &&& 1=r % 2:=Nat.and_two_pow_sub_one_eq_mod r 1
def ig:List Nat:= [0,0x1db71064,0x3b6e20c8,0x26d930ac,0x76dc4190,0x6b6b51f4,0x4db26158,0x5005713c,0xedb88320,0xf00f9344,0xd6d6a3e8,0xcb61b38c,0x9b64c2b0,0x86d3d2d4,0xa00ae278,0xbdbdf21c]
def fF:List Nat:= [0,0x105ec76f,0x20bd8ede,0x30e349b1,0x417b1dbc,0x5125dad3,0x61c69362,0x7198540d,0x82f63b78,0x92a8fc17,0xa24bb5a6,0xb21572c9,0xc38d26c4,0xd3d3e1ab,0xe330a81a,0xf36e6f75]
theorem GC:∀i:Fin 16,ig[i.val]? =some (bs4 oN i.val):=an
theorem DO:∀i:Fin 16,fF[i.val]? =some (bs4 lO i.val):=an
theorem AG (r:Nat):(ig.map fun n=> Value.int .u32 ((n:Nat):Int))[0+(r &&& 15)*1]? =some (.int .u32 ((bs4 oN (r % 16):Nat):Int)):=by
 rw[Nat.zero_add,Nat.mul_one,w6,Xd,GC ⟨r % 16,a8⟩];rfl
theorem xR (r:Nat):(fF.map fun n=> Value.int .u32 ((n:Nat):Int))[0+(r &&& 15)*1]? =some (.int .u32 ((bs4 lO (r % 16):Nat):Int)):=by
 rw[Nat.zero_add,Nat.mul_one,w6,Xd,DO ⟨r % 16,a8⟩];rfl
theorem LU {G:cM}{H:cG}{s:SV}{xs:List Nat} [Tab H 26 ig] [Sl H s eB xs] (r0:Nat) (hr:r0<4294967296) (hn:xs.length≤1000000000000) (hb:∀x∈xs,x<256):SC G Tryz.prog 169 [.int .u32 ((r0:Nat):Int),s.val] H (fun v H'=> v= .int .u32 ((uL oN r0 xs:Nat):Int)∧H'=H):=by
 refine sWk Tryz.func169 Tryz.ntmps169 ?_
 refine go ?_
 refine wl_ (Nat×Nat) (fun y=> y.1≤xs.length∧y.2=uL oN r0 (xs.take y.1)∧y.2<4294967296) (fun y=> [(0, .int .u32 ((y.2:Nat):Int)),(7,s.val),(8, .int .i64 ((xs.length:Nat):Int)),(9, .int .i64 ((y.1:Nat):Int))]) (fun _=> H) (fun y=> xs.length - y.1) ((0,r0)) (h0:=?_) (k:=?_)
 ·try dsimp only
  exact⟨Yl _,rfl,hr⟩
 rintro⟨i,r⟩ ⟨hi,hI,hr1⟩
 try dsimp only at*
 refine gk (k:=wi_ (k:=fun h1=>?_) (m:=fun h1=>?_))
 ·obtain⟨x,hx⟩:∃x,xs[i]? =some x:=⟨_,Yi (a8)⟩
  have hxb:=hb x (Yj hx)
  have h1x:r ^^^ x<4294967296:=qR hr1 (a8)
  have h1z:=AG (r ^^^ x)
  have h2b:bs4 oN ((r ^^^ x) % 16)<4294967296:=mb (ag) (a8)
  have h2x:bs4 oN (r ^^^ x)<4294967296:=mb (ag) h1x
  have h2z:=AG (bs4 oN (r ^^^ x))
  have h3b:bs4 oN (bs4 oN (r ^^^ x) % 16)<4294967296:=mb (ag) (a8)
  refine wk_ (qn_ (ws_ (wb_ (ws_ (wr_ (e_ ixa (k:=e_ lel (k:=e_ asn (k:=on_ (qn_ (ws_ (wr_ (e_ mv (k:=?_))))))))))))))
  refine e_ mv (k:=?_)
  refine e_ ((al)) (k:=?_)
  refine e_ (kT 4294967296 rfl rfl rfl rfl _ _ rfl rfl (ai) (ai)) (k:=?_)
  refine e_ asn (k:=on_ (qn_ (ws_ (wr_ (e_ mv (k:=?_))))))
  refine e_ (ei rfl rfl _ 4 rfl rfl (aH)) (k:=?_)
  refine e_ mv (k:=?_)
  refine e_ (fV 4294967296 rfl rfl rfl rfl _ 15 rfl rfl (ai) (ai)) (k:=?_)
  refine e_ (fO rfl rfl ((r ^^^ x) &&& 15) rfl (by rw[w6];omega)) (k:=?_)
  refine e_ (lB rfl h1z) (k:=?_)
  refine e_ (kT 4294967296 rfl rfl rfl rfl _ _ rfl rfl (ai) (ai)) (k:=?_)
  refine e_ asn (k:=on_ (qn_ (wr_ (?_))))
  rw[nib]
  refine e_ mv (k:=?_)
  refine e_ (ei rfl rfl _ 4 rfl rfl (aH)) (k:=?_)
  refine e_ mv (k:=?_)
  refine e_ (fV 4294967296 rfl rfl rfl rfl _ 15 rfl rfl (ai) (ai)) (k:=?_)
  refine e_ (fO rfl rfl (bs4 oN (r ^^^ x) &&& 15) rfl (by rw[w6];omega)) (k:=?_)
  refine e_ (lB rfl h2z) (k:=?_)
  refine e_ (kT 4294967296 rfl rfl rfl rfl _ _ rfl rfl (ai) (ai)) (k:=?_)
  refine e_ asn (k:=on_ (bn_ (qn_ (wr_ (?_)))))
  rw[nib]
  refine go ?_
  refine ln_ ((i+1,bs4 oN (bs4 oN (r ^^^ x)))) (k:=?_)
  try dsimp only
  refine⟨a8,?_,mb (ag) h2x⟩
  rw[cP hx,rF,←hI];rfl
 obtain rfl:i=xs.length:=a8
 rw[List.take_length]at hI
 refine gk (k:=rt_ Tryz.results169 (k:=?_))
 exact⟨_,cK.refl,by rw[hI];rfl,rfl⟩
theorem DP {G:cM}{H:cG}{s:SV}{xs:List Nat} [Tab H 24 fF] [Sl H s eB xs] (hn:xs.length≤1000000000000) (hb:∀x∈xs,x<256):SC G Tryz.prog 79 [s.val] H (fun v H'=> v= .int .u32 ((lN xs:Nat):Int)∧H'=H):=by
 refine sWk Tryz.func79 Tryz.ntmps79 ?_
 refine go ?_
 refine gk (k:=wl_ (Nat×Nat) (fun y=> y.1≤xs.length∧y.2=uL lO 4294967295 (xs.take y.1)∧y.2<4294967296) (fun y=> [(3, .int .u32 ((y.2:Nat):Int)),(6,s.val),(7, .int .i64 ((xs.length:Nat):Int)),(8, .int .i64 ((y.1:Nat):Int))]) (fun _=> H) (fun y=> xs.length - y.1) ((0,4294967295)) (h0:=?_) (k:=?_))
 ·try dsimp only
  exact⟨Yl _,rfl,a8⟩
 rintro⟨i,r⟩ ⟨hi,hI,hr1⟩
 try dsimp only at*
 refine gk (k:=wi_ (k:=fun h1=>?_) (m:=fun h1=>?_))
 ·obtain⟨x,hx⟩:∃x,xs[i]? =some x:=⟨_,Yi (a8)⟩
  have hxb:=hb x (Yj hx)
  have h1x:r ^^^ x<4294967296:=qR hr1 (a8)
  have h1z:=xR (r ^^^ x)
  have h2b:bs4 lO ((r ^^^ x) % 16)<4294967296:=mb (ag) (a8)
  have h2x:bs4 lO (r ^^^ x)<4294967296:=mb (ag) h1x
  have h2z:=xR (bs4 lO (r ^^^ x))
  have h3b:bs4 lO (bs4 lO (r ^^^ x) % 16)<4294967296:=mb (ag) (a8)
  refine wk_ (qn_ (ws_ (wb_ (ws_ (wr_ (e_ ixa (k:=e_ lel (k:=e_ asn (k:=on_ (qn_ (ws_ (wr_ (e_ mv (k:=?_))))))))))))))
  refine e_ mv (k:=?_)
  refine e_ ((al)) (k:=?_)
  refine e_ (kT 4294967296 rfl rfl rfl rfl _ _ rfl rfl (ai) (ai)) (k:=?_)
  refine e_ asn (k:=on_ (qn_ (ws_ (wr_ (e_ mv (k:=?_))))))
  refine e_ (ei rfl rfl _ 4 rfl rfl (aH)) (k:=?_)
  refine e_ mv (k:=?_)
  refine e_ (fV 4294967296 rfl rfl rfl rfl _ 15 rfl rfl (ai) (ai)) (k:=?_)
  refine e_ (fO rfl rfl ((r ^^^ x) &&& 15) rfl (by rw[w6];omega)) (k:=?_)
  refine e_ (lB rfl h1z) (k:=?_)
  refine e_ (kT 4294967296 rfl rfl rfl rfl _ _ rfl rfl (ai) (ai)) (k:=?_)
  refine e_ asn (k:=on_ (qn_ (wr_ (?_))))
  rw[nib]
  refine e_ mv (k:=?_)
  refine e_ (ei rfl rfl _ 4 rfl rfl (aH)) (k:=?_)
  refine e_ mv (k:=?_)
  refine e_ (fV 4294967296 rfl rfl rfl rfl _ 15 rfl rfl (ai) (ai)) (k:=?_)
  refine e_ (fO rfl rfl (bs4 lO (r ^^^ x) &&& 15) rfl (by rw[w6];omega)) (k:=?_)
  refine e_ (lB rfl h2z) (k:=?_)
  refine e_ (kT 4294967296 rfl rfl rfl rfl _ _ rfl rfl (ai) (ai)) (k:=?_)
  refine e_ asn (k:=on_ (bn_ (qn_ (wr_ (?_)))))
  rw[nib]
  refine go ?_
  refine ln_ ((i+1,bs4 lO (bs4 lO (r ^^^ x)))) (k:=?_)
  try dsimp only
  refine⟨a8,?_,mb (ag) h2x⟩
  rw[cP hx,rF,←hI];rfl
 obtain rfl:i=xs.length:=a8
 rw[List.take_length]at hI
 refine we_ (qe_ (le_ (bh_ (qn_ (ws_ (wr_ (e_ mv (k:=?_))))))))
 refine e_ (oC 4294967296 rfl rfl rfl _ rfl (a8)) (k:=?_)
 refine gk (k:=rt_ Tryz.results79 (k:=?_))
 exact⟨_,cK.refl,by rw[hI];rfl,rfl⟩
theorem Iw {G:cM}{H:cG}{s:SV}{xs:List Nat} [Tab H 26 ig] [Sl H s eB xs] (hn:xs.length≤1000000000000) (hb:∀x∈xs,x<256):SC G Tryz.prog 145 [.int .u32 0,s.val] H (fun v H'=> v= .int .u32 ((mN xs:Nat):Int)∧H'=H):=by
 have hc:=oH (p:=oN) (ag) xs 4294967295 (ag) hb
 refine sWk Tryz.func145 Tryz.ntmps145 ?_
 refine ws_ (wr_ (e_ asn (k:=on_ (qn_ (ws_ (wr_ (e_ mv (k:=?_))))))))
 refine e_ (oC 4294967296 rfl rfl rfl 0 rfl (a8)) (k:=?_)
 refine go ?_
 refine d2_ rfl (LU 4294967295 (ag) hn hb) (k:=?_)
 refine e_ (oC 4294967296 rfl rfl rfl _ rfl hc) (k:=?_)
 refine gk (k:=rt_ Tryz.results145 (k:=?_))
 exact⟨_,cK.refl,rfl,rfl⟩
theorem J9 {G:cM}{H:cG}{s:SV}{xs:List Nat} [Tab H 26 ig] [Sl H s eB xs] (hn:xs.length≤1000000000000) (hb:∀x∈xs,x<256):SC G Tryz.prog 117 [s.val] H (fun v H'=> v= .int .u32 ((mN xs:Nat):Int)∧H'=H):=by
 refine sWk Tryz.func117 Tryz.ntmps117 ?_
 refine go ?_
 refine d2_ rfl (Iw hn hb) (k:=gk (k:=rt_ Tryz.results117 (k:=?_)))
 exact⟨_,hsb,rfl,rfl⟩
def bsN (p:Nat):Nat→Nat→Nat
 | 0,r=> r
 |n+1,r=> bsN p n (bs p r)
theorem Hx {G:cM}{H:cG}(r x p:Nat) (hr:r<4294967296) (hx:x<256) (hp:p<4294967296):SC G Tryz.prog 144 [.int .u32 ((r:Nat):Int), .int .u8 ((x:Nat):Int), .int .u32 ((p:Nat):Int)] H (fun v H'=> v= .int .u32 ((yS p r x:Nat):Int)∧H'=H):=by
 have h1x:r ^^^ x<4294967296:=qR hr (a8)
 refine sWk Tryz.func144 Tryz.ntmps144 ?_
 refine ws_ (wr_ (e_ asn (k:=on_ (qn_ (ws_ (wr_ (e_ mv (k:=e_ mv (k:=?_)))))))))
 refine e_ ((al)) (k:=?_)
 refine e_ (kT 4294967296 rfl rfl rfl rfl _ _ rfl rfl (ai) (ai)) (k:=?_)
 refine gk (k:=wl_ (Nat×Nat) (fun y=> y.1≤8∧bsN p (8 - y.1) y.2=yS p r x∧y.2<4294967296) (fun y=> [(0, .int .u32 ((y.2:Nat):Int)),(2, .int .u32 ((p:Nat):Int)),(7, .int .i64 ((y.1:Nat):Int))]) (fun _=> H) (fun y=> 8 - y.1) ((0,r ^^^ x)) (h0:=?_) (k:=?_))
 ·try dsimp only
  exact⟨Yl _,rfl,h1x⟩
 rintro⟨i,q⟩ ⟨hi,hI,hq⟩
 try dsimp only at*
 refine gk (k:=wi_ (k:=fun h1=>?_) (m:=fun h1=>?_))
 ·obtain⟨d,hd⟩:∃d,8 - i=d+1:=⟨8 - i - 1,a8⟩
  have ha:=NM q
  rw[hd]at hI
  refine wk_ (qn_ (ws_ (wb_ (ws_ (wr_ (e_ mv (k:=?_)))))))
  refine e_ (fV 4294967296 rfl rfl rfl rfl _ 1 rfl rfl (ai) (ai)) (k:=?_)
  refine gk (k:=wi_ (k:=fun h2=>?_) (m:=fun h2=>?_))
  ·have e:bs p q=(q / 2 ^ 1) ^^^ p:=by unfold bs;rw[if_pos (a8)]
   refine wr_ (e_ mv (k:=?_))
   refine e_ (ei rfl rfl _ 1 rfl rfl (aH)) (k:=?_)
   refine e_ mv (k:=?_)
   refine e_ (kT 4294967296 rfl rfl rfl rfl _ _ rfl rfl (ai) (ai)) (k:=?_)
   refine go ?_
   have hlt:=w3 hp hq
   rw[←e]
   refine ln_ ((i+1,bs p q)) (k:=?_)
   try dsimp only
   refine⟨a8,?_,hlt⟩
   rw[show 8 - (i+1)=d from a8];exact hI
  have e:bs p q=q / 2 ^ 1:=by unfold bs;rw[if_neg (a8)]
  refine wr_ (e_ mv (k:=?_))
  refine e_ (ei rfl rfl _ 1 rfl rfl (aH)) (k:=?_)
  refine go ?_
  have hlt:=w3 hp hq
  rw[←e]
  refine ln_ ((i+1,bs p q)) (k:=?_)
  try dsimp only
  refine⟨a8,?_,hlt⟩
  rw[show 8 - (i+1)=d from a8];exact hI
 obtain rfl:i=8:=a8
 have e:q=yS p r x:=hI
 refine gk (k:=rt_ Tryz.results144 (k:=?_))
 exact⟨_,cK.refl,by rw[e];rfl,rfl⟩
theorem E5 {G:cM}{H:cG}{s:SV}{xs:List Nat} [Sl H s eB xs] (r0 p:Nat) (hr:r0<4294967296) (hp:p<4294967296) (hn:xs.length≤1000000000000) (hb:∀x∈xs,x<256):SC G Tryz.prog 113 [.int .u32 ((r0:Nat):Int),s.val, .int .u32 ((p:Nat):Int)] H (fun v H'=> v= .int .u32 ((uL p r0 xs:Nat):Int)∧H'=H):=by
 refine sWk Tryz.func113 Tryz.ntmps113 ?_
 refine go ?_
 refine wl_ (Nat×Nat) (fun y=> y.1≤xs.length∧y.2=uL p r0 (xs.take y.1)∧y.2<4294967296) (fun y=> [(0, .int .u32 ((y.2:Nat):Int)),(2, .int .u32 ((p:Nat):Int)),(9,s.val),(10, .int .i64 ((xs.length:Nat):Int)),(11, .int .i64 ((y.1:Nat):Int))]) (fun _=> H) (fun y=> xs.length - y.1) ((0,r0)) (h0:=?_) (k:=?_)
 ·try dsimp only
  exact⟨Yl _,rfl,hr⟩
 rintro⟨i,r⟩ ⟨hi,hI,hr1⟩
 try dsimp only at*
 refine gk (k:=wi_ (k:=fun h1=>?_) (m:=fun h1=>?_))
 ·obtain⟨x,hx⟩:∃x,xs[i]? =some x:=⟨_,Yi (a8)⟩
  have hxb:=hb x (Yj hx)
  refine go ?_
  refine go ?_
  refine d3_ rfl (Hx r x p hr1 hxb hp) (k:=go ?_)
  refine ln_ ((i+1,yS p r x)) (k:=?_)
  try dsimp only
  refine⟨a8,?_,BF hp hr1 hxb⟩
  rw[cP hx,rF,←hI]
 obtain rfl:i=xs.length:=a8
 rw[List.take_length]at hI
 refine gk (k:=rt_ Tryz.results113 (k:=?_))
 exact⟨_,cK.refl,by rw[hI];rfl,rfl⟩
theorem zK {G:cM}{H:cG}{s:SV}{xs:List Nat} [Sl H s eB xs] (hn:xs.length≤1000000000000) (hb:∀x∈xs,x<256):SC G Tryz.prog 143 [.int .u32 0,s.val] H (fun v H'=> v= .int .u32 ((mN xs:Nat):Int)∧H'=H):=by
 have hc:=oH (p:=oN) (ag) xs 4294967295 (ag) hb
 refine sWk Tryz.func143 Tryz.ntmps143 ?_
 refine ws_ (wr_ (e_ asn (k:=on_ (qn_ (ws_ (wr_ (e_ mv (k:=?_))))))))
 refine e_ (oC 4294967296 rfl rfl rfl 0 rfl (a8)) (k:=?_)
 refine go ?_
 refine d3_ rfl (E5 4294967295 oN (ag) (ag) hn hb) (k:=?_)
 refine e_ (oC 4294967296 rfl rfl rfl _ rfl hc) (k:=?_)
 refine gk (k:=rt_ Tryz.results143 (k:=?_))
 exact⟨_,cK.refl,rfl,rfl⟩
theorem E4 {G:cM}{H:cG}{s:SV}{xs:List Nat} [Sl H s eB xs] (hn:xs.length≤1000000000000) (hb:∀x∈xs,x<256):SC G Tryz.prog 112 [s.val] H (fun v H'=> v= .int .u32 ((mN xs:Nat):Int)∧H'=H):=by
 refine sWk Tryz.func112 Tryz.ntmps112 ?_
 refine go ?_
 refine d2_ rfl (zK hn hb) (k:=gk (k:=rt_ Tryz.results112 (k:=?_)))
 exact⟨_,hsb,rfl,rfl⟩
theorem B5 {G:cM}{H:cG}{s:SV}{xs:List Nat} [Sl H s eB xs] (hn:xs.length≤1000000000000) (hb:∀x∈xs,x<256):SC G Tryz.prog 70 [s.val] H (fun v H'=> v= .int .u32 ((lN xs:Nat):Int)∧H'=H):=by
 have hc:=oH (p:=lO) (ag) xs 4294967295 (ag) hb
 refine sWk Tryz.func70 Tryz.ntmps70 ?_
 refine go ?_
 refine d3_ rfl (E5 4294967295 lO (ag) (ag) hn hb) (k:=?_)
 refine e_ (oC 4294967296 rfl rfl rfl _ rfl hc) (k:=?_)
 refine gk (k:=rt_ Tryz.results70 (k:=?_))
 exact⟨_,cK.refl,rfl,rfl⟩
theorem gH:∀n,∀x∈uv n,x<256:=by
 intro n
 induction n using Nat.strongRecOn with
 |_ n ih=>
  intro x hx
  by_cases h:n<128
  ·rw[j2 h]at hx;simp at hx;omega
  ·rw[m5 h]at hx
   rcases List.mem_cons.1 hx with rfl|hx
   ·omega
   ·exact ih (n / 128) (a8) x hx
theorem tk (n:Nat):∀x∈w32 n,x<256:=by
 intro x hx
 simp only[w32,List.mem_cons,List.not_mem_nil,or_false]at hx
 omega
theorem wc {l:List Nat}(hb:∀x∈l,x<256):mN l<4294967296:=qR (ag) (oH (ag) l _ (ag) hb)
theorem tC {l:List Nat}(hb:∀x∈l,x<256):lN l<4294967296:=qR (ag) (oH (ag) l _ (ag) hb)
def k7 (tag:Nat) (body:List Nat):List Nat:= [tag]++uv body.length++body
def fK (tag:Nat) (body:List Nat):List Nat:=k7 tag body++w32 (mN (k7 tag body))
def da (bl:List (Nat×List Nat)):List Nat:=bl.flatMap fun q=> fK q.1 q.2
def kQ (kind:Nat) (bl:List (Nat×List Nat)):List Nat:= [99,110,99,100]++ [kind]++uv bl.length++da bl
def jW (kind:Nat) (bl:List (Nat×List Nat)):List Nat:=kQ kind bl++w32 (lN (kQ kind bl))
theorem qA {tag:Nat}{body:List Nat}(ht:tag<256) (hb:∀x∈body,x<256):∀x∈k7 tag body,x<256:=by
 intro x hx
 simp only[k7,List.mem_append,List.mem_singleton]at hx
 rcases hx with(rfl|hx)|hx
 ·exact ht
 ·exact gH _ x hx
 ·exact hb x hx
theorem IQ {tag:Nat}{body:List Nat}(ht:tag<256) (hb:∀x∈body,x<256):∀x∈fK tag body,x<256:=by
 intro x hx
 rcases List.mem_append.1 hx with hx|hx
 ·exact qA ht hb x hx
 ·exact tk _ x hx
theorem CU {bl:List (Nat×List Nat)}(h:∀q∈bl,q.1<256∧∀x∈q.2,x<256):∀x∈da bl,x<256:=by
 intro x hx
 obtain⟨q,hq,hx⟩:=List.mem_flatMap.1 hx
 exact IQ (h q hq).1 (h q hq).2 x hx
theorem ow {kind:Nat}{bl:List (Nat×List Nat)}(hk:kind<256) (h:∀q∈bl,q.1<256∧∀x∈q.2,x<256):∀x∈kQ kind bl,x<256:=by
 intro x hx
 simp only[kQ,List.mem_append,List.mem_cons,List.not_mem_nil,or_false]at hx
 rcases hx with((hx|rfl)|hx)|hx
 ·omega
 ·exact hk
 ·exact gH _ x hx
 ·exact CU h x hx
def eK:Enc (Nat×SV):=⟨fun p=> [.int .u8 ((p.1:Nat):Int),p.2.val],2,true,fun _=> rfl,fun p v h=> by simp at h;rcases h with rfl|rfl <;> rfl,ag,fun h=> aR,ag⟩
instance {p:Nat×SV}:kK eK p (.agg [.int .u8 ((p.1:Nat):Int),p.2.val].toArray):=⟨rfl⟩
instance {v:Value}{n:Nat}{s:SV} [h:fH eB v n]:fH eK (.agg [v,s.val].toArray) (n,s):=⟨by have:=h.out;subst this;rfl⟩
def kL (H:cG) (l:List (Nat×SV)) (bl:List (Nat×List Nat)):Prop:=l.length=bl.length∧∀(i:Nat) (p:Nat×SV) (q:Nat×List Nat),l[i]? =some p→bl[i]? =some q→p.1=q.1∧Sl H p.2 eB q.2
theorem Iu {G:cM}{H:cG}{s:SV}{body:List Nat} [hg:Glb G H] [Tab H 26 ig] [Sl H s eB body] (tag:Nat) (ht0:tag≠0) (ht:tag<256) (hb:∀x∈body,x<256) (hn:body.length≤10000000000):SC G Tryz.prog 77 [.int .u8 ((tag:Nat):Int),s.val] H (fun v H'=> ∃s':SV,v= .tuple #[s'.val, .nilIface]∧H'=Row s' eB (fK tag body)::H):=by
 have hul:=dc (n:=body.length) (a8)
 have hlen:(k7 tag body).length≤100000000000:=by simp only[k7,Ya,List.length_singleton];omega
 refine sWk Tryz.func77 Tryz.ntmps77 ?_
 refine gk (k:=wi_ (k:=fun h1=>?_) (m:=fun h1=>?_))
 ·exfalso;omega
 refine go ?_
 refine c0_ rfl (fC) (k:=?_)
 rintro _ _ ⟨b1,rfl,rfl⟩
 refine go ?_
 refine d2_ rfl (nE tag (aj)) (k:=on_ (qn_ (ws_ (wr_ (e_ mv (k:=e_ mv (k:=e_ lnn (k:=?_))))))))
 refine e_ ((ae)) (k:=?_)
 refine d2_ rfl (eC body.length (a8) (aj)) (k:=go ?_)
 refine d2_ rfl (zn (by simp only[Ya,Yc,List.length_singleton];omega) (a8)) (k:=go ?_)
 refine c1_ rfl (iB (xs:=k7 tag body) (a8)) (k:=?_)
 rintro _ _ ⟨s1,rfl,rfl⟩
 refine d1_ rfl (J9 (xs:=k7 tag body) (a8) (qA ht hb)) (k:=?_)
 refine d2_ rfl (AM (mN (k7 tag body)) (a8)) (k:=go ?_)
 refine c1_ rfl (iB (xs:=fK tag body) (by simp only[fK,Ya];simp only[w32,Yb,Yc];omega)) (k:=?_)
 rintro _ _ ⟨s2,rfl,rfl⟩
 refine gk (k:=rt_ Tryz.results77 (k:=?_))
 exact⟨_,hsb,s2,rfl,rfl⟩
def jt:List Nat→Nat
 |a::b::c::d::_=> a+256*b+65536*c+16777216*d
 |_=> 0
theorem zW {v a m:Nat}(hv:v<2 ^ m):v |||(a*2 ^ m)=v+a*2 ^ m:=by
 rw[Nat.or_comm,←Nat.shiftLeft_eq,←Nat.shiftLeft_add_eq_or_of_lt hv,Nat.shiftLeft_eq];omega
theorem HZ {v a:Nat}(hv:v<256) (ha:a<256):v |||(a*2 ^ 8 % 4294967296)=v+a*256:=by
 rw[Nat.mod_eq_of_lt (a8),zW (m:=8) (a8)]
theorem EH {v a:Nat}(hv:v<65536) (ha:a<256):v |||(a*2 ^ 16 % 4294967296)=v+a*65536:=by
 rw[Nat.mod_eq_of_lt (a8),zW (m:=16) (a8)]
theorem EF {v a:Nat}(hv:v<16777216) (ha:a<256):v |||(a*2 ^ 24 % 4294967296)=v+a*16777216:=by
 rw[Nat.mod_eq_of_lt (a8),zW (m:=24) (a8)]
theorem zk {l:List Nat}{a b c d:Nat}(h0:l[0]? =some a) (h1:l[1]? =some b) (h2:l[2]? =some c) (h3:l[3]? =some d):jt l=a+256*b+65536*c+16777216*d:=by
 match l,h0,h1,h2,h3 with
 |x::y::z::w::r,h0,h1,h2,h3=>
  simp at h0 h1 h2 h3
  subst h0;subst h1;subst h2;subst h3;rfl
theorem Dd {G:cM}{H:cG}{s:SV}{xs:List Nat} [Sl H s eB xs] (hn:4≤xs.length) (hb:∀x∈xs,x<256):SC G Tryz.prog 80 [s.val] H (fun v H'=> v= .int .u32 ((jt xs:Nat):Int)∧H'=H):=by
 obtain⟨a,ha⟩:∃x,xs[0]? =some x:=⟨_,Yi (a8)⟩
 obtain⟨b,hbb⟩:∃x,xs[1]? =some x:=⟨_,Yi (a8)⟩
 obtain⟨c,hc⟩:∃x,xs[2]? =some x:=⟨_,Yi (a8)⟩
 obtain⟨d,hd⟩:∃x,xs[3]? =some x:=⟨_,Yi (a8)⟩
 have ha2:=hb a (Yj ha)
 have hb2:=hb b (Yj hbb)
 have hc2:=hb c (Yj hc)
 have hd2:=hb d (Yj hd)
 refine sWk Tryz.func80 Tryz.ntmps80 ?_
 refine go ?_
 refine cW cL (as_ 0 (q:=mv) (k:=?_))
 refine cH 1 rfl rfl (aa) rfl (du (cO rfl rfl 0 rfl (a8))) (?_)
 refine cH 2 rfl rfl (aa) rfl (du (dq rfl (aI) (aI) a ha)) (?_)
 refine cH 3 rfl rfl (aa) rfl (du ((al))) (?_)
 refine as_ 4 (q:=mv) (k:=?_)
 refine cH 5 rfl rfl (aa) rfl (du (cO rfl rfl 1 rfl (a8))) (?_)
 refine cH 6 rfl rfl (aa) rfl (du (dq rfl (aI) (aI) b hbb)) (?_)
 refine cH 7 rfl rfl (aa) rfl (du ((al))) (?_)
 refine cH 8 rfl rfl (aa) rfl (du (sY 4294967296 rfl rfl rfl rfl _ 8 rfl rfl)) (?_)
 refine cH 9 rfl rfl (aa) rfl (du (j0 4294967296 rfl rfl rfl rfl _ _ rfl rfl (ai) (ai))) (?_)
 rw[HZ ha2 hb2]
 refine as_ 10 (q:=mv) (k:=?_)
 refine cH 11 rfl rfl (aa) rfl (du (cO rfl rfl 2 rfl (a8))) (?_)
 refine cH 12 rfl rfl (aa) rfl (du (dq rfl (aI) (aI) c hc)) (?_)
 refine cH 13 rfl rfl (aa) rfl (du ((al))) (?_)
 refine cH 14 rfl rfl (aa) rfl (du (sY 4294967296 rfl rfl rfl rfl _ 16 rfl rfl)) (?_)
 refine cH 15 rfl rfl (aa) rfl (du (j0 4294967296 rfl rfl rfl rfl _ _ rfl rfl (ai) (ai))) (?_)
 rw[EH (a8) hc2]
 refine as_ 16 (q:=mv) (k:=?_)
 refine cH 17 rfl rfl (aa) rfl (du (cO rfl rfl 3 rfl (a8))) (?_)
 refine cH 18 rfl rfl (aa) rfl (du (dq rfl (aI) (aI) d hd)) (?_)
 refine cH 19 rfl rfl (aa) rfl (du ((al))) (?_)
 refine cH 20 rfl rfl (aa) rfl (du (sY 4294967296 rfl rfl rfl rfl _ 24 rfl rfl)) (?_)
 refine cH 21 rfl rfl (aa) rfl (du (j0 4294967296 rfl rfl rfl rfl _ _ rfl rfl (ai) (ai))) (?_)
 rw[EF (a8) hd2]
 refine as_ 22 (q:=asn) (k:=az_ (k:=gk (k:=rt_ Tryz.results80 (k:=?_))))
 exact⟨_,cK.refl,by rw[zk ha hbb hc hd,show a+256*b+65536*c+16777216*d=a+b*256+c*65536+d*16777216 from a8];rfl,rfl⟩
def iu (l:List Nat):Option (Nat×Nat):=
 match l with
 | []=> none
 |tag::_=> if tag=0 then none else
  match eY 0 ((l.take (min l.length 11)).drop 1)with
  | .error _=> none
  | .ok (n,m)=> if l.length - (1+m)<4∨l.length - (1+m) - 4<n then none else
   if jt (l.drop (1+m+n))=mN (l.take (1+m+n))then some (1+m,1+m+n)else none
theorem MF {G:cM}{H:cG}{s:SV}{xs:List Nat} [hg:Glb G H] [Tab H 26 ig] [Sl H s eB xs] (hn:xs.length≤1000000000000) (hb:∀x∈xs,x<256):SC G Tryz.prog 119 [s.val] H (fun v H'=>
 (iu xs=none∧H'=H∧∃e,v= .tuple #[.int .i64 0, .int .i64 0, .int .i64 0,G.err e])∨(∃f t,iu xs=some (f,t)∧f≤t∧t+4≤xs.length∧H'=H∧v= .tuple #[.int .i64 ((f:Nat):Int), .int .i64 ((t:Nat):Int), .int .i64 ((t+4:Nat):Int), .nilIface])):=by
 refine sWk Tryz.func119 Tryz.ntmps119 ?_
 refine go ?_
 refine gk (k:=wi_ (k:=fun h1=>?_) (m:=fun h1=>?_))
 ·obtain rfl:xs= []:=List.length_eq_zero_iff.1 (a8)
  refine go ?_
  refine cW cL (as_ 0 (q:=ldv) (k:=as_ 1 (q:=asn) (k:=as_ 2 (q:=asn) (k:=as_ 3 (q:=asn) (k:=as_ 4 (q:=asn) (k:=az_ (k:=gk (k:=rt_ Tryz.results119 (k:=?_)))))))))
  exact⟨_,hsb, .inl ⟨rfl,rfl,_,rfl⟩⟩
 obtain⟨x,r,hx⟩:∃x r,xs=x::r:=by
  cases xs with
  |nil=> simp at h1
  |cons x r=> exact⟨x,r,rfl⟩
 have hx0:xs[0]? =some x:=by rw[hx];rfl
 have hxb:=hb x (Yj hx0)
 refine wk_ (qn_ (ws_ (ws_ (wr_ (e_ mv (k:=?_))))))
 refine e_ (cO rfl rfl 0 rfl (a8)) (k:=?_)
 refine e_ (dq rfl (aI) (aI) x hx0) (k:=?_)
 refine gk (k:=wi_ (k:=fun h2=>?_) (m:=fun h2=>?_))
 ·obtain rfl:x=0:=by omega
  have e:iu xs=none:=by rw[hx,iu,if_pos rfl]
  refine go ?_
  refine cW cL (as_ 0 (q:=ldv) (k:=as_ 1 (q:=asn) (k:=as_ 2 (q:=asn) (k:=as_ 3 (q:=asn) (k:=as_ 4 (q:=asn) (k:=az_ (k:=gk (k:=rt_ Tryz.results119 (k:=?_)))))))))
  exact⟨_,hsb, .inl ⟨e,rfl,_,rfl⟩⟩
 have hx0:¬x=0:=a8
 refine wk_ (qn_ (ws_ (wr_ (e_ mv (k:=e_ mv (k:=e_ lnn (k:=?_)))))))
 refine e_ (uD rfl rfl) (k:=?_)
 refine iP H rfl (1) (min xs.length 11) ⟨_,_,rfl,(aG)⟩ ⟨_,_,rfl,(aG)⟩ (a8) (aE) rfl (fun s1 i1=>?_)
 refine c1_ rfl (jo (cf)) (k:=?_)
 rintro _ _ ⟨b1,rfl,rfl⟩
 refine go ?_
 refine c1_ rfl (pY (Yl _) (cf) (fun y hy=> hb y (Yq (Yp hy)))) (k:=?_)
 rintro v1 H1 hK
 rw[List.drop_zero]at hK
 rcases hK with⟨e,he,rfl,rfl⟩|⟨n,m,he,rfl,rfl⟩
 ·have e2:iu xs=none:=by rw[hx,iu,if_neg hx0,←hx,he]
  refine e_ mv (k:=e_ exr (k:=e_ exr (k:=e_ asn (k:=e_ asn (k:=on_ (qn_ (ws_ (ws_ (wr_ (e_ mv (k:=?_)))))))))))
  refine e_ (cR rfl) (k:=?_)
  refine gk (k:=ift (k:=go ?_))
  refine rt_ Tryz.results119 (k:=?_)
  exact⟨_,hsb, .inl ⟨e2,rfl,_,rfl⟩⟩
 obtain⟨p1,p2,p3,p4,p5,p6⟩:=gZ _ 0 n m (fun y hy=> hb y (Yq (Yp hy))) (a8) he
 rw[Yo,Yg]at p4
 have e2:iu xs=if xs.length - (1+m)<4∨xs.length - (1+m) - 4<n then none else if jt (xs.drop (1+m+n))=mN (xs.take (1+m+n))then some (1+m,1+m+n)else none:=by rw[hx,iu,if_neg hx0,←hx,he]
 refine e_ mv (k:=e_ exr (k:=e_ exr (k:=e_ asn (k:=e_ asn (k:=on_ (qn_ (ws_ (ws_ (wr_ (e_ mv (k:=?_)))))))))))
 refine e_ (cN rfl) (k:=?_)
 refine gk (k:=dw (k:=go ?_))
 refine d1_ rfl (wu) (k:=?_)
 refine e_ (tc rfl rfl (((1+m:Nat)):Int) (by rw[IntKind.wrap_i64];omega)) (k:=?_)
 refine e_ asn (k:=on_ (qn_ (ws_ (ws_ (wr_ (e_ mv (k:=e_ lnn (k:=e_ mv (k:=e_ isb (k:=e_ asn (k:=on_ (qn_ (ws_ (?_))))))))))))))
 refine wr_ (e_ mv (k:=e_ ilt (k:=sp_ (mv) (k:=fun h3=>?_) (m:=fun h3=>?_))))
 ·refine gk (k:=ift (k:=go ?_))
  refine cW cL (as_ 0 (q:=ldv) (k:=as_ 1 (q:=asn) (k:=as_ 2 (q:=asn) (k:=as_ 3 (q:=asn) (k:=as_ 4 (q:=asn) (k:=az_ (k:=gk (k:=rt_ Tryz.results119 (k:=?_)))))))))
  exact⟨_,hsb, .inl ⟨by rw[e2,if_pos (a8)],rfl,_,rfl⟩⟩
 refine eg_ mv (k:=eg_ mv (k:=eg_ isb (k:=?_)))
 refine eg_ (cS 18446744073709551616 rfl rfl rfl (xs.length - (1+m) - 4) (a8) (a8)) (k:=?_)
 refine gk (k:=wi_ (k:=fun h4=>?_) (m:=fun h4=>?_))
 ·refine go ?_
  refine cW cL (as_ 0 (q:=ldv) (k:=as_ 1 (q:=asn) (k:=as_ 2 (q:=asn) (k:=as_ 3 (q:=asn) (k:=as_ 4 (q:=asn) (k:=az_ (k:=gk (k:=rt_ Tryz.results119 (k:=?_)))))))))
  exact⟨_,hsb, .inl ⟨by rw[e2,if_pos (a8)],rfl,_,rfl⟩⟩
 refine wk_ (qn_ (ws_ (wr_ (?_))))
 rw[if_neg (a8)]at e2
 refine e_ mv (k:=e_ mv (k:=?_))
 refine e_ (dS rfl (a8)) (k:=?_)
 refine e_ (tc rfl rfl (((1+m+n:Nat)):Int) (by rw[IntKind.wrap_i64];omega)) (k:=?_)
 refine go ?_
 refine cW cL (?_)
 have hc1:Sl H (s.cut 1 (1+m+n) xs.length) eB ((xs.take xs.length).drop (1+m+n)):=Sl.cut (e:=eB) inferInstance (a8) (a8)
 rw[List.take_length]at hc1
 have hc2:Sl H (s.cut 1 0 (1+m+n)) eB ((xs.take (1+m+n)).drop 0):=Sl.cut (e:=eB) inferInstance (a8) (a8)
 rw[List.drop_zero]at hc2
 refine as_ 0 (q:=mv) (k:=as_ 1 (q:=mv) (k:=?_))
 refine cH 2 rfl rfl (aa) rfl (du (ef rfl (aI) (1+m+n) xs.length ⟨_,_,rfl,rfl⟩ rfl (a8) (a8))) (?_)
 refine cH 3 rfl rfl (aa) rfl (j9 (vs:= [_]) rfl (Dd (aC) (fun y hy=> hb y (Yp hy)))) (?_)
 refine as_ 4 (q:=mv) (k:=as_ 5 (q:=mv) (k:=?_))
 refine cH 6 rfl rfl (aa) rfl (du (ef rfl (aI) 0 (1+m+n) rfl ⟨_,_,rfl,rfl⟩ (a8) (a8))) (?_)
 refine cH 7 rfl rfl (aa) rfl (j9 (vs:= [_]) rfl (J9 (ax) (fun y hy=> hb y (Yq hy)))) (?_)
 refine as_ 8 (q:=ine) (k:=az_ (k:=gk (k:=wi_ (k:=fun h5=>?_) (m:=fun h5=>?_))))
 ·rw[if_neg (a8)]at e2
  refine go ?_
  refine cW cL (as_ 0 (q:=ldv) (k:=as_ 1 (q:=asn) (k:=as_ 2 (q:=asn) (k:=as_ 3 (q:=asn) (k:=as_ 4 (q:=asn) (k:=az_ (k:=gk (k:=rt_ Tryz.results119 (k:=?_)))))))))
  exact⟨_,hsb, .inl ⟨e2,rfl,_,rfl⟩⟩
 rw[if_pos (a8)]at e2
 refine go ?_
 refine gk (k:=rt_ Tryz.results119 (k:=?_))
 exact⟨_,hsb, .inr ⟨_,_,e2,a8,a8,rfl,rfl⟩⟩
theorem Iv {G:cM}{H:cG}{s:SV}{xs:List Nat} [hg:Glb G H] [Tab H 26 ig] [hs:Sl H s eB xs] (hn:xs.length≤1000000000000) (hb:∀x∈xs,x<256):SC G Tryz.prog 83 [s.val] H (fun v H'=>
 (iu xs=none∧H'=H∧∃e,v= .tuple #[.agg [.int .u8 0, .slice none 0 0].toArray, .int .i64 0,G.err e])∨(∃f t x,∃s':SV,iu xs=some (f,t)∧f≤t∧t+4≤xs.length∧xs[0]? =some x∧v= .tuple #[.agg [.int .u8 ((x:Nat):Int),s'.val].toArray, .int .i64 ((t+4:Nat):Int), .nilIface]∧H'=Row s' eB ((xs.take t).drop f)::H)):=by
 refine sWk Tryz.func83 Tryz.ntmps83 ?_
 refine gk (k:=alc (k:=fun b1=>?_))
 refine go ?_
 refine c1_ rfl (MF hn hb) (k:=?_)
 rintro v1 H1 hK
 rcases hK with⟨he,rfl,e,rfl⟩|⟨f,q,he,hft,htl,rfl,rfl⟩
 ·refine e_ mv (k:=e_ exr (k:=e_ exr (k:=e_ exr (k:=e_ exr (k:=e_ asn (k:=e_ asn (k:=e_ asn (k:=e_ asn (k:=on_ (qn_ (ws_ (ws_ (wr_ (?_))))))))))))))
  refine e_ mv (k:=?_)
  refine e_ (cR rfl) (k:=?_)
  refine gk (k:=ift (k:=ws_ (wr_ (e_ (bld []) (k:=go ?_)))))
  refine rt_ Tryz.results83 (k:=?_)
  exact⟨_,hsb, .inl ⟨he,rfl,e,rfl⟩⟩
 obtain⟨x,hx⟩:∃x,xs[0]? =some x:=⟨_,Yi (a8)⟩
 have hc:Sl H (s.cut 1 f q) eB ((xs.take q).drop f):=Sl.cut (e:=eB) hs (a8) (a8)
 refine e_ mv (k:=e_ exr (k:=e_ exr (k:=e_ exr (k:=e_ exr (k:=e_ asn (k:=e_ asn (k:=e_ asn (k:=e_ asn (k:=on_ (qn_ (ws_ (ws_ (wr_ (?_))))))))))))))
 refine e_ mv (k:=?_)
 refine e_ (cN rfl) (k:=?_)
 refine gk (k:=dw (k:=go ?_))
 refine di cL (fun i=> [7,8,11].contains i) (fun k H=> (k=1→Sl H s eB xs)∧(k=2→Sl H s eB xs)∧(k=6→Sl H s eB xs)) (af_ 0 (q:=cE fun H hH=>mv) (k:=?_))
 refine cH 1 rfl rfl (aa) rfl (cE fun H hH=>by have hN:=hH.1 rfl;exact cO rfl rfl 0 rfl (a8)) (?_)
 refine cH 2 rfl rfl (aa) rfl (cE fun H hH=>by have hN:=hH.2.1 rfl;exact dq rfl (aI) (aI) x hx) (?_)
 refine af_ 3 (q:=cE fun H hH=>mv) (k:=af_ 4 (q:=cE fun H hH=>mv) (k:=af_ 5 (q:=cE fun H hH=>mv) (k:=?_)))
 refine cH 6 rfl rfl (aa) rfl (cE fun H hH=>by have hN:=hH.2.2 rfl;exact ef rfl (aI) f q ⟨_,_,rfl,rfl⟩ ⟨_,_,rfl,rfl⟩ (a8) (a8)) (?_)
 refine af_ 10 (q:=cE fun H hH=>mv) (k:=?_)
 refine cQ 7 rfl (aa) rfl (fun k hk=> ⟨fun hi=> ab,fun hi=> ab,fun hi=> ab⟩) (dW eSV rfl rfl) ?_
 rintro _ _ ⟨s1,rfl,rfl⟩
 refine cQ 8 rfl (aa) rfl (fun k hk=> ⟨fun hi=> ab,fun hi=> ab,fun hi=> absurd hk (ad)⟩) (dm (vs:= [_]) rfl (x6 (s:=s.cut 1 f q) (cf))) ?_
 rintro _ _ ⟨s2,rfl,rfl⟩
 refine af_ 9 (q:=cE fun H hH=>bld [(0,_),(1,_)]) (k:=?_)
 refine cQ 11 rfl (aa) rfl (fun k hk=> ⟨fun hi=> ab,fun hi=> ab,fun hi=> absurd hk (ad)⟩) (dk rfl rfl rfl) ?_
 rintro _ _ ⟨rfl,rfl⟩
 refine af_ 12 (q:=cE fun H hH=>asn) (k:=af_ 13 (q:=cE fun H hH=>asn) (k:=db (aa) (fun k hk=> ⟨fun hi=> absurd hk (ad),fun hi=> absurd hk (ad),fun hi=> absurd hk (ad)⟩) (gk (k:=rt_ Tryz.results83 (k:=?_)))))
 exact⟨_,hsb, .inr ⟨f,q,x,s2,he,hft,htl,hx,rfl,rfl⟩⟩
end Go.Sx
