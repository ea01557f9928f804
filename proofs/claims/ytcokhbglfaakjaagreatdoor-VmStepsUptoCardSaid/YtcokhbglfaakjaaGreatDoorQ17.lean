import Derived.Test.YtcokhbglfaakjaaGreatDoorQ13
import Derived.Test.YtcokhbglfaakjaaGreatDoorQ11
set_option linter.all false
set_option maxHeartbeats 0
namespace Go.Sx
open Go Go.Proofs Tryz
set_option maxRecDepth 100000
section
variable {G:dJ}{H R:dD}{m:Nat}{s:SV}
structure MX where
 pa:PrA
 all:Bool
 co:SV
 pt:PtA
 cu:SV
 cs:List Nat
structure MY where
 stk:List VV
 pl:Int
 pc:Nat
 st:Nat
 vi:Nat
abbrev mV (x:MX) (s:SV) (y:MY):List Value:= [x.pa.av.val,x.pa.cu.val,x.pa.ne.val,.bool x.all,x.pa.dr.val,x.pa.co.val,x.co.val,.pointer (some ⟨x.pt.p,0,none⟩),x.cu.val,.func (.func 54) #[] #[],.func (.func 55) #[] #[],.func (.func 57) #[] #[],.func (.func 58) #[] #[],.func (.func 59) #[] #[],.func (.func 60) #[] #[],.func (.func 61) #[] #[],.func (.func 64) #[] #[],.func (.func 66) #[] #[],.func (.func 68) #[] #[],.func (.func 70) #[] #[],.func (.func 72) #[] #[],.func (.func 74) #[] #[],.func (.func 75) #[] #[],.func (.func 76) #[] #[],.func (.func 77) #[] #[],.func (.func 80) #[] #[],s.val,.int .i64 y.pl,.int .i64 ((y.pc:Nat):Int),.int .i64 ((y.st:Nat):Int),.int .i64 ((y.vi:Nat):Int)]
def Mo (m:Nat) (z:MX×MY):Hp:=Ex λs:SV=>[Vr m (mV z.1 s z.2),Row s eVV z.2.stk]
theorem mc {x:MX}{y:MY}:dH (Vr m (mV x s y)::Row s eVV y.stk::R) (Mo m (x,y)::R):=wx (K:=Mo) (i:=m) (a:=(x,y)) rfl s
theorem qQ {P:Program}{f:FuncId}{args:List Value}{K:Value→dD→Prop}{x:MX}{y:MY}(hr:Rem H Mo m (x,y) R) (h:∀s:SV,SC G P f args (Vr m (mV x s y)::Row s eVV y.stk::R) K):SC G P f args H K:=
 ⟨(h SV.nil).enter,λw a=>let ⟨s,hs⟩:=pI (K:=Mo) rfl hr a;(h s).call w hs⟩
theorem qG {x:MX}{y:MY}{a:Bool}{b:Nat} [hr:Rem H Mo m (x,y) R] (hl:y.stk.length≤1000000000):SC G prog 56 [pA m,.agg #[.bool a,uN b]] H (λv e=>v=.tuple #[]∧e=Mo m (x,{y with stk:=y.stk++ [(a,b)]})::R):=by
 refine qQ hr (λs=>?_);refine sWk func56 ?_;refine gk (k:=bxx (k:=λd=>?_));refine go ?_;refine wD [6,7,10] (λk H=>(k=4→dQ H m (mV x s y))∧(k=5→dQ H d [.bool a,uN b])) (aF 0 (k:=aF 1 (k:=aF 2 (k:=aF 3 (k:=?_)))));refine aN 4 rfl (λH hH=>ah) (go ?_);refine aS 6 rfl (fK eVV rfl rfl) ?_;rintro _ _ ⟨s10,rfl,rfl⟩;refine aS 7 rfl (gf rfl rfl rfl rfl ab ab) ?_;rintro _ _ ⟨c,rfl,rfl⟩;refine go ?_;refine aS 10 rfl (ej rfl rfl rfl) ?_;rintro _ _ ⟨rfl,rfl⟩;refine aZ (rT (k:=?_));exact⟨_,dH.trans hsb (mc (x:=x) (y:={y with stk:=y.stk++ [(a,b)]}) (s:=c)),rfl,rfl⟩
theorem As {l:List VV}(h:0<l.length):l[l.length-1]? =some (eX l):=by
 rw[eX,List.getLast?_eq_getElem?,Yi a8];all_goals rfl
theorem Ry {x:MX}{y:MY} [hm:dQ H m (mV x s y)] [hs:Sl H s eVV y.stk] (h0:0<y.stk.length) (hl:y.stk.length≤1000000000):SC G prog 79 [pA m] H (λv b=>v=.agg #[.bool (eX y.stk).1,uN ((eX y.stk).2)]∧b=H):=by
 have a:=As h0;refine sWk func79 ?_;refine gk (k:=alc (k:=λb2=>?_));refine go ?_;refine wD [12] (λk H=>(k=3→dQ H m (mV x s y))∧(k=7→dQ H m (mV x s y))∧(k=8→Sl H s eVV y.stk)∧(k=10→Sl H s eVV y.stk)∧(k=11→Sl H s eVV y.stk)) (aF 0 (k:=aF 1 (k:=aF 2 (k:=?_))));refine aN 3 rfl (λH hH=>ah) ?_;refine aF 4 (k:=aF 5 (k:=aF 6 (k:=?_)));refine aN 7 rfl (λH hH=>ar) ?_;refine aN 8 rfl (λH hH=>by have hN:=hH.2.2.1 rfl;exact lnn) ?_;refine aF 9 (k:=?_);refine aN 10 rfl (λH hH=>bu) ?_;refine aN 11 rfl (λH hH=>by have hN:=hH.2.2.2.2 rfl;exact gr (hy:=a)) ?_;refine aS 12 rfl (ej rfl rfl rfl) ?_;rintro _ _ ⟨rfl,rfl⟩;refine aZ (gR ?_);exact⟨_,hsb,rfl,rfl⟩
theorem xk {α:Type}{e:Enc α}{xs:List α}{k:Nat}(hk:k≤xs.length):dH (Row s e xs::H) (Row (s.cut e.sz 0 k) e (xs.take k)::H):=λL hL=>by
 obtain⟨L1,L2,rfl,h1,h2⟩:=hL;refine⟨L1++L2, [],⟨L1,L2,rfl,?_,h2⟩,aq⟩;rcases h1 with⟨rfl,rfl,rfl⟩|⟨b,C,E,fz,a,q2,q3,rfl,f,d,c⟩
 ·obtain rfl:k=0:=by simpa using hk
  exact .inl ⟨rfl,rfl,rfl⟩
 ·refine .inr ⟨b,C,E,fz,?_,?_,?_,rfl,?_,d,λj v hv=>c j v ?_⟩
  ·show(if s.c=0 then s.a else s.a.map (·.add (0*e.sz)))=_
   split
   ·exact a
   ·rw[a];simp[Addr.add]
  ·show k-0=(xs.take k).length;rw[Yg];omega
  ·show k-0≤s.c-0;omega
  ·show C.size=(s.c-0)*e.sz;rw[R8];exact f
  ·rw[Enc.all_take,X3]at hv
   split at hv
   ·exact hv
   ·cases hv
theorem JN {x:MX}{y:MY} [hr:Rem H Mo m (x,y) R] (h0:0<y.stk.length) (hl:y.stk.length≤1000000000):SC G prog 73 [pA m] H (λv H'=>v=.agg #[.bool (eX y.stk).1,uN ((eX y.stk).2)]∧H'=Mo m (x,{y with stk:=y.stk.dropLast})::R):=by
 refine qQ hr (λs=>?_);refine sWk func73 ?_;refine gk (k:=alc (k:=λb2=>?_));refine go ?_;refine d1_ rfl (Ry (x:=x) (y:=y) (s:=s) h0 hl) (alc (k:=λb3=>?_));refine go ?_;refine wD [14] (λk H=>(k=4→dQ H m (mV x s y))∧(k=8→dQ H m (mV x s y))∧(k=9→Sl H s eVV y.stk)∧(k=11→Sl H s eVV y.stk)) (aF 0 (k:=aF 1 (k:=aF 2 (k:=aF 3 (k:=?_)))));refine aN 4 rfl (λH hH=>ah) ?_;refine aF 5 (k:=aF 6 (k:=aF 7 (k:=?_)));refine aN 8 rfl (λH hH=>ar) ?_;refine aN 9 rfl (λH hH=>by have hN:=hH.2.2.1 rfl;exact lnn) ?_;refine aF 10 (k:=?_);refine aN 11 rfl (λH hH=>by have hN:=hH.2.2.2 rfl;exact fV rfl bH 0 (y.stk.length-1) rfl ⟨_,_,rfl,a8⟩ a8 a8) (go ?_);refine aS 14 rfl (ej rfl rfl rfl) ?_;rintro _ _ ⟨rfl,rfl⟩;refine aZ (gR ?_);refine⟨_,?_,rfl,rfl⟩;refine dH.trans (H':=Row s eVV y.stk::Vr m (mV x (s.cut 2 0 (y.stk.length-1)) y)::R) hsb ((xk (k:=y.stk.length-1) a8).trans ?_);rw[←List.dropLast_eq_take];exact dH.trans hsb (mc (x:=x) (y:={y with stk:=y.stk.dropLast}) (s:=s.cut 2 0 (y.stk.length-1)))
theorem QC {x:MX}{y:MY}{a:Bool}{op A B:Nat} [hr:Rem H Mo m (x,y) R] (hA:A≤1000000000) (hp:y.pc≤1000000000):SC G prog 78 [pA m,.bool a,.agg #[iN op,uN A,uN B]] H (λv c=>v=.tuple #[]∧c=Mo m (x,{y with pc:=if a=true then y.pc+A else y.pc})::R):=by
 refine qQ hr (λs=>?_);refine sWk func78 ?_;refine gk (k:=bxx (k:=λb=>?_));refine gW (λh1=>?_) λh1=>?_
 ·have hy:a=true:=h1;refine wD [10] (λk H=>(k=3→dQ H m (mV x s y))∧(k=5→dQ H b [iN op,uN A,uN B])) (aF 0 (k:=aF 1 (k:=aF 2 (k:=?_))));refine aN 3 rfl (λH hH=>ah) ?_;refine aF 4 (k:=?_);refine aN 5 rfl (λH hH=>aM) ?_;refine aN 6 rfl (λH hH=>ew rfl a8) (go ?_);refine aS 10 rfl (ej rfl rfl rfl) ?_;rintro _ _ ⟨rfl,rfl⟩;refine aZ (rT (k:=?_));rw[if_pos hy];exact⟨_,dH.trans hsb (mc (x:=x) (y:={y with pc:=y.pc+A}) (s:=s)),rfl,rfl⟩
 have hy:¬a=true:=bg;refine gR ?_;rw[if_neg hy];exact⟨_,dH.trans hsb (mc (x:=x) (y:=y) (s:=s)),rfl,rfl⟩
theorem Zo {x:MX}{y:MY}{op A B:Nat} [hr:Rem H Mo m (x,y) R] (h0:0<y.stk.length) (hl:y.stk.length≤1000000000):SC G prog 75 [pA m,.agg #[iN op,uN A,uN B]] H (λv e=>v=.tuple #[]∧e=Mo m (x,{y with stk:=qy y.stk λa=>if a.1=true then(true,w64 (A*262144))else(false,0)})::R):=by
 have hdl:y.stk.dropLast.length≤1000000000:=bG;refine sWk func75 ?_;refine gk (k:=bxx (k:=λb3=>?_));refine go ?_;refine d1_ rfl (JN h0 hl) ?_;refine e_ (jz (ft:=4) (off:=0) underlying128 rfl rfl rfl) ?_;refine gW (λh1=>?_) λh1=>?_
 ·have d:(eX y.stk).1=true:=h1;have c:y.stk.dropLast++ [(true,A*262144%18446744073709551616)]=qy y.stk λa=>if a.1=true then(true,w64 (A*262144))else(false,0):=by rw[qy,if_pos d];all_goals rfl
  refine wr_ (e_ mv (e_ fla (e_ ldv ?_)));refine e_ (nZ 18446744073709551616 rfl rfl rfl rfl _ 262144 rfl rfl) ?_;refine e_ (bld [(0,_),(1,_)]) ?_;refine d2_ rfl (qG hdl) (gR ?_);rw[←c];exact⟨_,hsb,rfl,rfl⟩
 have d:¬(eX y.stk).1=true:=bg;have c:y.stk.dropLast++ [(false,0)]=qy y.stk λa=>if a.1=true then(true,w64 (A*262144))else(false,0):=by rw[qy,if_neg d]
 refine wr_ (e_ mv (e_ (bld []) ?_));refine d2_ rfl (qG (a:=false) (b:=0) hdl) (gR ?_);rw[←c];exact⟨_,hsb,rfl,rfl⟩
end
section
variable {a b:VV}
abbrev vvV (a:VV):Value:=.agg [.bool a.1,.int .u64 ((a.2:Nat):Int)].toArray
abbrev oN (op A B:Nat):Value:=.agg [.int .i64 ((op:Nat):Int),.int .u64 ((A:Nat):Int),.int .u64 ((B:Nat):Int)].toArray
theorem tF4 {G:dJ}{H:dD}:SC G prog 63 [vvV a,vvV b] H (λv c=>v=.tuple #[.bool ((a.1&&b.1,w64 (a.2+b.2)):VV).1,.int .u64 ((((a.1&&b.1,w64 (a.2+b.2)):VV).2:Nat):Int)]∧c=H):=by
 refine sWk func63 ?_;refine gk (k:=bxx (k:=λb2=>?_));refine bxx (k:=λb3=>?_);refine go ?_;refine dX dN (as_ 0 (q:=fla) (k:=as_ 1 (q:=ldv) (k:=?_)));refine fH 2 rfl rfl aa rfl (ey mv) (λh1=>?_) (λh1=>?_)
 ·replace h1:=nrm h1;refine at2 3 (q:=fla) (k:=at2 4 (q:=ldv) (k:=as_ 5 (q:=pkt) (k:=as_ 6 (q:=fla) (k:=as_ 7 (q:=ldv) (k:=as_ 8 (q:=fla) (k:=as_ 9 (q:=ldv) (k:=?_)))))));refine dS 10 rfl rfl aa rfl (ey ((ay))) ?_;refine gR ?_;exact⟨_,hsb,by(cases ha:a.1 <;> simp_all [jt,w64]),rfl⟩
 replace h1:=nrm h1;refine ao_ 3 (k:=ao_ 4 (k:=as_ 5 (q:=pkf) (k:=as_ 6 (q:=fla) (k:=as_ 7 (q:=ldv) (k:=as_ 8 (q:=fla) (k:=as_ 9 (q:=ldv) (k:=?_)))))));refine dS 10 rfl rfl aa rfl (ey ((ay))) ?_;refine gR ?_;exact⟨_,hsb,by(cases ha:a.1 <;> simp_all [jt,w64]),rfl⟩
theorem tF5 {G:dJ}{H:dD}:SC G prog 65 [vvV a,vvV b] H (λv c=>v=.tuple #[.bool ((a.1 ||b.1,w64 (a.2+b.2)):VV).1,.int .u64 ((((a.1 ||b.1,w64 (a.2+b.2)):VV).2:Nat):Int)]∧c=H):=by
 refine sWk func65 ?_;refine gk (k:=bxx (k:=λb2=>?_));refine bxx (k:=λb3=>?_);refine go ?_;refine dX dN (as_ 0 (q:=fla) (k:=as_ 1 (q:=ldv) (k:=?_)));refine fH 2 rfl rfl aa rfl (ey mv) (λh1=>?_) (λh1=>?_)
 ·replace h1:=nrm h1;refine ao_ 3 (k:=ao_ 4 (k:=as_ 5 (q:=pkt) (k:=as_ 6 (q:=fla) (k:=as_ 7 (q:=ldv) (k:=as_ 8 (q:=fla) (k:=as_ 9 (q:=ldv) (k:=?_)))))));refine dS 10 rfl rfl aa rfl (ey ((ay))) ?_;refine gR ?_;exact⟨_,hsb,by(cases ha:a.1 <;> simp_all [jt,w64]),rfl⟩
 replace h1:=nrm h1;refine at2 3 (q:=fla) (k:=at2 4 (q:=ldv) (k:=as_ 5 (q:=pkf) (k:=as_ 6 (q:=fla) (k:=as_ 7 (q:=ldv) (k:=as_ 8 (q:=fla) (k:=as_ 9 (q:=ldv) (k:=?_)))))));refine dS 10 rfl rfl aa rfl (ey ((ay))) ?_;refine gR ?_;exact⟨_,hsb,by(cases ha:a.1 <;> simp_all [jt,w64]),rfl⟩
theorem tF6 {G:dJ}{H:dD}:SC G prog 67 [vvV a,vvV b] H (λv c=>v=.tuple #[.bool ((a.1 ||b.1,max a.2 b.2):VV).1,.int .u64 ((((a.1 ||b.1,max a.2 b.2):VV).2:Nat):Int)]∧c=H):=by
 refine sWk func67 ?_;refine gk (k:=bxx (k:=λb2=>?_));refine bxx (k:=λb3=>?_);refine go ?_;refine dX dN (as_ 0 (q:=fla) (k:=as_ 1 (q:=ldv) (k:=?_)));refine fH 2 rfl rfl aa rfl (ey mv) (λh1=>?_) (λh1=>?_)
 ·replace h1:=nrm h1;refine ao_ 3 (k:=ao_ 4 (k:=as_ 5 (q:=pkt) (k:=as_ 6 (q:=fla) (k:=as_ 7 (q:=ldv) (k:=as_ 8 (q:=fla) (k:=as_ 9 (q:=ldv) (k:=?_)))))));refine dS 10 rfl rfl aa rfl (ey (evq (nw rfl rfl) (congrArg (Value.int .u64) (show _=((max a.2 b.2:Nat):Int)from a8)))) ?_;refine gR ?_;exact⟨_,hsb,by(cases ha:a.1 <;> simp_all [jt,w64]),rfl⟩
 replace h1:=nrm h1;refine at2 3 (q:=fla) (k:=at2 4 (q:=ldv) (k:=as_ 5 (q:=pkf) (k:=as_ 6 (q:=fla) (k:=as_ 7 (q:=ldv) (k:=as_ 8 (q:=fla) (k:=as_ 9 (q:=ldv) (k:=?_)))))));refine dS 10 rfl rfl aa rfl (ey (evq (nw rfl rfl) (congrArg (Value.int .u64) (show _=((max a.2 b.2:Nat):Int)from a8)))) ?_;refine gR ?_;exact⟨_,hsb,by(cases ha:a.1 <;> simp_all [jt,w64]),rfl⟩
theorem tF7 {G:dJ}{H:dD}:SC G prog 69 [vvV a,vvV b] H (λv c=>v=.tuple #[.bool ((a.1,w64 (a.2+b.2)):VV).1,.int .u64 ((((a.1,w64 (a.2+b.2)):VV).2:Nat):Int)]∧c=H):=by
 refine sWk func69 ?_;refine gk (k:=bxx (k:=λb2=>?_));refine bxx (k:=λb3=>?_);refine go ?_;refine dX dN (as_ 0 (q:=fla) (k:=as_ 1 (q:=ldv) (k:=as_ 2 (q:=fla) (k:=as_ 3 (q:=ldv) (k:=as_ 4 (q:=fla) (k:=as_ 5 (q:=ldv) (k:=?_)))))));refine dS 6 rfl rfl aa rfl (ey ((ay))) ?_;exact gZ
theorem tF8 {G:dJ}{H:dD}:SC G prog 71 [vvV a,vvV b] H (λv c=>v=.tuple #[.bool ((a.1&&!b.1,a.2):VV).1,.int .u64 ((((a.1&&!b.1,a.2):VV).2:Nat):Int)]∧c=H):=by
 refine sWk func71 ?_;refine gk (k:=bxx (k:=λb2=>?_));refine bxx (k:=λb3=>?_);refine go ?_;refine dX dN (as_ 0 (q:=fla) (k:=as_ 1 (q:=ldv) (k:=?_)));refine fH 2 rfl rfl aa rfl (ey mv) (λh1=>?_) (λh1=>?_)
 ·replace h1:=nrm h1;refine gR ?_;exact⟨_,hsb,by(cases ha:a.1 <;> simp_all [jt,w64]),rfl⟩
 replace h1:=nrm h1;refine gR ?_;exact⟨_,hsb,by(cases ha:a.1 <;> simp_all [jt,w64]),rfl⟩
theorem JJ {G:dJ}{H R:dD}{m g:Nat}{x:MX}{y:MY}{f:VV→VV→VV} [hr:Rem H Mo m (x,y) R] (hf:∀(H:dD) (a b:VV),SC G prog g [vvV a,vvV b] H (λv h=>v=.tuple #[.bool (f a b).1,uN ((f a b).2)]∧h=H)) (h2:2≤y.stk.length) (hl:y.stk.length≤1000000000):SC G prog 62 [pA m,.func (.func g) #[] #[]] H (λv h=>v=.tuple #[]∧h=Mo m (x,{y with stk:=mi y.stk f})::R):=by
 have e:y.stk.dropLast.length=y.stk.length-1:=X1;have hd2:y.stk.dropLast.dropLast.length=y.stk.length-2:=by rw[X1,e];omega
 refine sWk func62 ?_;refine go ?_;refine d1_ rfl (JN a8 hl) (alc (k:=λb4=>?_));refine go ?_;refine d1_ rfl (JN (y:={y with stk:=y.stk.dropLast}) (by show 0<y.stk.dropLast.length;omega) (by show y.stk.dropLast.length≤_;omega)) (alc (k:=λb5=>?_));refine go ?_;refine s_ (qM (fi:= []) (ca:= []) (vs:= [_,_]) rfl rfl (hf _ (eX y.stk.dropLast) (eX y.stk))) ?_;rintro _ _ ⟨rfl,rfl⟩;refine go ?_;refine wi_ (k:=λh1=>?_) (m:=λh1=>?_)
 ·have d:¬(f (eX y.stk.dropLast) (eX y.stk)).1=true:=by have h9:=h1;simpa using h9
  have c:y.stk.dropLast.dropLast++ [((f (eX y.stk.dropLast) (eX y.stk)).1,0)]=mi y.stk f:=by rw[mi];simp only[if_neg d]
  refine wr_ (e_ asn (on_ (qn_ (wr_ (e_ mv (e_ mv (e_ mv (e_ (bld [(0,_),(1,_)]) ?_))))))));refine d2_ rfl (qG (y:={y with stk:=y.stk.dropLast.dropLast}) (by show y.stk.dropLast.dropLast.length≤_;omega)) (gR ?_);rw[←c];exact⟨_,hsb,rfl,rfl⟩
 have d:(f (eX y.stk.dropLast) (eX y.stk)).1=true:=bg;have c:y.stk.dropLast.dropLast++ [((f (eX y.stk.dropLast) (eX y.stk)).1,(f (eX y.stk.dropLast) (eX y.stk)).2)]=mi y.stk f:=by rw[mi];simp only[if_pos d]
 refine wk_ (qn_ (wr_ (e_ mv (e_ mv (e_ mv (e_ (bld [(0,_),(1,_)]) ?_))))));refine d2_ rfl (qG (y:={y with stk:=y.stk.dropLast.dropLast}) (by show y.stk.dropLast.dropLast.length≤_;omega)) (gR ?_);rw[←c];exact⟨_,hsb,rfl,rfl⟩
theorem QB {G:dJ}{H R:dD}{m:Nat}{x:MX}{y:MY} [hr:Rem H Mo m (x,y) R] (h0:0<y.stk.length) (hl:y.stk.length≤1000000000):SC G prog 79 [pA m] H (λv a=>v=vvV (eX y.stk)∧a=Mo m (x,y)::R):=
 qQ hr (λs=>SC.out ((Ry (x:=x) (y:=y) (s:=s) h0 hl).mono (λv a h=>⟨_,by rw[h.2];exact mc,h.1,rfl⟩)))
theorem tO1 {G:dJ}{H:dD}{m op A B:Nat}:SC G prog 54 [pA m,oN op A B] H (λv a=>v=.tuple #[]∧a=H):=by
 refine sWk func54 ?_;refine gk (k:=bxx (k:=λb3=>?_));exact gZ
section
variable {G:dJ}{H R:dD}{m op A B:Nat}{x:MX}{y:MY}
theorem tO2 [hr:Rem H Mo m (x,y) R] (hl:y.stk.length≤1000000000):SC G prog 55 [pA m,oN op A B] H (λv c=>v=.tuple #[]∧c=Mo m (x,{y with stk:=y.stk++ [(false,0)]})::R):=by
 refine sWk func55 ?_;refine gk (k:=bxx (k:=λb3=>?_));refine on_ (qn_ (wr_ (e_ mv (e_ (bld []) ?_))));refine d2_ rfl (qG (a:=false) (b:=0) hl) (gR ?_);exact⟨_,hsb,rfl,rfl⟩
theorem tO3 [hr:Rem H Mo m (x,y) R] (hl:y.stk.length≤1000000000):SC G prog 57 [pA m,oN op A B] H (λv c=>v=.tuple #[]∧c=Mo m (x,{y with stk:=y.stk++ [(true,262144)]})::R):=by
 refine sWk func57 ?_;refine gk (k:=bxx (k:=λb3=>?_));refine on_ (qn_ (wr_ (e_ mv (e_ (bld [(0,_),(1,_)]) ?_))));refine d2_ rfl (qG (a:=true) (b:=262144) hl) (gR ?_);exact⟨_,hsb,rfl,rfl⟩
theorem tO6 [hr:Rem H Mo m (x,y) R] (h2:2≤y.stk.length) (hl:y.stk.length≤1000000000):SC G prog 61 [pA m,oN op A B] H (λv c=>v=.tuple #[]∧c=Mo m (x,{y with stk:=mi y.stk λa b=>(a.1&&b.1,w64 (a.2+b.2))})::R):=by
 refine sWk func61 ?_;refine gk (k:=bxx (k:=λb3=>?_));refine go ?_;refine d2_ rfl (JJ (f:=λa b=>(a.1&&b.1,w64 (a.2+b.2))) (λH a b=>tF4) h2 hl) (gR ?_);exact⟨_,hsb,rfl,rfl⟩
theorem tO7 [hr:Rem H Mo m (x,y) R] (h2:2≤y.stk.length) (hl:y.stk.length≤1000000000):SC G prog 64 [pA m,oN op A B] H (λv c=>v=.tuple #[]∧c=Mo m (x,{y with stk:=mi y.stk λa b=>(a.1 ||b.1,w64 (a.2+b.2))})::R):=by
 refine sWk func64 ?_;refine gk (k:=bxx (k:=λb3=>?_));refine go ?_;refine d2_ rfl (JJ (f:=λa b=>(a.1 ||b.1,w64 (a.2+b.2))) (λH a b=>tF5) h2 hl) (gR ?_);exact⟨_,hsb,rfl,rfl⟩
theorem tO8 [hr:Rem H Mo m (x,y) R] (h2:2≤y.stk.length) (hl:y.stk.length≤1000000000):SC G prog 66 [pA m,oN op A B] H (λv c=>v=.tuple #[]∧c=Mo m (x,{y with stk:=mi y.stk λa b=>(a.1 ||b.1,max a.2 b.2)})::R):=by
 refine sWk func66 ?_;refine gk (k:=bxx (k:=λb3=>?_));refine go ?_;refine d2_ rfl (JJ (f:=λa b=>(a.1 ||b.1,max a.2 b.2)) (λH a b=>tF6) h2 hl) (gR ?_);exact⟨_,hsb,rfl,rfl⟩
theorem tO9 [hr:Rem H Mo m (x,y) R] (h2:2≤y.stk.length) (hl:y.stk.length≤1000000000):SC G prog 68 [pA m,oN op A B] H (λv c=>v=.tuple #[]∧c=Mo m (x,{y with stk:=mi y.stk λa b=>(a.1,w64 (a.2+b.2))})::R):=by
 refine sWk func68 ?_;refine gk (k:=bxx (k:=λb3=>?_));refine go ?_;refine d2_ rfl (JJ (f:=λa b=>(a.1,w64 (a.2+b.2))) (λH a b=>tF7) h2 hl) (gR ?_);exact⟨_,hsb,rfl,rfl⟩
theorem Zm [hr:Rem H Mo m (x,y) R] (h2:2≤y.stk.length) (hl:y.stk.length≤1000000000):SC G prog 70 [pA m,oN op A B] H (λv c=>v=.tuple #[]∧c=Mo m (x,{y with stk:=mi y.stk λa b=>(a.1&&!b.1,a.2)})::R):=by
 refine sWk func70 ?_;refine gk (k:=bxx (k:=λb3=>?_));refine go ?_;refine d2_ rfl (JJ (f:=λa b=>(a.1&&!b.1,a.2)) (λH a b=>tF8) h2 hl) (gR ?_);exact⟨_,hsb,rfl,rfl⟩
theorem Zl [hr:Rem H Mo m (x,y) R] (h0:0<y.stk.length) (hl:y.stk.length≤1000000000):SC G prog 72 [pA m,oN op A B] H (λv c=>v=.tuple #[]∧c=Mo m (x,{y with stk:=qy y.stk λa=>(!a.1,0)})::R):=by
 have hdl:y.stk.dropLast.length≤1000000000:=bG;refine sWk func72 ?_;refine gk (k:=bxx (k:=λb3=>?_));refine go ?_;refine d1_ rfl (JN h0 hl) ?_;refine e_ (jz (ft:=4) (off:=0) underlying128 rfl rfl rfl) ?_;refine e_ mN (e_ (bld [(0,_),(1,_)]) ?_);refine d2_ rfl (qG (y:={y with stk:=y.stk.dropLast}) (b:=0) hdl) (gR ?_);rw[←show y.stk.dropLast++ [(!(eX y.stk).1,0)]=qy y.stk (λa=>(!a.1,0))from rfl];exact⟨_,hsb,rfl,rfl⟩
theorem Zk [hr:Rem H Mo m (x,y) R] (h0:0<y.stk.length) (hl:y.stk.length≤1000000000):SC G prog 74 [pA m,oN op A B] H (λv c=>v=.tuple #[]∧c=Mo m (x,{y with stk:=qy y.stk λa=>(a.1,w64 (a.2*A))})::R):=by
 have hdl:y.stk.dropLast.length≤1000000000:=bG;refine sWk func74 ?_;refine gk (k:=bxx (k:=λb3=>?_));refine go ?_;refine d1_ rfl (JN h0 hl) (alc (k:=λb4=>?_));refine sto (k:=on_ (qn_ (wr_ (e_ mv (e_ fla (e_ ldv (e_ fla (e_ ldv (e_ fla (e_ ldv ?_))))))))));refine e_ (nZ 18446744073709551616 rfl rfl rfl rfl _ _ rfl rfl) ?_;refine e_ (bld [(0,_),(1,_)]) ?_;refine d2_ rfl (qG (y:={y with stk:=y.stk.dropLast}) (b:=w64 ((eX y.stk).2*A)) hdl) (gR ?_);rw[←show y.stk.dropLast++ [((eX y.stk).1,w64 ((eX y.stk).2*A))]=qy y.stk (λa=>(a.1,w64 (a.2*A)))from rfl];exact⟨_,hsb,rfl,rfl⟩
theorem Zj [hr:Rem H Mo m (x,y) R] (h0:0<y.stk.length) (hl:y.stk.length≤1000000000) (hA:A≤1000000000) (hp:y.pc≤1000000000):SC G prog 77 [.pointer (some ⟨m,0,none⟩),oN op A B] H (λv H'=>v=.tuple #[]∧H'=Mo m (x,{y with pc:=if(eX y.stk).1=true then y.pc else y.pc+A})::R):=by
 refine sWk func77 ?_
 refine ws_ (wr_ (bxx (k:=λb3=>?_)))
 refine on_ (qn_ (?_))
 refine Rs dN (λi=>[2,6].contains i) (λk H=>(k=5→dQ H b3 [.int .i64 ((op:Nat):Int),.int .u64 ((A:Nat):Int),.int .u64 ((B:Nat):Int)])) (af_ 0 (q:=ea λH hH=>mv) (k:=af_ 1 (q:=ea λH hH=>mv) (k:=?_)))
 refine dS 5 rfl rfl (aa) rfl (ea λH hH=>by have hN:=hH rfl;exact lds) (?_)
 refine kg 2 rfl (aa) rfl (λk hk=>λhi=>bm) (lU (vs:= [_]) rfl (QB h0 hl)) ?_
 rintro _ _ ⟨rfl,rfl⟩
 refine dS 3 rfl rfl (aa) rfl (ea λH hH=>jz (ft:=4) (off:=0) underlying128 rfl rfl rfl) (?_)
 refine af_ 4 (q:=ea λH hH=>mN) (k:=?_)
 refine kg 6 rfl (aa) rfl (λk hk=>λhi=>bm) (lU (vs:= [_,_,_]) rfl (QC hA hp)) ?_
 rintro _ _ ⟨rfl,rfl⟩
 refine FF (aa) (λk hk=>λhi=>absurd hk (aB)) (rt_ results77 (k:=?_))
 have hst:(if(!(eX y.stk).1)=true then y.pc+A else y.pc)=(if(eX y.stk).1=true then y.pc else y.pc+A):=by cases(eX y.stk).1 <;> rfl
 rw[←hst];exact⟨_,hsb,rfl,rfl⟩
theorem Zi [hr:Rem H Mo m (x,y) R] (h0:0<y.stk.length) (hl:y.stk.length≤1000000000) (hA:A≤1000000000) (hp:y.pc≤1000000000):SC G prog 80 [.pointer (some ⟨m,0,none⟩),oN op A B] H (λv H'=>v=.tuple #[]∧H'=Mo m (x,{y with pc:=if(eX y.stk).1=true then y.pc+A else y.pc})::R):=by
 refine sWk func80 ?_
 refine gk (k:=bxx (k:=λb3=>?_))
 refine go ?_
 refine Rs dN (λi=>[2,5].contains i) (λk H=>(k=4→dQ H b3 [.int .i64 ((op:Nat):Int),.int .u64 ((A:Nat):Int),.int .u64 ((B:Nat):Int)])) (af_ 0 (q:=ea λH hH=>mv) (k:=af_ 1 (q:=ea λH hH=>mv) (k:=?_)))
 refine dS 4 rfl rfl (aa) rfl (ea λH hH=>by have hN:=hH rfl;exact lds) (?_)
 refine kg 2 rfl (aa) rfl (λk hk=>λhi=>bm) (lU (vs:= [_]) rfl (QB h0 hl)) ?_
 rintro _ _ ⟨rfl,rfl⟩
 refine dS 3 rfl rfl (aa) rfl (ea λH hH=>jz (ft:=4) (off:=0) underlying128 rfl rfl rfl) (?_)
 refine kg 5 rfl (aa) rfl (λk hk=>λhi=>bm) (lU (vs:= [_,_,_]) rfl (QC hA hp)) ?_
 rintro _ _ ⟨rfl,rfl⟩
 refine FF (aa) (λk hk=>λhi=>absurd hk (aB)) (rt_ results80 (k:=?_))
 exact⟨_,hsb,rfl,rfl⟩
end
end
end Go.Sx
