import Derived.Test.YtcbidldebfibkaaGreatDoorQ22
set_option linter.unusedVariables false
set_option linter.unusedSimpArgs false
set_option linter.unusedSectionVars false
set_option linter.unnecessarySimpa false
set_option maxHeartbeats 0
namespace Go.Sx
open Go Go.Proofs
set_option maxRecDepth 100000
def dG (n:Nat):Nat:=if n=0 then 0 else Nat.log2 n+1
theorem oJ (n:Nat):n<2 ^ dG n:=by
 rw[dG];split
 ·omega
 ·exact Nat.lt_log2_self
theorem rH {n:Nat}(h:n≠0):2 ^ (dG n - 1)≤n:=by
 rw[dG,if_neg h,Nat.add_sub_cancel];exact Nat.log2_self_le h
theorem D5 {n k:Nat}(h1:2 ^ k≤n) (h2:n<2 ^ (k+1)):dG n=k+1:=by
 have h0:n≠0:=by have:=Nat.two_pow_pos k;omega
 rw[dG,if_neg h0]
 have h3:Nat.log2 n<k+1:=(Nat.log2_lt h0).2 h2
 have h4:¬Nat.log2 n<k:=fun h=> by have:=(Nat.log2_lt h0).1 h;omega
 omega
theorem eu (n k:Nat) (h:2 ^ k≤n):dG n=dG (n / 2 ^ k)+k:=by
 have hp:=Nat.two_pow_pos k
 have h0:n / 2 ^ k≠0:=by
  have:=Nat.div_pos h hp;omega
 obtain⟨m,hm⟩:∃m,dG (n / 2 ^ k)=m+1:=⟨Nat.log2 (n / 2 ^ k),by rw[dG,if_neg h0]⟩
 have h1:=rH h0
 have h2:=oJ (n / 2 ^ k)
 rw[hm]at h1 h2⊢
 rw[Nat.add_sub_cancel]at h1
 rw[show m+1+k=(m+k)+1 from a8]
 apply D5
 ·rw[Nat.pow_add];exact(Nat.le_div_iff_mul_le hp).1 h1
 ·rw[show m+k+1=(m+1)+k from a8,Nat.pow_add];exact(Nat.div_lt_iff_lt_mul hp).1 h2
def A0:ByteArray:=⟨#[0,1,2,2,3,3,3,3,4,4,4,4,4,4,4,4,5,5,5,5,5,5,5,5,5,5,5,5,5,5,5,5,6,6,6,6,6,6,6,6,6,6,6,6,6,6,6,6,6,6,6,6,6,6,6,6,6,6,6,6,6,6,6,6,7,7,7,7,7,7,7,7,7,7,7,7,7,7,7,7,7,7,7,7,7,7,7,7,7,7,7,7,7,7,7,7,7,7,7,7,7,7,7,7,7,7,7,7,7,7,7,7,7,7,7,7,7,7,7,7,7,7,7,7,7,7,7,7,8,8,8,8,8,8,8,8,8,8,8,8,8,8,8,8,8,8,8,8,8,8,8,8,8,8,8,8,8,8,8,8,8,8,8,8,8,8,8,8,8,8,8,8,8,8,8,8,8,8,8,8,8,8,8,8,8,8,8,8,8,8,8,8,8,8,8,8,8,8,8,8,8,8,8,8,8,8,8,8,8,8,8,8,8,8,8,8,8,8,8,8,8,8,8,8,8,8,8,8,8,8,8,8,8,8,8,8,8,8,8,8,8,8,8,8,8,8,8,8,8,8,8,8,8,8,8,8]⟩
theorem GP:∀i:Fin 256,at0 (cF A0) i.val=dG i.val:=an
theorem nI {i:Nat}(h:i<256):at0 (cF A0) i=dG i:=GP ⟨i,h⟩
theorem bl8 (n:Nat) (h:n<256):dG n≤8:=by
 by_cases h0:n=0
 ·subst h0;decide
 ·have h1:=rH h0
  rcases Nat.lt_or_ge 8 (dG n)with h2|h2
  ·exfalso
   have h3:2 ^ 8≤2 ^ (dG n - 1):=Nat.pow_le_pow_right (ag) (a8)
   omega
  ·exact h2
theorem yq:A0.size=256:=rfl
theorem JL {G:cM}{H:cG}{x:Nat}(hx:x<18446744073709551616):SC G Tryz.prog 203 [.int .u64 (x:Int)] H (fun v H'=> v= .int .i64 ((dG x:Nat):Int)∧H'=H):=by
 have hsz:=yq
 refine sWk Tryz.func203 Tryz.ntmps203 ?_
 refine gk (k:=wi_ (k:=fun h1=>?_) (m:=fun h1=>?_))
 ·have hs1:=eu x 32 (a8)
  refine ws_ (wr_ (e_ mv (k:=?_)))
  refine e_ (ei rfl rfl _ 32 rfl rfl (aM)) (k:=?_)
  refine go ?_
  refine wi_ (k:=fun h2=>?_) (m:=fun h2=>?_)
  ·first|have hs2:=eu (x / 2 ^ 32) 16 (a8)|have hs2:=eu x 16 (a8)
   refine ws_ (wr_ (e_ mv (k:=?_)))
   refine e_ (ei rfl rfl _ 16 rfl rfl (aM)) (k:=?_)
   refine go ?_
   refine gk (k:=wi_ (k:=fun h3=>?_) (m:=fun h3=>?_))
   ·first|have hs3:=eu (x / 2 ^ 32 / 2 ^ 16) 8 (a8)|have hs3:=eu (x / 2 ^ 32) 8 (a8)|have hs3:=eu (x / 2 ^ 16) 8 (a8)|have hs3:=eu x 8 (a8)
    refine ws_ (wr_ (e_ mv (k:=?_)))
    refine e_ (ei rfl rfl _ 8 rfl rfl (aM)) (k:=?_)
    refine e_ asn (k:=on_ (qn_ (wr_ (e_ mv (k:=e_ iad (k:=e_ asn (k:=on_ (qn_ (ws_ (wr_ (?_)))))))))))
    first|have hb8:=bl8 (x) (a8)|have hb8:=bl8 (x / 2 ^ 8) (a8)|have hb8:=bl8 (x / 2 ^ 16) (a8)|have hb8:=bl8 (x / 2 ^ 16 / 2 ^ 8) (a8)|have hb8:=bl8 (x / 2 ^ 32) (a8)|have hb8:=bl8 (x / 2 ^ 32 / 2 ^ 8) (a8)|have hb8:=bl8 (x / 2 ^ 32 / 2 ^ 16) (a8)|have hb8:=bl8 (x / 2 ^ 32 / 2 ^ 16 / 2 ^ 8) (a8)
    refine e_ mv (k:=e_ mv (k:=?_))
    refine e_ (cS 256 rfl rfl rfl _ rfl (a8)) (k:=?_)
    refine e_ (evq ixs (congrArg (fun n:Nat=> Value.int .u8 (n:Int)) (nI (a8)))) (k:=?_)
    refine e_ (dS rfl (a8)) (k:=?_)
    refine gk (k:=rt_ Tryz.results203 (k:=?_))
    exact⟨_,hsb,congrArg (Value.int .i64) (a8),rfl⟩
   refine wk_ (qn_ (ws_ (wr_ (?_))))
   first|have hb8:=bl8 (x) (a8)|have hb8:=bl8 (x / 2 ^ 8) (a8)|have hb8:=bl8 (x / 2 ^ 16) (a8)|have hb8:=bl8 (x / 2 ^ 16 / 2 ^ 8) (a8)|have hb8:=bl8 (x / 2 ^ 32) (a8)|have hb8:=bl8 (x / 2 ^ 32 / 2 ^ 8) (a8)|have hb8:=bl8 (x / 2 ^ 32 / 2 ^ 16) (a8)|have hb8:=bl8 (x / 2 ^ 32 / 2 ^ 16 / 2 ^ 8) (a8)
   refine e_ mv (k:=e_ mv (k:=?_))
   refine e_ (cS 256 rfl rfl rfl _ rfl (a8)) (k:=?_)
   refine e_ (evq ixs (congrArg (fun n:Nat=> Value.int .u8 (n:Int)) (nI (a8)))) (k:=?_)
   refine e_ (dS rfl (a8)) (k:=?_)
   refine gk (k:=rt_ Tryz.results203 (k:=?_))
   exact⟨_,hsb,congrArg (Value.int .i64) (a8),rfl⟩
  refine gk (k:=wi_ (k:=fun h4=>?_) (m:=fun h4=>?_))
  ·first|have hs3:=eu (x / 2 ^ 32 / 2 ^ 16) 8 (a8)|have hs3:=eu (x / 2 ^ 32) 8 (a8)|have hs3:=eu (x / 2 ^ 16) 8 (a8)|have hs3:=eu x 8 (a8)
   refine ws_ (wr_ (e_ mv (k:=?_)))
   refine e_ (ei rfl rfl _ 8 rfl rfl (aM)) (k:=?_)
   refine e_ asn (k:=on_ (qn_ (wr_ (e_ mv (k:=e_ iad (k:=e_ asn (k:=on_ (qn_ (ws_ (wr_ (?_)))))))))))
   first|have hb8:=bl8 (x) (a8)|have hb8:=bl8 (x / 2 ^ 8) (a8)|have hb8:=bl8 (x / 2 ^ 16) (a8)|have hb8:=bl8 (x / 2 ^ 16 / 2 ^ 8) (a8)|have hb8:=bl8 (x / 2 ^ 32) (a8)|have hb8:=bl8 (x / 2 ^ 32 / 2 ^ 8) (a8)|have hb8:=bl8 (x / 2 ^ 32 / 2 ^ 16) (a8)|have hb8:=bl8 (x / 2 ^ 32 / 2 ^ 16 / 2 ^ 8) (a8)
   refine e_ mv (k:=e_ mv (k:=?_))
   refine e_ (cS 256 rfl rfl rfl _ rfl (a8)) (k:=?_)
   refine e_ (evq ixs (congrArg (fun n:Nat=> Value.int .u8 (n:Int)) (nI (a8)))) (k:=?_)
   refine e_ (dS rfl (a8)) (k:=?_)
   refine gk (k:=rt_ Tryz.results203 (k:=?_))
   exact⟨_,hsb,congrArg (Value.int .i64) (a8),rfl⟩
  refine wk_ (qn_ (ws_ (wr_ (?_))))
  first|have hb8:=bl8 (x) (a8)|have hb8:=bl8 (x / 2 ^ 8) (a8)|have hb8:=bl8 (x / 2 ^ 16) (a8)|have hb8:=bl8 (x / 2 ^ 16 / 2 ^ 8) (a8)|have hb8:=bl8 (x / 2 ^ 32) (a8)|have hb8:=bl8 (x / 2 ^ 32 / 2 ^ 8) (a8)|have hb8:=bl8 (x / 2 ^ 32 / 2 ^ 16) (a8)|have hb8:=bl8 (x / 2 ^ 32 / 2 ^ 16 / 2 ^ 8) (a8)
  refine e_ mv (k:=e_ mv (k:=?_))
  refine e_ (cS 256 rfl rfl rfl _ rfl (a8)) (k:=?_)
  refine e_ (evq ixs (congrArg (fun n:Nat=> Value.int .u8 (n:Int)) (nI (a8)))) (k:=?_)
  refine e_ (dS rfl (a8)) (k:=?_)
  refine gk (k:=rt_ Tryz.results203 (k:=?_))
  exact⟨_,hsb,congrArg (Value.int .i64) (a8),rfl⟩
 refine gk (k:=wi_ (k:=fun h5=>?_) (m:=fun h5=>?_))
 ·first|have hs2:=eu (x / 2 ^ 32) 16 (a8)|have hs2:=eu x 16 (a8)
  refine ws_ (wr_ (e_ mv (k:=?_)))
  refine e_ (ei rfl rfl _ 16 rfl rfl (aM)) (k:=?_)
  refine go ?_
  refine gk (k:=wi_ (k:=fun h6=>?_) (m:=fun h6=>?_))
  ·first|have hs3:=eu (x / 2 ^ 32 / 2 ^ 16) 8 (a8)|have hs3:=eu (x / 2 ^ 32) 8 (a8)|have hs3:=eu (x / 2 ^ 16) 8 (a8)|have hs3:=eu x 8 (a8)
   refine ws_ (wr_ (e_ mv (k:=?_)))
   refine e_ (ei rfl rfl _ 8 rfl rfl (aM)) (k:=?_)
   refine e_ asn (k:=on_ (qn_ (wr_ (e_ mv (k:=e_ iad (k:=e_ asn (k:=on_ (qn_ (ws_ (wr_ (?_)))))))))))
   first|have hb8:=bl8 (x) (a8)|have hb8:=bl8 (x / 2 ^ 8) (a8)|have hb8:=bl8 (x / 2 ^ 16) (a8)|have hb8:=bl8 (x / 2 ^ 16 / 2 ^ 8) (a8)|have hb8:=bl8 (x / 2 ^ 32) (a8)|have hb8:=bl8 (x / 2 ^ 32 / 2 ^ 8) (a8)|have hb8:=bl8 (x / 2 ^ 32 / 2 ^ 16) (a8)|have hb8:=bl8 (x / 2 ^ 32 / 2 ^ 16 / 2 ^ 8) (a8)
   refine e_ mv (k:=e_ mv (k:=?_))
   refine e_ (cS 256 rfl rfl rfl _ rfl (a8)) (k:=?_)
   refine e_ (evq ixs (congrArg (fun n:Nat=> Value.int .u8 (n:Int)) (nI (a8)))) (k:=?_)
   refine e_ (dS rfl (a8)) (k:=?_)
   refine gk (k:=rt_ Tryz.results203 (k:=?_))
   exact⟨_,hsb,congrArg (Value.int .i64) (a8),rfl⟩
  refine wk_ (qn_ (ws_ (wr_ (?_))))
  first|have hb8:=bl8 (x) (a8)|have hb8:=bl8 (x / 2 ^ 8) (a8)|have hb8:=bl8 (x / 2 ^ 16) (a8)|have hb8:=bl8 (x / 2 ^ 16 / 2 ^ 8) (a8)|have hb8:=bl8 (x / 2 ^ 32) (a8)|have hb8:=bl8 (x / 2 ^ 32 / 2 ^ 8) (a8)|have hb8:=bl8 (x / 2 ^ 32 / 2 ^ 16) (a8)|have hb8:=bl8 (x / 2 ^ 32 / 2 ^ 16 / 2 ^ 8) (a8)
  refine e_ mv (k:=e_ mv (k:=?_))
  refine e_ (cS 256 rfl rfl rfl _ rfl (a8)) (k:=?_)
  refine e_ (evq ixs (congrArg (fun n:Nat=> Value.int .u8 (n:Int)) (nI (a8)))) (k:=?_)
  refine e_ (dS rfl (a8)) (k:=?_)
  refine gk (k:=rt_ Tryz.results203 (k:=?_))
  exact⟨_,hsb,congrArg (Value.int .i64) (a8),rfl⟩
 refine gk (k:=wi_ (k:=fun h7=>?_) (m:=fun h7=>?_))
 ·first|have hs3:=eu (x / 2 ^ 32 / 2 ^ 16) 8 (a8)|have hs3:=eu (x / 2 ^ 32) 8 (a8)|have hs3:=eu (x / 2 ^ 16) 8 (a8)|have hs3:=eu x 8 (a8)
  refine ws_ (wr_ (e_ mv (k:=?_)))
  refine e_ (ei rfl rfl _ 8 rfl rfl (aM)) (k:=?_)
  refine e_ asn (k:=on_ (qn_ (wr_ (e_ mv (k:=e_ iad (k:=e_ asn (k:=on_ (qn_ (ws_ (wr_ (?_)))))))))))
  first|have hb8:=bl8 (x) (a8)|have hb8:=bl8 (x / 2 ^ 8) (a8)|have hb8:=bl8 (x / 2 ^ 16) (a8)|have hb8:=bl8 (x / 2 ^ 16 / 2 ^ 8) (a8)|have hb8:=bl8 (x / 2 ^ 32) (a8)|have hb8:=bl8 (x / 2 ^ 32 / 2 ^ 8) (a8)|have hb8:=bl8 (x / 2 ^ 32 / 2 ^ 16) (a8)|have hb8:=bl8 (x / 2 ^ 32 / 2 ^ 16 / 2 ^ 8) (a8)
  refine e_ mv (k:=e_ mv (k:=?_))
  refine e_ (cS 256 rfl rfl rfl _ rfl (a8)) (k:=?_)
  refine e_ (evq ixs (congrArg (fun n:Nat=> Value.int .u8 (n:Int)) (nI (a8)))) (k:=?_)
  refine e_ (dS rfl (a8)) (k:=?_)
  refine gk (k:=rt_ Tryz.results203 (k:=?_))
  exact⟨_,hsb,congrArg (Value.int .i64) (a8),rfl⟩
 refine wk_ (qn_ (ws_ (wr_ (?_))))
 first|have hb8:=bl8 (x) (a8)|have hb8:=bl8 (x / 2 ^ 8) (a8)|have hb8:=bl8 (x / 2 ^ 16) (a8)|have hb8:=bl8 (x / 2 ^ 16 / 2 ^ 8) (a8)|have hb8:=bl8 (x / 2 ^ 32) (a8)|have hb8:=bl8 (x / 2 ^ 32 / 2 ^ 8) (a8)|have hb8:=bl8 (x / 2 ^ 32 / 2 ^ 16) (a8)|have hb8:=bl8 (x / 2 ^ 32 / 2 ^ 16 / 2 ^ 8) (a8)
 refine e_ mv (k:=e_ mv (k:=?_))
 refine e_ (cS 256 rfl rfl rfl _ rfl (a8)) (k:=?_)
 refine e_ (evq ixs (congrArg (fun n:Nat=> Value.int .u8 (n:Int)) (nI (a8)))) (k:=?_)
 refine e_ (dS rfl (a8)) (k:=?_)
 refine gk (k:=rt_ Tryz.results203 (k:=?_))
 exact⟨_,hsb,congrArg (Value.int .i64) (a8),rfl⟩
theorem MM {G:cM}{H:cG}{x:Nat}(hx:x<18446744073709551616):SC G Tryz.prog 181 [.int .u64 (x:Int)] H (fun v H'=> v= .int .i64 ((dG x:Nat):Int)∧H'=H):=by
 refine sWk Tryz.func181 Tryz.ntmps181 ?_
 refine gk (k:=dw (k:=go ?_))
 refine d1_ rfl (JL hx) (k:=gk (k:=rt_ Tryz.results181 (k:=?_)))
 exact⟨_,hsb,rfl,rfl⟩
theorem fi (n k:Nat):dG n≤k↔n<2 ^ k:=by
 constructor
 ·intro h
  exact Nat.lt_of_lt_of_le (oJ n) (Nat.pow_le_pow_right (ag) h)
 ·intro h
  by_cases h0:n=0
  ·subst h0;exact Yl _
  ·have h1:=rH h0
   rcases Nat.lt_or_ge k (dG n)with h2|h2
   ·exfalso
    have h3:2 ^ k≤2 ^ (dG n - 1):=Nat.pow_le_pow_right (ag) (a8)
    omega
   ·exact h2
theorem rG (a b:Nat):dG (a |||b)=max (dG a) (dG b):=by
 apply Nat.le_antisymm
 ·rw[fi]
  exact Nat.or_lt_two_pow ((fi _ _).1 (Nat.le_max_left _ _)) ((fi _ _).1 (Nat.le_max_right _ _))
 ·rw[Nat.max_le]
  constructor
  ·rw[fi];exact Nat.lt_of_le_of_lt Nat.left_le_or (oJ _)
  ·rw[fi];exact Nat.lt_of_le_of_lt Nat.right_le_or (oJ _)
def orL (ns:List Nat):Nat:=ns.foldl (fun a b=> a |||b) 0
theorem yh {ns:List Nat}{i x:Nat}(h:ns[i]? =some x):orL (ns.take (i+1))=orL (ns.take i) |||x:=by
 rw[orL,orL,List.take_add_one,h,List.foldl_append];all_goals rfl
theorem rj {k:Nat}:∀{ns:List Nat}{a:Nat},a<2 ^ k→(∀x∈ns,x<2 ^ k)→ns.foldl (fun a b=> a |||b) a<2 ^ k
 | [],a,ha,_=> ha
 |x::l,a,ha,h=> rj (ns:=l) (Nat.or_lt_two_pow ha (h x List.mem_cons_self)) fun y hy=> h y (Xa _ hy)
def dg (ns:List Nat):List Int:=ns.map fun n:Nat=> (n:Int)
theorem eE {ns:List Nat}{i x:Nat}(h:ns[i]? =some x):(dg ns)[i]? =some (x:Int):=by
 rw[dg,Xd,h];all_goals rfl
theorem dX (ns:List Nat):(dg ns).length=ns.length:=by simp[dg]
theorem Kc {G:cM}{H:cG}{s:SV}{ns:List Nat} [hs:Sl H s eI (dg ns)] (hm:ns.length≤1000000000) (hl:∀x∈ns,x<9223372036854775808):SC G Tryz.prog 133 [s.val] H (fun v H'=> v= .int .i64 ((dG (orL ns):Nat):Int)∧H'=H):=by
 have hlen:=dX ns
 refine sWk Tryz.func133 Tryz.ntmps133 ?_
 refine go ?_
 refine gk (k:=dn (Nat×Nat) (fun y=> y.1≤ns.length∧y.2=dG (orL (ns.take y.1))∧y.2≤63) (fun y=> [(3, .int .i64 ((y.2:Nat):Int)),(8, .int .i64 ((y.1:Nat):Int))]) [(6,_),(7,_)] (fun y=> []) _ (fun y=> ns.length - y.1) ((0,0)) (h0:=?_) (k:=?_))
 ·try dsimp only
  exact⟨Yl _,rfl,ag⟩
 rintro⟨i,w⟩ ⟨hi,hw,hw63⟩
 try dsimp only[Yd,Ye]at*
 refine gk (k:=wi_ (k:=fun h1=>?_) (m:=fun h1=>?_))
 ·obtain⟨x,hx⟩:∃x,ns[i]? =some x:=⟨_,Yi (a8)⟩
  have hxi:=eE hx
  have hx63:=hl x (Yj hx)
  have hb63:dG x≤63:=(fi _ _).2 hx63
  have hnw:dG (orL (ns.take (i+1)))=max w (dG x):=by rw[yh hx,rG,←hw]
  refine gk (k:=dn (Nat) (fun y=> w≤y∧y≤max w (dG x)) (fun y=> [(3, .int .i64 ((y:Nat):Int))]) [(5,_),(6,_),(7,_),(8,_)] (fun y=> []) _ (fun y=> 63 - y) (w) (h0:=?_) (k:=?_))
  ·try dsimp only
   exact⟨Nat.le_refl _,Nat.le_max_left _ _⟩
  rintro w2 ⟨h1w,h2w⟩
  try dsimp only[Yd,Ye]at*
  refine ws_ (ws_ (wr_ (?_)))
  have hw2:w2≤63:=a8
  refine e_ mv (k:=e_ ilt (k:=e_ mv (k:=cY 5 19 (k:=fun h2=>eg_ mv (k:=eg_ mv (k:=eg_ (ei rfl rfl x w2 rfl rfl (bS)) (k:=eg_ ine (k:=e_ pkt (k:=on_ (edq))))))) (q:=on_ (qn_ (wi_ (k:=fun h3=>?_) (m:=fun h3=>?_)))))))
  ·obtain⟨c1,c2⟩:=h3
   have hlt:w2<dG x:=by
    rcases Nat.lt_or_ge w2 (dG x)with h|h
    ·exact h
    ·exfalso;apply c2
     rw[Nat.div_eq_of_lt ((fi _ _).1 h)];all_goals rfl
   refine go ?_
   refine ln_ (w2+1) (k:=?_)
   try dsimp only
   omega
  have hge:dG x≤w2:=by
   rcases h3 with c|c
   ·omega
   ·rw[fi]
    have c2:x / 2 ^ w2=0:=a8
    exact(Nat.div_eq_zero_iff_lt (Nat.two_pow_pos _)).1 c2
  refine go ?_
  refine ln_ ((i+1,w2)) (k:=?_)
  try dsimp only
  exact⟨a8,by rw[hnw];omega,hw2⟩
 obtain rfl:i=ns.length:=a8
 rw[List.take_length]at hw
 refine gk (k:=rt_ Tryz.results133 (k:=?_))
 exact⟨_,hsb,by rw[hw];all_goals rfl,rfl⟩
section
variable {G:cM}{P:Program}{t:Tm}{H:cG}{dst:Option Tmp}{ty:TypeId}{pos:String}{after:Array Edge}{g:Option (Nat×Bool)}
theorem yD {T U:TypeId}{x y:Operand}{k':IntKind}{i j:Int}(hx:evo t x=some (.int .i64 i)) (hy:evo t y=some (.int k' j)) (a b:Nat) (ha:i=a) (hb:j=b) (hb2:b≤64) (hl:a*2 ^ b<9223372036854775808):
 Ev G P ⟨dst, .binOp .shl T x y U,ty,pos,after,g⟩ t H (.int .i64 ((a*2 ^ b:Nat):Int)):=
 fun ρ hρ w _=> by
  have e:IntKind.wrap .i64 ((a:Int)*2 ^ min b 64)=((a*2 ^ b:Nat):Int):=by
   rw[Nat.min_eq_left hb2,show((a:Int)*2 ^ b)=((a*2 ^ b:Nat):Int)from aj]
   exact iM (a8)
  have hb0:¬((b:Int)<0):=a8
  simp only[execOp,hρ _ _ hx,hρ _ _ hy,eqGuard,binOp,Op.shift,ha,hb]
  have e3:IntKind.bits .i64=64:=rfl
  simp[e,hb0,e3]
end
def fB (ns:List Nat):List Nat:=uv ns.length++(if ns= []then []else dG (orL ns)::Bg (dG (orL ns)) ns)
theorem Az (ns:List Nat):∀x∈dg ns,0≤x:=by
 intro x hx
 obtain⟨n,_,rfl⟩:=List.mem_map.1 hx
 omega
theorem EI {ns:List Nat}{x:Nat}(h:x∈ns):x<2 ^ dG (orL ns):=by
 obtain⟨i,hi⟩:=List.mem_iff_getElem?.1 h
 have key:∀(l:List Nat) (a x:Nat),(x=a∨x∈l)→dG x≤dG (l.foldl (fun a b=> a |||b) a):=by
  intro l
  induction l with
  |nil=> intro a x hx;rcases hx with rfl|hx
         ·exact Nat.le_refl _
         ·cases hx
  |cons y l ih=>
   intro a x hx
   rw[List.foldl_cons]
   rcases hx with rfl|hx
   ·exact Xi (by rw[rG];exact Nat.le_max_left _ _) (ih (x |||y) (x |||y) (.inl rfl))
   ·rcases List.mem_cons.1 hx with rfl|hx
    ·exact Xi (by rw[rG];exact Nat.le_max_right _ _) (ih (a |||x) (a |||x) (.inl rfl))
    ·exact ih _ _ (.inr hx)
 exact(fi _ _).1 (key ns 0 x (.inr h))
theorem pt {G:cM}{H:cG}{s:SV}{ns:List Nat} [hs:Sl H s eI (dg ns)] (hm:ns.length≤100000000) (hl:∀x∈ns,x<1099511627776) (hw0:dG (orL ns)=0→ns.length≤65536):SC G Tryz.prog 104 [s.val] H (fun v H'=> ∃s':SV,v= .tuple #[s'.val, .int .i64 0]∧H'=Row s' eB (fB ns)::H):=by
 have hlen:=dX ns
 obtain⟨W,hW⟩:∃W,W=dG (orL ns):=⟨_,rfl⟩
 have hW40:W≤40:=by rw[hW,fi];exact rj (ag) hl
 have hxW:∀x∈ns,x<2 ^ W:=fun x hx=> by rw[hW];exact EI hx
 refine sWk Tryz.func104 Tryz.ntmps104 ?_
 refine ws_ (wr_ (e_ asn (k:=e_ asn (k:=on_ (qn_ (ws_ (ws_ (wr_ (e_ mv (k:=e_ lnn (k:=e_ mv (k:=on_ (qn_ (?_))))))))))))))
 refine wb_ (dn (Nat) (fun y=> y≤ns.length) (fun y=> [(15, .int .i64 ((y:Nat):Int))]) [(0,_),(13,_),(14,_)] (fun y=> []) _ (fun y=> ns.length - y) (0) (h0:=?_) (k:=?_))
 ·try dsimp only
  exact Yl _
 rintro i hi
 try dsimp only[Yd,Ye]at*
 refine ws_ (wr_ (e_ ilt (k:=on_ (qn_ (ws_ (wi_ (k:=fun h1=>?_) (m:=fun h1=>?_)))))))
 ·obtain⟨x,hx⟩:∃x,ns[i]? =some x:=⟨_,Yi (a8)⟩
  have hxi:=eE hx
  refine wk_ (qn_ (ws_ (wb_ (ws_ (wr_ (e_ ixa (k:=e_ lel (k:=e_ asn (k:=on_ (qn_ (ws_ (wr_ (e_ mv (k:=?_))))))))))))))
  refine e_ ilt (k:=on_ (qn_ (wi_ (k:=fun h2=>?_) (m:=fun h2=>?_))))
  ·exact absurd h2 (a8)
  refine wk_ (bn_ (qn_ (wr_ (e_ iad (k:=e_ mv (k:=on_ (?_)))))))
  refine ln_ (i+1) (k:=?_)
  try dsimp only
  omega
 refine we_ (qe_ (le_ (bh_ (qn_ (ws_ (wr_ (e_ mv (k:=e_ lnn (k:=?_)))))))))
 refine e_ ((ae)) (k:=?_)
 refine c1_ rfl (mT (dg ns).length (a8)) (k:=?_)
 rintro _ _ ⟨s26,rfl,rfl⟩
 rw[hlen]
 have hul:=dc (n:=ns.length) (a8)
 refine e_ asn (k:=on_ (qn_ (ws_ (ws_ (wr_ (e_ mv (k:=e_ lnn (k:=e_ ieq (k:=on_ (qn_ (wi_ (k:=fun h3=>?_) (m:=fun h3=>?_))))))))))))
 ·have hnil:ns= []:=List.eq_nil_of_length_eq_zero (a8)
  refine ws_ (wr_ (e_ mv (k:=e_ asn (k:=e_ asn (k:=on_ (qn_ (wt_ (qr_ (rt_ Tryz.results104 (k:=?_))))))))))
  exact⟨_,hsb,s26,rfl,by rw[fB,if_pos hnil,Ym]⟩
 have hne:¬ns= []:=fun h=> by have h9:=h3;rw[hlen,h]at h9;exact h9 rfl
 refine wk_ (qn_ (ws_ (wr_ (e_ mv (k:=?_)))))
 refine d1_ rfl (Kc (a8) (fun x hx=> by have:=hl x hx;omega)) (k:=?_)
 rw[←hW]
 refine e_ asn (k:=on_ (qn_ (ws_ (ws_ (wr_ (e_ mv (k:=e_ ieq (k:=e_ mv (k:=cY 4 39 (k:=fun h4=>eg_ mv (k:=eg_ lnn (k:=eg_ igt (k:=e_ pkt (k:=on_ (edq)))))) (q:=on_ (qn_ (wi_ (k:=fun h5=>?_) (m:=fun h5=>?_)))))))))))))
 ·exfalso;have h:=h5;rw[←hW]at hw0;omega
 refine wk_ (qn_ (ws_ (wr_ (e_ mv (k:=e_ mv (k:=?_))))))
 refine e_ (cS 256 rfl rfl rfl W rfl (a8)) (k:=?_)
 refine dD eB (k:=fun s44=>?_)
 refine app (k:=fun s45=>?_)
 refine e_ asn (k:=on_ (qn_ (ws_ (wr_ (e_ asn (k:=e_ asn (k:=on_ (qn_ (ws_ (ws_ (wr_ (e_ mv (k:=e_ lnn (k:=?_))))))))))))))
 refine e_ mv (k:=on_ (qn_ (wb_ (dn (SV×Nat×Nat×Nat×(List Nat)) (fun y=> y.2.1≤ns.length∧y.2.2.1=W*y.2.1 % 8∧y.2.2.2.1=gV W (ns.take y.2.1) / 256 ^ (W*y.2.1 / 8)∧y.2.2.2.2=uv ns.length++ [W]++leB (W*y.2.1 / 8) (gV W (ns.take y.2.1))) (fun y=> [(6,y.1.val),(8, .int .i64 ((y.2.2.1:Nat):Int)),(9, .int .i64 ((y.2.2.2.1:Nat):Int)),(48, .int .i64 ((y.2.1:Nat):Int))]) [(7,_),(46,_),(47,_)] (fun y=> [Row y.1 eB y.2.2.2.2]) _ (fun y=> ns.length - y.2.1) ((s45,0,0,0,uv ns.length++ [W])) (h0:=?_) (k:=?_)))))
 ·try dsimp only
  exact⟨Yl _,aj,by simp[gV],by simp[leB]⟩
 rintro⟨sb,i,hv,c,out⟩ ⟨hi,hhv,hc,hout⟩
 try dsimp only[Yd,Ye]at*
 refine ws_ (wr_ (e_ ilt (k:=on_ (qn_ (ws_ (wi_ (k:=fun h6=>?_) (m:=fun h6=>?_)))))))
 ·obtain⟨x,hx⟩:∃x,ns[i]? =some x:=⟨_,Yi (a8)⟩
  have hxi:=eE hx
  have hx40:=hl x (Yj hx)
  have hxw:=hxW x (Yj hx)
  have hWi:W*i≤40*i:=Nat.mul_le_mul_right _ hW40
  refine wk_ (qn_ (ws_ (wb_ (ws_ (wr_ (e_ ixa (k:=e_ lel (k:=e_ asn (k:=on_ (qn_ (ws_ (wr_ (e_ asn (k:=?_))))))))))))))
  refine on_ (qn_ (wb_ (dn (SV×Nat×Nat×Nat×(List Nat)) (fun y=> y.2.1≤W∧y.2.2.1=(W*i+y.2.1) % 8∧y.2.2.2.1=jz W ns i y.2.1 / 256 ^ ((W*i+y.2.1) / 8)∧y.2.2.2.2=uv ns.length++ [W]++leB ((W*i+y.2.1) / 8) (jz W ns i y.2.1)) (fun y=> [(6,y.1.val),(8, .int .i64 ((y.2.2.1:Nat):Int)),(9, .int .i64 ((y.2.2.2.1:Nat):Int)),(12, .int .i64 ((y.2.1:Nat):Int))]) [(7,_),(11,_),(46,_),(47,_),(48,_)] (fun y=> [Row y.1 eB y.2.2.2.2]) _ (fun y=> W - y.2.1) ((sb,0,hv,c,out)) (h0:=?_) (k:=?_))))
  ·try dsimp only
   exact⟨Yl _,hhv,by rw[sc];exact hc,by rw[sc];exact hout⟩
  rintro⟨sb2,k,hv2,c2,out2⟩ ⟨hk,hhv2,hc2,hout2⟩
  try dsimp only[Yd,Ye]at*
  refine ws_ (ws_ (wr_ (e_ mv (k:=e_ mv (k:=e_ ilt (k:=on_ (qn_ (wi_ (k:=fun h7=>?_) (m:=fun h7=>?_)))))))))
  ·have hlt:=Cw (w:=W) (l:=ns) (k:=k) hi hxW
   have htop:=tq hlt
   rw[←hc2,←hhv2]at htop
   have hhv7:hv2≤7:=a8
   have hpw:2 ^ hv2≤2 ^ 7:=Nat.pow_le_pow_right (ag) hhv7
   have hb2:x / 2 ^ k % 2<2:=Nat.mod_lt _ (ag)
   have hbm:x / 2 ^ k % 2*2 ^ hv2≤1*2 ^ hv2:=Nat.mul_le_mul_right _ (a8)
   have hst:=ye (w:=W) (k:=k) hx
   have hol:out2.length≤11+(W*i+k) / 8:=by rw[hout2];simp only[Ya,fE,Yb,Yc];omega
   refine wk_ (qn_ (ws_ (wb_ (ws_ (wr_ (e_ mv (k:=e_ mv (k:=e_ mv (k:=?_)))))))))
   refine e_ (ei rfl rfl x k rfl rfl (bS)) (k:=?_)
   refine e_ (gQ rfl rfl (x / 2 ^ k) 2 rfl rfl (ag)) (k:=?_)
   refine e_ mv (k:=?_)
   refine e_ (yD rfl rfl (x / 2 ^ k % 2) hv2 rfl rfl (a8) (a8)) (k:=?_)
   refine e_ (evq iad (congrArg (Value.int .i64) (show _=((c2+x / 2 ^ k % 2*2 ^ hv2:Nat):Int)from a8))) (k:=?_)
   refine e_ asn (k:=on_ (qn_ (ws_ (wr_ (e_ mv (k:=e_ iad (k:=e_ asn (k:=on_ (qn_ (ws_ (wr_ (e_ mv (k:=e_ ieq (k:=?_))))))))))))))
   refine on_ (qn_ (wi_ (k:=fun h8=>?_) (m:=fun h8=>?_)))
   ·have hfull:=Gh (N:=jz W ns i k) (T:=W*i+k) (b:=x / 2 ^ k % 2) (a8) hlt hb2
    rw[←hc2,←hhv2]at hfull
    obtain⟨hf1,hf2,hf3⟩:=hfull
    refine ws_ (wr_ (e_ mv (k:=e_ mv (k:=?_))))
    refine e_ (cS 256 rfl rfl rfl (c2+x / 2 ^ k % 2*2 ^ hv2) rfl hf3) (k:=?_)
    refine dD eB (k:=fun s72=>?_)
    refine app (k:=fun s73=>?_)
    refine e_ asn (k:=on_ (qn_ (wr_ (e_ asn (k:=e_ asn (k:=on_ (bn_ (qn_ (wr_ (e_ mv (k:=e_ iad (k:=e_ asn (k:=on_ (?_))))))))))))))
    refine ln_ ((s73,k+1,0,0,out2++ [c2+x / 2 ^ k % 2*2 ^ hv2])) (k:=?_)
    try dsimp only
    refine⟨a8,a8,?_,?_⟩
    ·rw[hst,←Nat.add_assoc,hf2]
    ·rw[hst,←Nat.add_assoc,hf1,hout2,Yf]
   have hin:=Lt (N:=jz W ns i k) (T:=W*i+k) (b:=x / 2 ^ k % 2) (a8)
   rw[←hc2,←hhv2]at hin
   obtain⟨hf1,hf2⟩:=hin
   refine wk_ (bn_ (qn_ (wr_ (e_ mv (k:=e_ iad (k:=e_ asn (k:=on_ (?_))))))))
   refine ln_ ((sb2,k+1,hv2+1,c2+x / 2 ^ k % 2*2 ^ hv2,out2)) (k:=?_)
   try dsimp only
   refine⟨a8,a8,?_,?_⟩
   ·rw[hst,←Nat.add_assoc,hf2]
   ·rw[hst,←Nat.add_assoc,hf1,hout2]
  have hkW:k=W:=a8
  rw[hkW]at hhv2 hc2 hout2
  rw[yf hx hxw,←Nat.mul_succ]at hc2 hout2
  rw[←Nat.mul_succ]at hhv2
  refine we_ (qe_ (le_ (bh_ (bn_ (qn_ (wr_ (e_ iad (k:=e_ mv (k:=on_ (?_))))))))))
  refine ln_ ((sb2,i+1,hv2,c2,out2)) (k:=?_)
  try dsimp only
  exact⟨a8,hhv2,hc2,hout2⟩
 obtain rfl:i=ns.length:=a8
 rw[List.take_length]at hc hout
 have hN:=qc hxW
 have hend:=Ij hN
 have htop:=tq hN
 rw[←hc,←hhv]at htop
 rw[←hc,←hhv]at hend
 have hpw:2 ^ hv≤2 ^ 7:=Nat.pow_le_pow_right (ag) (a8)
 have hWn:W*ns.length≤40*ns.length:=Nat.mul_le_mul_right _ hW40
 have hol:out.length≤11+W*ns.length / 8:=by rw[hout];simp only[Ya,fE,Yb,Yc];omega
 have hres:fB ns=uv ns.length++ [W]++leB ((W*ns.length+7) / 8) (gV W ns):=by
  rw[fB,if_neg hne,←hW,Bg,Nat.mul_comm ns.length W];simp
 refine we_ (qe_ (le_ (bh_ (qn_ (ws_ (ws_ (wr_ (e_ mv (k:=e_ igt (k:=on_ (qn_ (wi_ (k:=fun h9=>?_) (m:=fun h9=>?_)))))))))))))
 ·rw[if_neg (a8)]at hend
  rw[hend,←Yf,←hout]at hres
  refine wr_ (e_ mv (k:=e_ mv (k:=?_)))
  refine e_ (cS 256 rfl rfl rfl c rfl (a8)) (k:=?_)
  refine dD eB (k:=fun s80=>?_)
  refine app (k:=fun s81=>?_)
  refine e_ asn (k:=on_ (qn_ (ws_ (wr_ (e_ mv (k:=e_ asn (k:=e_ asn (k:=on_ (qn_ (wt_ (rt_ Tryz.results104 (k:=?_))))))))))))
  rw[hres];exact⟨_,hsb,_,rfl,rfl⟩
 rw[if_pos (a8)]at hend
 rw[hend,←hout]at hres
 refine wk_ (qn_ (ws_ (wr_ (e_ mv (k:=e_ asn (k:=e_ asn (k:=on_ (qn_ (wt_ (rt_ Tryz.results104 (k:=?_)))))))))))
 rw[hres];exact⟨_,hsb,_,rfl,rfl⟩
def gb {α:Type}(full:List α) (z:α) (i:Nat):List α:=full.take i++List.replicate (full.length - i) z
theorem nW {α:Type}{full:List α}{z:α}{i:Nat}(h:i≤full.length):(gb full z i).length=full.length:=by simp[gb];omega
theorem oz {α:Type}(full:List α) (z:α):gb full z 0=List.replicate full.length z:=by simp[gb]
theorem nX {α:Type}(full:List α) (z:α):gb full z full.length=full:=by simp[gb]
theorem qq {α:Type}{full:List α}{z:α}{i:Nat}{b:α}(h:full[i]? =some b):(gb full z i).set i b=gb full z (i+1):=by
 have hi:=(Yk.1 h).1
 obtain⟨d,hd⟩:∃d,full.length - i=d+1:=⟨full.length - i - 1,a8⟩
 have h2:full.length - (i+1)=d:=a8
 rw[gb,gb,hd,h2,cP h,List.replicate_succ,List.set_append_right _ _ (ax),Yg,Nat.min_eq_left (a8),Nat.sub_self]
 simp
abbrev Po:=Nat×List Nat
def e8 (nb:Nat) (l:List Po):Nat:=match l.getLast? with|none=> nb|some p=> p.1+1
def gB:Nat→List Po→List Nat
 |_, []=> []
 |nb,p::r=> (p.1 - nb)::gB (p.1+1) r
def iQ (l:List Po):List Nat:=l.map fun p=> p.2.length - 1
def iU:Nat→List Nat→List Nat
 |_, []=> []
 |nb,x::r=> uv (x - nb)++iU (x+1) r
def fD (l:List Po):List Nat:=l.flatMap fun p=> iU 0 p.2
def o5 (nb:Nat) (l:List Po):List Nat:=fB (gB nb l)++fB (iQ l)++fD l
def dx (l:List Po):Nat:=(l.map fun p=> p.2.length).sum
def dN (l:List Po) (k:Nat):List Po:=(l.take (16*k+16)).drop (16*k)
def cU (l:List Po):Nat→Nat×List Nat×List Nat
 | 0=> (0, [], [])
 |k+1=> (e8 (cU l k).1 (dN l k),
  (cU l k).2.1++(uv (e8 (cU l k).1 (dN l k) - 1 - (cU l k).1)++uv (o5 (cU l k).1 (dN l k)).length),
  (cU l k).2.2++o5 (cU l k).1 (dN l k))
def et (l:List Po):Nat:=(l.length+15) / 16
def j7 (l:List Po):List Nat:=uv l.length++uv (dx l)++(cU l (et l)).2.1++(cU l (et l)).2.2
def oW:Nat→List Nat→Prop
 |_, []=> True
 |nb,x::r=> nb≤x∧oW (x+1) r
def jI:Nat→List Po→Prop
 |_, []=> True
 |nb,p::r=> nb≤p.1∧p.2≠ []∧oW 0 p.2∧jI (p.1+1) r
def fx (l:List Po):Prop:=l.length≤100000∧∀p∈l,p.1≤1000000∧p.2.length≤100000000∧∀x∈p.2,x<1099511627776
theorem rm (nb:Nat):e8 nb []=nb:=rfl
theorem n6 (nb:Nat) (l:List Po) (p:Po):e8 nb (l++ [p])=p.1+1:=by simp[e8]
theorem ln (nb:Nat) (p:Po) (l:List Po):e8 nb (p::l)=e8 (p.1+1) l:=by
 cases l with
 |nil=> rfl
 |cons q l=>
  have h:(q::l).getLast? ≠none:=aj
  simp only[e8,List.getLast?_cons_cons]
  cases hc:(q::l).getLast? with
  |none=> exact absurd hc h
  |some r=> rfl
theorem mZ {nb:Nat}{l:List Po}{i:Nat}{p:Po}(h:l[i]? =some p):e8 nb (l.take (i+1))=p.1+1:=by
 rw[cP h,n6]
theorem gP:∀(l:List Po) (nb:Nat),(gB nb l).length=l.length
 | [],_=> rfl
 |p::r,nb=> by simp[gB,gP r]
theorem ru:∀{l:List Po}{nb i:Nat}{p:Po},l[i]? =some p→(gB nb l)[i]? =some (p.1 - e8 nb (l.take i))
 | [],_,_,_,h=> aR
 |q::r,nb,0,p,h=> by simp at h;subst h;simp[gB,rm]
 |q::r,nb,i+1,p,h=> by
  rw[Xc]at h
  rw[gB,Xc,ru h,List.take_succ_cons,ln]
theorem j4:∀{l:List Po}{nb i:Nat}{p:Po},jI nb l→l[i]? =some p→e8 nb (l.take i)≤p.1∧p.2≠ []∧oW 0 p.2
 | [],_,_,_,_,h=> aR
 |q::r,nb,0,p,hk,h=> by simp at h;subst h;exact⟨hk.1,hk.2.1,hk.2.2.1⟩
 |q::r,nb,i+1,p,hk,h=> by
  rw[Xc]at h
  rw[List.take_succ_cons,ln]
  exact j4 hk.2.2.2 h
theorem vB:∀{l:List Po}{nb:Nat}(i:Nat),jI nb l→jI (e8 nb (l.take i)) (l.drop i)
 |l,nb,0,h=> by simpa [rm] using h
 | [],_,i+1,_=> by simp[jI]
 |p::r,nb,i+1,h=> by
  rw[List.take_succ_cons,List.drop_succ_cons,ln]
  exact vB i h.2.2.2
theorem vA:∀{l:List Po}{nb:Nat}(i:Nat),jI nb l→jI nb (l.take i)
 |_,_,0,_=> by simp[jI]
 | [],_,i+1,_=> by simp[jI]
 |p::r,nb,i+1,h=> by
  rw[List.take_succ_cons]
  exact⟨h.1,h.2.1,h.2.2.1,vA i h.2.2.2⟩
theorem CE (nb:Nat) (a b:List Po):e8 nb (a++b)=e8 (e8 nb a) b:=by
 cases b with
 |nil=> simp[rm]
 |cons p b=>
  obtain⟨c,q,hc⟩:∃c q,p::b=c++ [q]:=by
   rcases List.eq_nil_or_concat (p::b)with h|⟨c,q,h⟩
   ·cases h
   ·exact⟨c,q,bY⟩
  rw[hc,←Yf,n6,n6]
theorem k9 (l:List Po) (k:Nat):l.take (16*k)++dN l k=l.take (16*(k+1)):=by
 have h:l.take (16*k)=(l.take (16*k+16)).take (16*k):=by rw[List.take_take,Nat.min_eq_left (a8)]
 rw[dN,h,List.take_append_drop];all_goals rfl
theorem rY (l:List Po):∀k,(cU l k).1=e8 0 (l.take (16*k))
 | 0=> rfl
 |k+1=> by rw[cU,rY l k,←CE,k9]
theorem mH {l:List Po}(h:jI 0 l) (k:Nat):jI (cU l k).1 (dN l k):=by
 have h2:=vB (16*k) (vA (16*k+16) h)
 rw[rY,dN]
 rwa [List.take_take,Nat.min_eq_left (a8)]at h2
theorem kc (l:List Po) (k:Nat):(dN l k).length=min (16*k+16) l.length - 16*k:=by simp[dN]
theorem D3 {l:List Po}{k:Nat}{p:Po}(h:p∈dN l k):p∈l:=Yq (Yp h)
theorem pe:∀{l:List Nat}{nb j x:Nat},l[j]? =some x→iU nb (l.take (j+1))=iU nb (l.take j)++uv (x - (if j=0 then nb else l.getD (j - 1) 0+1))
 | [],_,_,_,h=> aR
 |y::r,nb,0,x,h=> by simp at h;subst h;simp[iU]
 |y::r,nb,1,x,h=> by
  cases r with
  |nil=> simp at h
  |cons z r=> simp at h;subst h;simp[iU]
 |y::r,nb,j+2,x,h=> by
  rw[Xc]at h
  rw[List.take_succ_cons,iU,pe h,List.take_succ_cons,iU,if_neg (a8),if_neg (a8),Yf]
  simp
theorem mw:∀{l:List Nat}{nb j x:Nat},oW nb l→l[j]? =some x→(if j=0 then nb else l.getD (j - 1) 0+1)≤x
 | [],_,_,_,_,h=> aR
 |y::r,nb,0,x,hk,h=> by simp at h;subst h;simpa using hk.1
 |y::r,nb,1,x,hk,h=> by
  cases r with
  |nil=> simp at h
  |cons z r=> simp at h;subst h;simpa using hk.2.1
 |y::r,nb,j+2,x,hk,h=> by
  rw[Xc]at h
  have:=mw hk.2 h
  rw[if_neg (a8)]at this
  rw[if_neg (a8)]
  simpa using this
theorem rO {l:List Po}{i:Nat}{p:Po}(h:l[i]? =some p):fD (l.take (i+1))=fD (l.take i)++iU 0 p.2:=by
 rw[cP h];simp[fD]
theorem oe {l:List Po}{i:Nat}{p:Po}(h:l[i]? =some p):dx (l.take (i+1))=dx (l.take i)+p.2.length:=by
 rw[cP h];simp[dx]
theorem dM {n k:Nat}(h:n<1099511627776) (hk:6≤k):(uv n).length≤k:=Xi (Dk 6 n (a8) (ag)) hk
theorem og:∀{l:List Nat}{nb:Nat},(∀x∈l,x<1099511627776)→(iU nb l).length≤6*l.length
 | [],_,_=> by simp[iU]
 |x::r,nb,h=> by
  have h1:=dM (n:=x - nb) (k:=6) (by have:=h x (aj);omega) (a8)
  have h2:=og (nb:=x+1) (fun y hy=> h y (Xa _ hy))
  simp only[iU,Ya,Yb];omega
theorem l7:∀{l:List Po},(∀p∈l,∀x∈p.2,x<1099511627776)→(fD l).length≤6*dx l
 | [],_=> by simp[fD]
 |p::r,h=> by
  have h1:=og (nb:=0) (h p (aj))
  have h2:=l7 (l:=r) (fun q hq=> h q (Xa _ hq))
  simp only[fD,dx,List.flatMap_cons,Ya,List.map_cons,List.sum_cons]at*;omega
theorem gl {ns:List Nat}(hl:∀x∈ns,x<1099511627776) (hn:ns.length<1099511627776):(fB ns).length≤10+5*ns.length:=by
 have h1:=dM (n:=ns.length) (k:=6) hn (a8)
 rw[fB,Ya]
 by_cases h:ns= []
 ·rw[if_pos h];simp;omega
 ·rw[if_neg h,Yb,Bg,fE]
  have h2:dG (orL ns)≤40:=(fi _ _).2 (rj (k:=40) (ag) hl)
  have h3:ns.length*dG (orL ns)≤ns.length*40:=Nat.mul_le_mul_left _ h2
  have:1≤ns.length:=by cases ns with|nil=> exact absurd rfl h|cons=> simp
  omega
theorem lz:∀{l:List Po}{nb m:Nat},(∀p∈l,p.1≤m)→∀x∈gB nb l,x≤m
 | [],_,_,_,x,hx=> by simp[gB]at hx
 |p::r,nb,m,h,x,hx=> by
  rcases List.mem_cons.1 hx with rfl|hx
  ·have:=h p (aj);omega
  ·exact lz (fun q hq=> h q (Xa _ hq)) x hx
theorem qn {l:List Po}{m:Nat}(h:∀p∈l,p.2.length≤m):∀x∈iQ l,x≤m:=by
 intro x hx
 obtain⟨p,hp,rfl⟩:=List.mem_map.1 hx
 have:=h p hp;omega
theorem o4 {l:List Po}{nb:Nat}(h:fx l):(o5 nb l).length≤20+10*l.length+6*dx l:=by
 obtain⟨h0,h1⟩:=h
 have h2:=gl (ns:=gB nb l) (fun x hx=> by have:=lz (fun p hp=> (h1 p hp).1) x hx;omega) (cw)
 have h3:=gl (ns:=iQ l) (fun x hx=> by have:=qn (fun p hp=> (h1 p hp).2.1) x hx;omega) (bZ)
 have h4:=l7 (l:=l) (fun p hp=> (h1 p hp).2.2)
 rw[gP]at h2
 rw[iQ,Yh]at h3
 simp only[o5,Ya]
 rw[iQ]
 omega
theorem l6 {l:List Po}(h:fx l) (k:Nat):fx (dN l k):=
 ⟨by have:=h.1;rw[kc];omega,fun p hp=> h.2 p (D3 hp)⟩
theorem j3 (a b:List Po):dx (a++b)=dx a+dx b:=by simp[dx]
theorem wh {l:List Po}(h:fx l):dx l≤l.length*100000000:=by
 have key:∀m:List Po,(∀p∈m,p.2.length≤100000000)→dx m≤m.length*100000000:=by
  intro m
  induction m with
  |nil=> intro _;simp[dx]
  |cons p m ih=>
   intro hm
   have h1:=ih (fun q hq=> hm q (Xa _ hq))
   have h2:=hm p (aj)
   simp only[dx,List.map_cons,List.sum_cons,Yb]at h1⊢
   omega
 exact key l fun p hp=> (h.2 p hp).2.1
theorem jU {l:List Po}(h:fx l):∀k,(cU l k).2.1.length≤12*k∧(cU l k).2.2.length≤20*k+10*(l.take (16*k)).length+6*dx (l.take (16*k))∧(cU l k).1≤1000001
 | 0=> by simp[cU,dx]
 |k+1=> by
  obtain⟨h1,h2,h3⟩:=jU h k
  have hb:=l6 h k
  have h4:=o4 (nb:=(cU l k).1) hb
  have h5:e8 (cU l k).1 (dN l k)≤1000001:=by
   unfold e8
   split
   ·exact h3
   ·rename_i p hp;have:=(hb.2 p (List.mem_of_getLast? hp)).1;omega
  have h6:dx (dN l k)≤16*100000000:=by
   have hbl:(dN l k).length≤16:=by rw[kc];omega
   exact Xi (wh hb) (Nat.mul_le_mul_right _ hbl)
  have h7:=dM (n:=e8 (cU l k).1 (dN l k) - 1 - (cU l k).1) (k:=6) (a8) (a8)
  have hbl:(dN l k).length≤16:=by rw[kc];omega
  have h8:=dM (n:=(o5 (cU l k).1 (dN l k)).length) (k:=6) (a8) (a8)
  have h9:(l.take (16*(k+1))).length=(l.take (16*k)).length+(dN l k).length:=by rw[←k9,Ya]
  have h10:dx (l.take (16*(k+1)))=dx (l.take (16*k))+dx (dN l k):=by rw[←k9,j3]
  refine⟨?_,?_,by simp only[cU];exact h5⟩
  ·simp only[cU,Ya];omega
  ·rw[h9,h10];simp only[cU,Ya];omega
theorem pF (l:List Po):l.take (16*et l)=l:=List.take_of_length_le (bG)
theorem CT {l:List Po}(h:fx l) (ht:dx l<1099511627776):(j7 l).length≤60+20*l.length+6*dx l:=by
 obtain⟨h1,h2,_⟩:=jU h (et l)
 rw[pF]at h2
 have h3:=dM (n:=l.length) (k:=6) (by have:=h.1;omega) (a8)
 have h4:=dM (n:=dx l) (k:=6) ht (a8)
 have h5:16*et l≤l.length+15:=bG
 simp only[j7,Ya];omega
theorem xv:∀(l:List Nat) (nb:Nat),∀x∈iU nb l,x<256
 | [],_,x,hx=> by simp[iU]at hx
 |y::r,nb,x,hx=> by
  rcases List.mem_append.1 hx with h|h
  ·exact gH _ x h
  ·exact xv r _ x h
theorem py {ns:List Nat}(hl:∀x∈ns,x<1099511627776):∀x∈fB ns,x<256:=by
 intro x hx
 have h2:dG (orL ns)≤40:=(fi _ _).2 (rj (k:=40) (ag) hl)
 rcases List.mem_append.1 hx with h|h
 ·exact gH _ x h
 ·split at h
  ·simp at h
  ·rcases List.mem_cons.1 h with rfl|h
   ·omega
   ·exact Ku _ _ x h
theorem IY {l:List Po}{nb:Nat}(h:fx l):∀x∈o5 nb l,x<256:=by
 intro x hx
 rcases List.mem_append.1 hx with hx|hx
 ·rcases List.mem_append.1 hx with hx|hx
  ·exact py (fun x hx=> by have:=lz (fun p hp=> (h.2 p hp).1) x hx;omega) x hx
  ·exact py (fun x hx=> by have:=qn (fun p hp=> (h.2 p hp).2.1) x hx;omega) x hx
 ·obtain⟨p,_,hp⟩:=List.mem_flatMap.1 hx
  exact xv _ _ x hp
theorem vw {l:List Po}(h:fx l):∀k,(∀x∈(cU l k).2.1,x<256)∧∀x∈(cU l k).2.2,x<256
 | 0=> by simp[cU]
 |k+1=> by
  obtain⟨h1,h2⟩:=vw h k
  constructor
  ·intro x hx
   rcases List.mem_append.1 hx with hx|hx
   ·exact h1 x hx
   ·rcases List.mem_append.1 hx with hx|hx <;> exact gH _ x hx
  ·intro x hx
   rcases List.mem_append.1 hx with hx|hx
   ·exact h2 x hx
   ·exact IY (l6 h k) x hx
theorem G0 {l:List Po}(h:fx l):∀x∈j7 l,x<256:=by
 intro x hx
 obtain⟨h1,h2⟩:=vw h (et l)
 rcases List.mem_append.1 hx with hx|hx
 ·rcases List.mem_append.1 hx with hx|hx
  ·rcases List.mem_append.1 hx with hx|hx <;> exact gH _ x hx
  ·exact h1 x hx
 ·exact h2 x hx
end Go.Sx
