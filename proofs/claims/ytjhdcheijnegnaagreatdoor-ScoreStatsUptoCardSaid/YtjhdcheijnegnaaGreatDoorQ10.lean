import Derived.Test.YtjhdcheijnegnaaGreatDoorQ7
import Derived.Recover
import Derived.Lib.Mul64
set_option linter.all false
set_option maxHeartbeats 0
namespace Go.Sx
open Go Go.Proofs Tryz
set_option maxRecDepth 100000
section
variable {G:cJ}{H:cG}{xs:List Nat}
theorem rQ {s p:SV} [Sl H s eB xs] [Sl H p eSV [s]] (hn:xs.length≤1000000000000):SC G prog 182 [p.val] H (λv j=>∃g:SV,v=g.val∧j=Row g eB xs::H):=by
 refine sWk func182 ?_;refine go ?_;refine gk (k:=wl_ (Nat×Nat) (λy=>y.1≤1∧y.2=y.1*xs.length) (λy=>[(0,p.val),(3,iN y.2),(10,p.val),(11,.int .i64 1),(12,iN y.1)]) (λ_=>H) (λy=>1-y.1) ((0,0)) (h0:=?_) (k:=?_))
 ·exact⟨a8,ak⟩
 rintro⟨i,n⟩ ⟨hi,d⟩
 try dsimp only at*
 refine gW (λh1=>?_) λh1=>?_
 ·obtain rfl:i=0:=by omega
  obtain rfl:n=0:=a8;refine wk_ (qn_ (ws_ (wb_ (ws_ (wr_ ?_)))));refine e_ (cV rfl rfl 0 rfl ak) (go ?_);refine lN ((1,0+xs.length)) ?_
  exact⟨a8,a8⟩
 obtain rfl:i=1:=a8;obtain rfl:n=xs.length:=a8;refine go ?_;refine s_ (fq eB 0 rfl rfl _ _ rfl rfl rfl a8 a8 a8) ?_;rintro _ _ ⟨c,rfl,hs1n,hs1c,rfl⟩;refine go ?_;refine gk (k:=wl_ (Nat×Nat×List Nat) (λy=>y.1≤1∧y.2.1=y.1*xs.length∧y.2.2=if y.1=0 then List.replicate xs.length 0 else xs) (λy=>[(6,c.val),(7,iN y.2.1),(23,p.val),(24,.int .i64 1),(25,iN y.1)]) (λy=>Row c eB y.2.2::H) (λy=>1-y.1) ((0,0,List.replicate xs.length 0)) (h0:=?_) (k:=?_))
 ·exact⟨a8,ak,rfl⟩
 rintro⟨i,n,f⟩ ⟨hi,d,h⟩
 try dsimp only at*
 refine gW (λh2=>?_) λh2=>?_
 ·obtain rfl:i=0:=by omega
  obtain rfl:n=0:=a8;obtain rfl:f=List.replicate xs.length 0:=h;refine wk_ (qn_ (ws_ (wb_ (ws_ (wr_ ?_)))));refine e_ (cV rfl rfl 0 rfl ak) ?_;refine e_ lel (e_ asn (on_ (qn_ (wr_ (e_ mv (e_ mv (e_ mv ?_)))))));refine e_ (fA rfl bA 0 xs.length ⟨_,_,rfl,rfl⟩ ak a8 ak) (go ?_);refine s_ (rG (a:=0) (b:=xs.length) rfl rfl bA a8 ak xs.length ak) ?_;rintro _ _ ⟨rfl,rfl⟩;refine go ?_;refine ln_ ((1,0+xs.length,xs)) (h4:=?_) (k:=?_)
  ·try dsimp only
   have e:List.take 0 (List.replicate xs.length 0)++List.take xs.length xs++List.drop (0+xs.length) (List.replicate xs.length 0)=xs:=ak;rw[e];exact hsb
  exact⟨a8,a8,rfl⟩
 obtain rfl:i=1:=a8;obtain rfl:f=xs:=h;refine gR ?_;exact⟨_,hsb,c,rfl,rfl⟩
theorem iW {R:cG}{b:Nat} [hr:Rem H Wr b xs R] (d:xs.length≤1000000000000):SC G prog 157 [pA b] H (λv e=>∃a:SV,v=a.val∧e=Row a eB xs::Wr b xs::R):=by
 refine sR hr λs=>?_;refine sWk func157 ?_;refine gk (k:=fX eSV (k:=λs1=>?_));refine c1_ rfl (rQ d) ?_;rintro _ _ ⟨c,rfl,rfl⟩;refine gR ?_;exact⟨_,hsb,c,rfl,rfl⟩
theorem jB {s:SV} [Sl H s eB xs] (a:xs.length≤1000000000000):SC G prog 164 [s.val] H (λv c=>∃b,v=pA b∧c=Rd b (xs,0)::H):=by
 refine sWk func164 ?_;refine ws_ (wr_ (e_ asn (on_ (qn_ (ws_ (wr_ (e_ mv (e_ lnn (e_ (bld [(1,_)]) (gk (k:=fX eSV (k:=λs1=>?_))))))))))));refine c1_ rfl (rQ a) ?_;rintro _ _ ⟨s2,rfl,rfl⟩;refine e_ (bld [(0,_),(1,_)]) (bxx (k:=λb1=>?_));refine gR ?_;exact⟨_,hsb,_,rfl,rfl⟩
end
section
variable {ws:List Nat}
def jZ (ws:List Nat) (i:Nat):Bool:=(ws.getD (i/64) 0).testBit (i%64)
def Ao (ws:List Nat) (i:Nat):List Nat:=ws.set (i/64) (ws.getD (i/64) 0 ||| 2^(i%64))
def okW (ws:List Nat):Prop:=∀x∈ws,x<18446744073709551616
theorem sZ (h:okW ws) (i:Nat):ws.getD i 0<18446744073709551616:=by
 rw[Xm];cases hi:ws[i]? with
 |none=>simp
 |some x=>exact h x (Yj hi)
theorem JY {k:Nat}(h:k<64):2^k<18446744073709551616:=by
 have:(18446744073709551616:Nat)=2^64:=ae;rw[this];exact Nat.pow_lt_pow_right ae h
theorem Js (h:okW ws) (i:Nat):okW (Ao ws i):=λx hx=>by
 rcases List.mem_or_eq_of_mem_set hx with hx|rfl
 ·exact h x hx
 ·have h1:=sZ h (i/64);have h2:=JY (k:=i%64) (Um _ ae);have e:(18446744073709551616:Nat)=2^64:=ae;rw[e]at h1 h2⊢;exact X8 h1 h2
theorem GV (ws:List Nat) (i:Nat):(Ao ws i).length=ws.length:=T6 ..
theorem GO {i:Nat}(h:i/64<ws.length) (j:Nat):jZ (Ao ws i) j=(decide (j=i) ||jZ ws j):=by
 unfold jZ Ao
 by_cases hj:j/64=i/64
 ·rw[hj,Xm,Uz h,U0,Nat.testBit_or,Nat.testBit_two_pow,Bool.or_comm];congr 1;exact decide_eq_decide.2 a8
 ·rw[Xm,V2 (λh=>hj h.symm),←Xm,Yr (by rintro rfl;exact hj rfl),Bool.false_or]
theorem Dl (n j:Nat):jZ (List.replicate n 0) j=false:=by
 unfold jZ;rw[Xm,List.getElem?_replicate]
 split <;> simp
theorem Jr (x k:Nat):(x/2^k &&& 1=1)↔x.testBit k=true:=by
 rw[Nat.and_one_is_mod,Nat.testBit_eq_decide_div_mod_eq,Xs]
end
section
variable {G:cJ}{H R:cG}{b n:Nat}
def eW:Enc Nat:=⟨λn=>[.int .u64 (n:Int)],1,false,λ_=>rfl,λ_ v h=>aT,ae,λ_=>rfl,ae⟩
instance {n:Nat}:i6 eW (.int .u64 ((n:Nat):Int)) n:=⟨rfl⟩
instance {n:Nat}:kX eW n (.int .u64 ((n:Nat):Int)):=⟨rfl⟩
structure DsG where
 n:Nat
 c:Nat
 ws:List Nat
def Ds (b:Nat) (p:DsG):Hp:=Ex λs:SV=>[Vr b [.int .i64 ((p.n:Nat):Int),.int .i64 ((p.c:Nat):Int),s.val],Row s eW p.ws]
theorem Ka {c:Nat}{ws:List Nat}{s:SV}:cH (Vr b [iN n,iN c,s.val]::Row s eW ws::R) (Ds b ⟨n,c,ws⟩::R):=Bn (K:=Ds) (i:=b) (a:=⟨n,c,ws⟩) rfl s
theorem NK {P:Program}{f:FuncId}{args:List Value}{K:Value→cG→Prop}{p:DsG}(hr:Rem H Ds b p R) (h:∀s:SV,SC G P f args (Vr b [iN p.n,iN p.c,s.val]::Row s eW p.ws::R) K):SC G P f args H K:=
 ⟨(h SV.nil).enter,λw a=>let ⟨s,hs⟩:=zA (K:=Ds) rfl hr a;(h s).call w hs⟩
theorem JP {i:Int}{c a:Value} [cY H b [iN n,c,a]]:SC G prog 107 [pA b,.int .i64 i] H (λv d=>v=.bool (decide (0≤i)&&decide (i<(n:Int)))∧d=H):=by
 refine sWk func107 ?_;refine gk (k:=cQ 7 14 (k:=λh1=>gk (k:=edq)) (q:=go ?_));exact gZ
theorem KZ {G:cJ}{H:cG}{b n c i:Nat}{s:SV}{ws:List Nat} [cY H b [iN n,iN c,s.val]] [hs:Sl H s eW ws] (hi:i<n) (hn:n≤1048576) (hl:ws.length=(n+63)/64) (hw:okW ws):SC G prog 61 [pA b,iN i] H (λv H'=>v=.bool (jZ ws i)∧H'=H):=by
 have hi64:i/64<ws.length:=a8
 have hwi:ws[i/64]? =some (ws.getD (i/64) 0):=by rw[Xm,Yi hi64];all_goals rfl
 have hx:=sZ hw (i/64)
 have hm:i%64<64:=Um _ (ae)
 have hd:ws.getD (i/64) 0/2^(i%64)≤ws.getD (i/64) 0:=Vs ..
 have hrng:(decide ((0:Int)≤(i:Int))&&decide (((i:Nat):Int)<(n:Int)))=true:=by rw[Ys (a8),Ys (a8)];all_goals rfl
 refine sWk func61 ?_
 refine ws_ (wr_ (e_ asn (k:=on_ (qn_ (ws_ (wr_ (e_ mv (k:=e_ mv (k:=?_)))))))))
 refine d2_ rfl (JP) (k:=?_)
 rw[hrng]
 refine e_ mv (k:=cQ 14 22 (k:=λh1=>eg_ mv (k:=eg_ nck (k:=eg_ fla (k:=eg_ ldv (k:=eg_ mv (k:=eg_ (fH rfl rfl i 64 rfl rfl (ae) (an)) (k:=eg_ ixa (k:=eg_ lel (k:=eg_ mv (k:=eg_ (kO rfl rfl i 64 rfl rfl (ae)) (k:=eg_ (du rfl rfl (ws.getD (i/64) 0) (i%64) rfl rfl (by show _≤64;omega)) (k:=eg_ (gn 18446744073709551616 rfl rfl rfl rfl (ws.getD (i/64) 0/2^(i%64)) 1 rfl rfl (a8) (a8)) (k:=eg_ ieq (k:=e_ pkt (k:=on_ (edq)))))))))))))))) (q:=e_ asn (k:=on_ (qn_ (wt_ (rT (k:=?_)))))))
 exact⟨_,hsb,congrArg Value.bool (by
  rw[jZ,Vt,U4,Xs,←Jr];omega),rfl⟩
theorem C9 (hn:n≤1048576):SC G prog 174 [iN n] H (λv c=>∃b,v=pA b∧c=Ds b ⟨n,0,List.replicate ((n+63)/64) 0⟩::H):=by
 refine sWk func174 ?_;refine ws_ (wr_ (e_ asn (on_ (qn_ (ws_ (wr_ (e_ mv (e_ mv (e_ iad ?_)))))))));refine e_ (fH rfl rfl (n+63) 64 a8 rfl ae an) ?_;refine s_ (fq eW 0 rfl rfl ((n+63)/64) ((n+63)/64) rfl rfl rfl a8 a8 a8) ?_;rintro _ _ ⟨s7,rfl,h7n,h7c,rfl⟩;refine e_ (bld [(0,_),(2,_)]) (bxx (k:=λa=>?_));refine gR ?_;exact⟨_,Ka,a,rfl,rfl⟩
theorem HI (a:n≤1048576):SC G prog 99 [iN n] H (λv c=>∃b,v=.tuple #[pA b,.nilIface]∧c=Ds b ⟨n,0,List.replicate ((n+63)/64) 0⟩::H):=by
 refine sWk func99 ?_;refine ws_ (wr_ (e_ asn (e_ asn (on_ (qn_ (ws_ (ws_ (wr_ (e_ mv (e_ ilt (e_ mv (dz 3 9 (k:=λh1=>eg_ mv (eg_ igt (e_ pkf (on_ edq)))) (q:=on_ ?_)))))))))))));refine qn_ (wi_ (k:=λh2=>?_) (m:=λh2=>?_))
 ·exact absurd h2 a8
 refine wk_ (qn_ (ws_ (wr_ (e_ mv ?_))));refine c1_ rfl (C9 a) ?_;rintro _ _ ⟨b,rfl,rfl⟩;refine e_ asn (e_ asn (on_ (qn_ (wt_ (rT (k:=?_))))));exact⟨_,hsb,b,rfl,rfl⟩
end
section
variable {G:cJ}{P:Program}{ops:Array Oper}{N:Nat}{Q:Post}{t:Tm}{H:cG}
theorem yV {loud:Nat→Bool}{F:Nat→cG→Prop}{fuel:Nat}{listed:Array Bool}{dst dst2 dst3:Option Tmp}{op op2 op3:Op}{ty ty2 ty3:TypeId}{pos pos2 pos3:String}{after after2 after3:Array Edge}{R R2 R3:Value→cG→Prop}(i j m:Nat) (hi:ops[i]? =some ⟨dst,op,ty,pos,after,none⟩) (hj:ops[j]? =some ⟨dst2,op2,ty2,pos2,after2,none⟩) (hm:ops[m]? =some ⟨dst3,op3,ty3,pos3,after3,none⟩) (hr:Region.ready .any ops listed= [i,j,m]) (hd:fC N dst=true) (hd2:fC N dst2=true) (hd3:fC N dst3=true)
 (hF:∀i,qg ops loud i listed→F i H) (hs:St G P ⟨dst,op,ty,pos,after,none⟩ t H R) (hs2:St G P ⟨dst2,op2,ty2,pos2,after2,none⟩ t H R2) (hs3:St G P ⟨dst3,op3,ty3,pos3,after3,none⟩ t H R3) (h:∀v H',R v H'→An G P N ops loud F Q fuel (listed.setIfInBounds i true) (put t dst v) H') (h2:∀v H',R2 v H'→An G P N ops loud F Q fuel (listed.setIfInBounds j true) (put t dst2 v) H') (h3:∀v H',R3 v H'→An G P N ops loud F Q fuel (listed.setIfInBounds m true) (put t dst3 v) H'):An G P N ops loud F Q (fuel+1) listed t H:=
 ⟨λa ha=>⟨hF,λh0=>(bH),λk hk=>by
   rw[hr]at hk
   have key:∀(m:Nat) (dst:Option Tmp) (op:Op) (ty:TypeId) (pos:String) (after:Array Edge) (R:Value→cG→Prop),ops[m]? =some ⟨dst,op,ty,pos,after,none⟩→fC N dst=true→St G P ⟨dst,op,ty,pos,after,none⟩ t H R→(∀v H',R v H'→An G P N ops loud F Q fuel (listed.setIfInBounds m true) (put t dst v) H')→
    OpK G P ops m (nL G P ops loud F (λa H=>∃t,Fr N t a∧Q .normal t H) fuel (listed.setIfInBounds m true)) a H:=by
    intro m dst op ty pos after R hi hd hs h
    unfold OpK
    simp only[hi]
    rw[if_pos (bn)]
    intro w hw
    have h1:=hs a.eval ha.agree w hw
    generalize (execOp a.eval _).run P w=r at*
    cases r with
    |ok n w'=>
     cases n <;> simp only[kY]at h1 <;> simp only[ln]
     case value u=>obtain⟨H',q1,q2⟩:=h1;exact⟨H',q1,(h u H' q2).go _ (ha.put hd u)⟩
     case skip=>obtain⟨H',q1,q2⟩:=h1;exact⟨H',q1,(h _ H' q2).go _ (ha.put hd _)⟩
     case enter f args=>
      exact h1.mono λe w'' he=>by
       cases e with
       |returned u=>obtain⟨H',q1,q2⟩:=he;exact⟨H',q1,(h u H' q2).go _ (ha.put hd u)⟩
       |_=>exact he
    |halt x w'=>simp only[kY]at h1
   rcases Xr.1 hk with rfl|hk
   ·exact key _ _ _ _ _ _ _ hi hd hs h
   ·rcases Xr.1 hk with rfl|hk
    ·exact key _ _ _ _ _ _ _ hj hd2 hs2 h2
    ·obtain rfl:k=m:=by simpa using hk
     exact key _ _ _ _ _ _ _ hm hd3 hs3 h3⟩⟩
end
end Go.Sx
namespace Go.Sx
abbrev B64:Nat:=18446744073709551616
def wv:List Nat→Nat
 | []=>0
 |x::xs=>x+B64*wv xs
def Wd (xs:List Nat):Prop:=∀x∈xs,x<B64
theorem Wd.nil:Wd []:=λ_ h=>aU
theorem Wd.cons {x:Nat}{xs:List Nat}(h:x<B64) (hs:Wd xs):Wd (x::xs):=λy hy=>by
 rcases Xr.1 hy with rfl|hy
 ·exact h
 ·exact hs y hy
theorem Wd.app {a b:List Nat}(ha:Wd a) (hb:Wd b):Wd (a++b):=λy hy=>by
 rcases Xl.1 hy with hy|hy
 ·exact ha y hy
 ·exact hb y hy
theorem Wd.get {xs:List Nat}(h:Wd xs) {i x:Nat}(hx:xs[i]? =some x):x<B64:=h x (Yj hx)
theorem Wd.take {xs:List Nat}(h:Wd xs) (n:Nat):Wd (xs.take n):=λy hy=>h y (Yq hy)
theorem Wd.drop {xs:List Nat}(h:Wd xs) (n:Nat):Wd (xs.drop n):=λy hy=>h y (Yp hy)
theorem Wd.set {xs:List Nat}(h:Wd xs) {i x:Nat}(hx:x<B64):Wd (xs.set i x):=λy hy=>by
 rcases List.mem_or_eq_of_mem_set hy with hy|rfl
 ·exact h y hy
 ·exact hx
theorem qc (n:Nat):Wd (List.replicate n 0):=λy hy=>by
 rw[(List.mem_replicate.1 hy).2];decide
theorem zc:∀a b:List Nat,wv (a++b)=wv a+B64^a.length*wv b:=by
 intro a
 induction a with
 |nil=>intro b;simp[wv]
 |cons x a ih=>
  intro b
  rw[Yd,wv,ih,wv,Yb,T9,X0,Vz,←Un,Ug B64 (B64^a.length)]
theorem nN (a:List Nat) (x:Nat):wv (a++ [x])=wv a+B64^a.length*x:=by
 rw[zc];simp[wv]
theorem Dv (n:Nat):wv (List.replicate n 0)=0:=by
 induction n with
 |zero=>rfl
 |succ n ih=>rw[Uy,wv,ih];all_goals rfl
theorem JD:∀{xs:List Nat},Wd xs→wv xs<B64^xs.length:=by
 intro xs
 induction xs with
 |nil=>intro _;simp[wv]
 |cons x xs ih=>
  intro h
  have h1:=ih λy hy=>h y (Xa _ hy)
  have h2:=h x (Yz)
  rw[wv,Yb,T9]
  have:B64*(wv xs+1)≤B64*B64^xs.length:=V8 _ h1
  rw[Ug (B64^xs.length)]
  rw[X0]at this
  omega
theorem nM {xs:List Nat}{i x:Nat}(h:xs[i]? =some x):wv (xs.take (i+1))=wv (xs.take i)+B64^i*x:=by
 have hi:=(Yk.1 h).1
 rw[Ua,h]
 show wv (xs.take i++ [x])=_
 rw[nN,Yg,Vk (a8)]
theorem Hj {xs:List Nat}{i x:Nat}(h:xs[i]? =some x):wv (xs.drop i)=x+B64*wv (xs.drop (i+1)):=by
 obtain⟨h1,h2⟩:=Yk.1 h
 rw[List.drop_eq_getElem_cons h1,wv,h2]
def wds (n:Nat):List Nat:=if h:n=0 then []else n%B64::wds (n/B64)
 termination_by n
 decreasing_by exact Nat.div_lt_self (X1 h) (ae)
theorem dV:wds 0= []:=by rw[wds,dif_pos rfl]
theorem l0 {n:Nat}(h:n≠0):wds n=n%B64::wds (n/B64):=by rw[wds,dif_neg h]
theorem gF {n:Nat}(h:n≠0) (h2:n<B64):wds n= [n]:=by
 rw[l0 h,Xt h2,Nat.div_eq_of_lt h2,dV]
theorem jN {n:Nat}:wds n= []↔n=0:=by
 constructor
 ·intro h
  by_cases h0:n=0
  ·exact h0
  ·rw[l0 h0]at h;cases h
 ·rintro rfl;exact dV
theorem oB:∀n,Wd (wds n):=by
 intro n
 induction n using Nat.strongRecOn with
 |_ n ih=>
  by_cases h:n=0
  ·subst h;rw[dV];exact Wd.nil
  ·rw[l0 h];exact Wd.cons (Um _ (ae)) (ih _ (Nat.div_lt_self (X1 h) (ae)))
theorem rY:∀n,wv (wds n)=n:=by
 intro n
 induction n using Nat.strongRecOn with
 |_ n ih=>
  by_cases h:n=0
  ·subst h;rw[dV];all_goals rfl
  ·rw[l0 h,wv,ih _ (Nat.div_lt_self (X1 h) (ae)),Q5,Q8]
theorem oZ:∀(k n:Nat),n<B64 ^ k→(wds n).length≤k:=by
 intro k
 induction k with
 |zero=> intro n h;have:n=0:=by simpa using h
         subst this;rw[dV];simp
 |succ k ih=>
  intro n h
  by_cases h0:n=0
  ·subst h0;rw[dV];simp
  ·rw[l0 h0,Yb]
   have:=ih (n / B64) (Nat.div_lt_of_lt_mul (by rw[T9,Ug]at h;exact h))
   omega
theorem Kd:∀{xs:List Nat},Wd xs→(∀x,xs.getLast? =some x→x≠0)→wds (wv xs)=xs:=by
 intro xs
 induction xs with
 |nil=>intro _ _;rw[wv,dV]
 |cons x xs ih=>
  intro h hl
  have hx:=h x Yz
  have hs:Wd xs:=λy hy=>h y (Xa _ hy)
  have hi:=ih hs λy hy=>by
   refine hl y ?_
   cases xs with
   |nil=>cases hy
   |cons z zs=>rw[List.getLast?_cons_cons];exact hy
  have hne:wv (x::xs)≠0:=by
   intro h0
   rw[wv]at h0
   simp only[B64]at h0
   have hx0:x=0:=a8
   have hw0:wv xs=0:=a8
   rw[hw0,dV]at hi
   subst hi
   exact hl x rfl hx0
  have hm:wv (x::xs)%B64=x:=by rw[wv,Nat.add_mul_mod_self_left,Xt hx]
  have hd:wv (x::xs)/B64=wv xs:=by rw[wv,Nat.add_mul_div_left _ _ (ae),Nat.div_eq_of_lt hx,Vf]
  rw[l0 hne,hm,hd,hi]
theorem Az {xs:List Nat}{i:Nat}(h:xs[i]? =some 0):wv (xs.take (i+1))=wv (xs.take i):=by
 rw[nM h,Nat.mul_zero,Ur]
theorem xX {o xs:List Nat}{i x y c r:Nat}(hl:o.length=i) (hx:xs[i]? =some x) (h:wv o+B64^i*c=wv (xs.take i)*y+r):
 wv (o++ [(x*y+c)%B64])+B64^(i+1)*((x*y+c)/B64)=wv (xs.take (i+1))*y+r:=by
 have h1:=Q8 (x*y+c) B64
 have h2:B64^i*((x*y+c)%B64)+B64^(i+1)*((x*y+c)/B64)=B64^i*(x*y+c):=by
  rw[T9,Un,←X0,Q5,h1]
 rw[nN,hl,nM hx,Vz,h2,X0,Vg]
 have:B64^i*(x*y)=B64^i*x*y:=by rw[Un]
 omega
theorem yO {x y c:Nat}(hx:x<B64) (hy:y<B64) (hc:c<B64):(x*y+c)/B64<B64:=by
 apply Nat.div_lt_of_lt_mul
 have:x*y≤(B64-1)*(B64-1):=Nat.mul_le_mul (a8) (a8)
 simp only[B64]at*
 omega
theorem yX {o zs xs:List Nat}{i x z m c:Nat}(hl:o.length=i) (hx:xs[i]? =some x) (hz:zs[i]? =some z) (h:wv o+B64^i*c=wv (zs.take i)+wv (xs.take i)*m):
 wv (o++ [(x*m+z+c)%B64])+B64^(i+1)*((x*m+z+c)/B64)=wv (zs.take (i+1))+wv (xs.take (i+1))*m:=by
 have h1:=Q8 (x*m+z+c) B64
 have h2:B64^i*((x*m+z+c)%B64)+B64^(i+1)*((x*m+z+c)/B64)=B64^i*(x*m+z+c):=by
  rw[T9,Un,←X0,Q5,h1]
 rw[nN,hl,nM hx,nM hz,Vz,h2,X0,X0,Vg]
 have:B64^i*(x*m)=B64^i*x*m:=by rw[Un]
 omega
theorem Df {x y z c:Nat}(hx:x<B64) (hy:y<B64) (hz:z<B64) (hc:c<B64):(x*y+z+c)/B64<B64:=by
 apply Nat.div_lt_of_lt_mul
 have:x*y≤(B64-1)*(B64-1):=Nat.mul_le_mul (a8) (a8)
 simp only[B64]at*
 omega
theorem GA {z xs:List Nat}{i x y r q:Nat}(hx:xs[i]? =some x) (hq:q=(r*B64+x)/y) (h:wv (xs.drop (i+1))=wv (z)*y+r) (hy:0<y):
 wv (xs.drop i)=wv (q::z)*y+(r*B64+x)%y:=by
 rw[Hj hx,wv,h,hq]
 have h1:=Q8 (r*B64+x) y
 generalize (r*B64+x)/y=a at*
 generalize (r*B64+x)%y=b at*
 rw[Vg,X0,Un]
 rw[Ug y a]at h1
 rw[Ug r B64]at h1
 omega
theorem D8 {x1 x0:Nat}(h1:x1<16000000000000000000) (h0:x0<B64):
 let d:=16000000000000000000
 let m:=2820903858849102350
 let t:=(m*x1+x0)/B64+x1
 t<B64∧d*t≤x1*B64+x0∧x1*B64+x0-d*t<B64+d:=by
 simp only[B64]at*
 refine⟨?_,?_,?_⟩ <;> omega
end Go.Sx
namespace Go.Sx
theorem uS {xs:List Nat}(h:Wd xs) {i:Nat}(hi:i≤xs.length) (hv:wv (xs.take i)=wv xs) (ht:0<i→∀x,xs[i-1]? =some x→x≠0):xs.take i=wds (wv xs):=by
 rw[←hv]
 refine(Kd (h.take i) λx hx=>?_).symm
 rcases Uc i with rfl|hp
 ·simp at hx
 ·refine ht hp x ?_
  rw[List.getLast?_eq_getElem?,Yg,Vk hi,Xz (a8)]at hx
  exact hx
theorem BR {xs:List Nat}(h:Wd xs):(wds (wv xs)).length≤xs.length:=oZ _ _ (JD h)
theorem IE {xs:List Nat}(h:Wd xs):xs.take (wds (wv xs)).length=wds (wv xs):=by
 obtain⟨i,hi,hv,ht⟩:∃i,i≤xs.length∧wv (xs.take i)=wv xs∧(0<i→∀x,xs[i-1]? =some x→x≠0):=by
  have key:∀k,k≤xs.length→wv (xs.take k)=wv xs→∃i,i≤xs.length∧wv (xs.take i)=wv xs∧(0<i→∀x,xs[i-1]? =some x→x≠0):=by
   intro k
   induction k with
   |zero=>intro h1 h2;exact⟨0,h1,h2,λh=>absurd h (ae)⟩
   |succ k ih=>
    intro h1 h2
    by_cases h0:xs[k]? =some 0
    ·exact ih (a8) (by rw[←h2,Az h0])
    ·exact⟨k+1,h1,h2,λ_ x hx=>by rw[Uj]at hx;rintro rfl;exact h0 hx⟩
  exact key xs.length (Xj _) (by rw[Xk])
 have:=uS h hi hv ht
 have hl:(wds (wv xs)).length=i:=by rw[←this,Yg,Vk hi]
 rw[hl,this]
end Go.Sx
namespace Go.Sx
theorem On (P a b:Nat) (hb:b<18446744073709551616) (h:(P+b)/18446744073709551616+a<18446744073709551616):(P/18446744073709551616+a+(P%18446744073709551616+b+0)/18446744073709551616)%18446744073709551616=(P+b)/18446744073709551616+a:=by
 have:(P+b)/18446744073709551616=P/18446744073709551616+(P%18446744073709551616+b+0)/18446744073709551616:=a8
 omega
theorem Lh (a b Z:Nat) (hb:b<18446744073709551616) (hZ:Z≤a*18446744073709551616+b):(b+18446744073709551616-Z%18446744073709551616-0)%18446744073709551616=(a*18446744073709551616+b-Z)%18446744073709551616:=a8
theorem Li (a b Z:Nat) (hb:b<18446744073709551616) (ha:a<18446744073709551616) (hZ:Z≤a*18446744073709551616+b):(a+18446744073709551616-Z/18446744073709551616-(if b<Z%18446744073709551616+0 then 1 else 0))%18446744073709551616=(a*18446744073709551616+b-Z)/18446744073709551616:=by
 obtain⟨z1,hz1⟩:∃z1,z1=Z/18446744073709551616:=⟨_,rfl⟩
 obtain⟨z0,hz0⟩:∃z0,z0=Z%18446744073709551616:=⟨_,rfl⟩
 have hzz:Z=z1*18446744073709551616+z0:=a8
 have hz9:z0<18446744073709551616:=a8
 rw[←hz1,←hz0]
 subst hzz
 clear hz1 hz0
 split
 ·have h1:z1+1≤a:=by omega
  have e1:(a+18446744073709551616-z1-1)%18446744073709551616=a-z1-1:=a8
  have e2:a*18446744073709551616+b-(z1*18446744073709551616+z0)=(a-z1-1)*18446744073709551616+(b+18446744073709551616-z0):=a8
  rw[e1,e2];omega
 ·have h1:z1≤a:=by omega
  have e1:(a+18446744073709551616-z1-0)%18446744073709551616=a-z1:=a8
  have e2:a*18446744073709551616+b-(z1*18446744073709551616+z0)=(a-z1)*18446744073709551616+(b-z0):=a8
  rw[e1,e2];omega
end Go.Sx
namespace Go.Sx
open Go
def eU:Enc Nat:=⟨λn=>[.int .u64 (n:Int)],1,false,λ_=>rfl,λ_ v h=>aT,ae,λ_=>rfl,ae⟩
instance {n:Nat}:i6 eU (.int .u64 ((n:Nat):Int)) n:=⟨rfl⟩
instance {n:Nat}:kX eU n (.int .u64 (n:Int)):=⟨rfl⟩
def SV.up (F:SV) (n:Nat):SV:=⟨F.a,n,F.c⟩
structure fO (F:SV):Prop where
 nc:F.n=F.c
 ad:(F.a=none∧F.c=0)∨∃b,F.a=some ⟨b,0,none⟩
 cp:F.c≤281474976710656
theorem fO.nil:fO SV.nil:=⟨rfl,.inl ⟨rfl,rfl⟩,Yl _⟩
theorem fO.cut0 {F:SV}(h:fO F) (k:Nat):F.cut 1 0 k=F.up k:=by
 obtain⟨h1,h2,_⟩:=h
 rcases h2 with⟨h2,h3⟩|⟨b,h2⟩
 ·simp[SV.cut,SV.up,h2,h3]
 ·simp[SV.cut,SV.up,h2,Addr.add]
theorem fO.self {F:SV}(h:fO F):F.up F.c=F:=by
 obtain⟨h1,_,_⟩:=h
 cases F;simp only at h1;subst h1;rfl
theorem fO.some {F:SV}(h:fO F) (hc:0<F.c):∃b off,F.a=some ⟨b,off,none⟩:=by
 obtain⟨_,h2,_⟩:=h
 rcases h2 with⟨_,h3⟩|⟨b,h2⟩
 ·omega
 ·exact⟨b,0,h2⟩
theorem Jg {s:SV}{lo hi j:Nat}(h:lo<s.c):(s.cut 1 lo hi).elt 1 j 0=s.elt 1 (lo+j) 0:=by
 have h2:¬s.c=lo:=a8
 simp only[SV.cut,SV.elt,if_neg h2,Option.map_map]
 cases s.a with
 |none=>rfl
 |some a=>
  by_cases h0:lo=0
  ·subst h0;simp[Addr.add]
  ·simp[Addr.add,h0,Vz]
theorem Ko (F:SV) (n lo hi:Nat):(F.up n).cut 1 lo hi=F.cut 1 lo hi:=rfl
theorem Sl.up {H:cG}{F:SV}{α:Type}{e:Enc α}{xs:List α}(h:Sl H F e xs) (hn:F.n=F.c) {n:Nat}(hl:n≤xs.length):Sl H (F.up n) e (xs.take n):=by
 refine⟨λL hL=>?_⟩
 obtain⟨q1,q2,q3⟩:=h.out L hL
 refine⟨by simp[SV.up];omega,by simp only[SV.up];omega,?_⟩
 rcases q3 with⟨rfl,q6⟩|⟨b,off,C,E,fz,q4,q5,q6,q7⟩
 ·exact .inl ⟨ak,by simp[SV.up,q6]⟩
 ·refine .inr ⟨b,off,C,E,fz,q4,q5,q6,λj v hv=>q7 j v ?_⟩
  rw[Enc.all_take]at hv
  have hj:=(Yk.1 hv).1
  rw[Yg]at hj
  rwa [Xz (a8)]at hv
theorem dm {G:cJ}{P:Program}{o:Oper}{t:Tm}{H:cG}{u v:Value}(h:Ev G P o t H u) (e:u=v):Ev G P o t H v:=e ▸ h
theorem eZ {G:cJ}{P:Program}{f:FuncId}{args:List Value}{K:Value→cG→Prop}{H H':cG}(hs:cH H H') (h:SC G P f args H' K):SC G P f args H K:=h.heap λ_ hw=>hs.sat hw
section
variable {G:cJ}{P:Program}{N:Nat}{Q:Post}{t:Tm}{H:cG}{ops:Array Oper}{dst:Option Tmp}{ty:TypeId}{pos:String}{after:Array Edge}{g:Option (Nat×Bool)}
theorem wy {T U:TypeId}{x y:Operand}{i j:Int}(hx:evo t x=some (.int .u64 i)) (hy:evo t y=some (.int .u64 j)) (a b:Nat) (ha:i=a) (hb:j=b) (hlb:b≤18446744073709551616):
 Ev G P ⟨dst,.binOp .sub T x y U,ty,pos,after,g⟩ t H (.int .u64 (((a+18446744073709551616-b)%18446744073709551616:Nat):Int)):=
 fun ρ hρ w _=>by
  have e:IntKind.u64.wrap ((a:Int)-(b:Int))=(((a+18446744073709551616-b)%18446744073709551616:Nat):Int):=by
   simp only[IntKind.wrap,IntKind.bits,IntKind.signed]
   simp
   omega
  simp only[execOp,hρ _ _ hx,hρ _ _ hy,eqGuard,binOp,Op.intArith,ha,hb]
  simp only[Sem.run_bind,Sem.run_pure,e,ne_eq,not_true_eq_false,↓reduceIte]
  rfl
theorem Gp {x:Operand}{T E:TypeId}{s:SV}(hx:evo t x=some s.val) [hT:Und P T (.slice E)]:
 Ev G P ⟨dst,.call ⟨.builtin .cap, #[x], #[T]⟩,ty,pos,after,g⟩ t H (.int .i64 ((s.c:Nat):Int)):=
 fun ρ hρ w hw=>by
  simp[execOp,resolve,invoke,builtin,Builtin.cap_,hρ _ _ hx,cS (T:=T),SV.val,goInt]
theorem mQ {x:Operand}{T E:TypeId}{F:SV}{n:Nat}(hx:evo t x=some (F.up n).val) [hT:Und P T (.slice E)]:
 Ev G P ⟨dst,.call ⟨.builtin .cap, #[x], #[T]⟩,ty,pos,after,g⟩ t H (.int .i64 ((F.c:Nat):Int)):=Gp (s:=F.up n) (E:=E) hx
theorem tJ {x ix:Operand}{T E:TypeId}{s:SV}{bb:Nat}{z:Value}{k:IntKind}{j:Int}(hx:evo t x=some s.val) (hi:evo t ix=some (.int k j)) [hT:Und P T (.slice E)] [hE:Inf P E 1 bb z] (ha:∃b off,s.a=some ⟨b,off,none⟩)
 (i:Nat) (hj:j=i) (hlt:i<s.n):
 Ev G P ⟨dst,.indexAddr T x ix,ty,pos,after,g⟩ t H (.pointer (s.elt 1 i 0)):=
 fun ρ hρ w hw=>by
  obtain⟨b,off,h4⟩:=ha
  have h5:¬(s.n≤i):=a8
  simp[execOp,hρ _ _ hx,hρ _ _ hi,Instr.indexAt,asIntOf,hj,cS (T:=T),SV.val,h4,h5,dA (T:=E) (s:=1),SV.elt,gu]
theorem tE {T E:TypeId}{x:Operand}{lo hi:Option Operand}{s:SV}{sz bb:Nat}{z:Value}(hx:evo t x=some s.val) [hT:Und P T (.slice E)] [hE:Inf P E sz bb z]
 (l h:Nat) (hlo:match lo with|none=>l=0|some o=>∃k j,evo t o=some (.int k j)∧j=(l:Int)) (hhi:match hi with|none=>h=s.n|some o=>∃k j,evo t o=some (.int k j)∧j=(h:Int)) (h1:l≤h) (h2:h≤s.c):
 Ev G P ⟨dst,.slice T x lo hi none,ty,pos,after,g⟩ t H (s.cut sz l h).val:=
 fun ρ hρ w hw=>by
  have e1:(Instr.sliceBounds true s.n s.c (lo.map ρ) (hi.map ρ) none).run P w=.ok (l,h,s.c) w:=by
   have b1:∀(j:Nat) (k:IntKind) (y:Nat) (cd:BoundsCode),j≤y→(Instr.sliceBound (.int k (j:Int)) y cd).run P w=.ok j w:=by
    intro j k y cd hj
    have:(j:Int)≤(y:Int):=a8
    simp[Instr.sliceBound,asIntOf,this]
   cases lo with
   |none=>
    simp only at hlo
    subst hlo
    cases hi with
    |none=>simp only at hhi;subst hhi;simp[Instr.sliceBounds]
    |some o=>
     obtain⟨k,j,h3,h4⟩:=hhi
     subst h4
     simp[Instr.sliceBounds,hρ _ _ h3,b1 h k s.c _ (a8)]
   |some o'=>
    obtain⟨k',j',h5,h6⟩:=hlo
    subst h6
    cases hi with
    |none=>simp only at hhi;subst hhi;simp[Instr.sliceBounds,hρ _ _ h5,b1 l k' s.n _ (a8)]
    |some o=>
     obtain⟨k,j,h3,h4⟩:=hhi
     subst h4
     simp[Instr.sliceBounds,hρ _ _ h3,hρ _ _ h5,b1 h k s.c _ (a8),b1 l k' h _ (a8)]
  simp only[execOp,hρ _ _ hx,Instr.sliceAt,SV.val,Option.map_none,Sem.run_bind,cS (T:=T),Result.andThen_ok]
  simp only[Instr.slice,Sem.run_bind,cS (T:=T),Result.andThen_ok,e1,dA (T:=E) (s:=sz),Sem.run_pure]
  rfl
theorem nD {T E:TypeId}{x:Operand}{lo hi:Option Operand}{F:SV}{n bb:Nat}{z:Value}(hx:evo t x=some (F.up n).val) [hT:Und P T (.slice E)] [hE:Inf P E 1 bb z] (hF:fO F)
 (k:Nat) (hlo:match lo with|none=>True|some o=>∃k,evo t o=some (.int k 0)) (hhi:match hi with|none=>k=n|some o=>∃k' j,evo t o=some (.int k' j)∧j=(k:Int)) (h2:k≤F.c):
 Ev G P ⟨dst,.slice T x lo hi none,ty,pos,after,g⟩ t H (F.up k).val:=by
 rw[←hF.cut0 k,←Ko F n]
 refine tE (E:=E) hx 0 k ?_ hhi (Yl _) h2
 cases lo with
 |none=>rfl
 |some o=>obtain⟨k',h⟩:=hlo;exact⟨k',0,h,rfl⟩
theorem xo {T E:TypeId}{x y:Operand}{bb:Nat}{z:Value}{k k':IntKind}{i j:Int} [hT:Und P T (.slice E)] [hE:Inf P E 1 bb z] (hx:evo t x=some (.int k i)) (hy:evo t y=some (.int k' j)) (n c:Nat) (hi:i=n) (hj:j=c) (hz:z.cells= #[.int .u64 0]) (hnc:n≤c) (hc:bb*c≤281474976710656) (hc2:c≤281474976710656):
 St G P ⟨dst,.makeSlice T x y,ty,pos,after,g⟩ t H (λu H'=>∃F:SV,u=(F.up n).val∧fO F∧F.c=c∧H'=Row F eU (List.replicate c 0)::H):=
 fun ρ hρ w hw=>by
  obtain⟨inf,hi1,hi2,hi3,hi4⟩:=hE.out
  have hwc:IntKind.i64.wrap (c:Int)=c:=ie (a8)
  have hwn:IntKind.i64.wrap (n:Int)=n:=ie (a8)
  have hbc:((bb:Int)*(c:Int))=((bb*c:Nat):Int):=ak
  have hr:(execOp ρ ⟨dst,.makeSlice T x y,ty,pos,after,g⟩).run P w=.ok (.value (.slice (some ⟨w.heap.size,0,none⟩) n c)) {w with heap:=w.heap.push (.cells ((Array.range (c*1)).map ((if c*1=0 then #[]else #[.int .u64 0])[· % (if c*1=0 then #[]else #[.int .u64 0]:Array Value).size]!)) E)}:=by
   have h1:¬((c:Int)<0):=a8
   have h2:¬(((bb*c:Nat):Int) > 2^48):=by
    have:(2:Int)^48=281474976710656:=rfl
    omega
   have h3:¬((n:Int)<0):=a8
   have h4:¬((n:Int) > (c:Int)):=a8
   simp only[execOp,hρ _ _ hx,hρ _ _ hy,Instr.makeSlice,Sem.run_bind,cS (T:=T),Result.andThen_ok,asInt,asIntOf,Sem.run_pure,hi,hj,typeInfo,run_program,hi1,hi3,hwc,hwn,hbc]
   simp only[h1,h2,h3,h4,decide_false,Bool.or_self,Xp,↓reduceIte,Sem.run_bind,run_askRoom,Result.andThen_ok,dA (T:=E) (s:=1),Uv]
   by_cases h0:c*1=0
   ·simp only[h0,↓reduceIte,Sem.run_bind,Sem.run_pure,Result.andThen_ok]
    rfl
   ·simp only[h0,↓reduceIte,Sem.run_bind,Sem.run_pure,Result.andThen_ok,gY (T:=E),hz]
    rfl
  rw[hr]
  refine⟨_,hw.newRow eU (List.replicate c 0) _ E c c (ak) (Xj _) (by simp[eU]) ?_,⟨some ⟨w.heap.size,0,none⟩,c,c⟩,rfl,⟨rfl,.inr ⟨_,rfl⟩,hc2⟩,rfl,rfl⟩
  intro j v hv
  have hj:=(Yk.1 hv).1
  rw[eU.all_length,Xe,show eU.sz=1 from rfl]at hj
  have h0:c*1≠0:=a8
  rw[oy eU c 0 j hj]at hv
  simp only[h0,↓reduceIte,Array.getElem?_map]
  rw[Array.getElem?_range,if_pos hj]
  simp only[Vd]
  have e0:j%eU.sz=0:=by rw[show eU.sz=1 from rfl];omega
  rw[e0]at hv
  rw[←hv]
  show some _=some _
  congr 1
  have:j%(#[Value.int .u64 0]:Array Value).size=0:=aH
  rw[this];all_goals rfl
theorem Ci {T E:TypeId}{bb:Nat}{z:Value}{v1:Value}{x1:Operand}{y1:Nat} [hT:Und P T (.slice E)] [hE:Inf P E 1 bb z] (hx1:evo t x1=some v1) [hv1:i6 eU v1 y1]:
 St G P ⟨dst,.buildSlice T 1 #[(0,x1)],ty,pos,after,g⟩ t H (λu H'=>∃F:SV,u=(F.up 1).val∧fO F∧F.c=1∧H'=Row F eU [y1]::H):=
 fun ρ hρ w hw=>by
  have hp:qI t [(0,x1)]=some (eU.parts 0 [y1]):=by simp only[qI,Enc.parts,hx1,hv1.out]
  have h2:((#[(0,x1)]:Array (Nat×Operand)).map fun(i,x)=>(i,ρ x)).toList=eU.parts 0 [y1]:=by
   have:=nC hρ hp
   simpa using this
  have hf:=tC eU [y1] 0 ((Array.range (1*1)).map (z.cells[· % z.cells.size]!)) (by simp[eU])
  have hr:(execOp ρ ⟨dst,.buildSlice T 1 #[(0,x1)],ty,pos,after,g⟩).run P w=.ok (.value (.slice (some ⟨w.heap.size,0,none⟩) 1 1)) {w with heap:=w.heap.push (.cells (ej ((Array.range (1*1)).map (z.cells[· % z.cells.size]!)) (0*eU.sz) (eU.all [y1])) E)}:=by
   simp only[execOp,Instr.buildSlice,Sem.run_bind,cS (T:=T),Result.andThen_ok,dA (T:=E) (s:=1),h2]
   have hnot:¬(1*1 > 2^24):=ae
   have h0:¬(1*1=0):=ae
   simp only[hnot,h0,↓reduceIte,Sem.run_bind,Sem.run_pure,Result.andThen_ok,gY (T:=E)]
   rw[show eU.sz=1 from rfl]at hf
   rw[hf];all_goals rfl
  rw[hr]
  refine⟨_,hw.newRow eU [y1] _ E 1 1 rfl (Xj _) ?_ ?_,⟨some ⟨w.heap.size,0,none⟩,1,1⟩,rfl,⟨rfl,.inr ⟨_,rfl⟩,(by decide:(1:Nat)≤281474976710656)⟩,rfl,rfl⟩
  ·rw[er];simp[eU]
  ·intro j v hv
   have hj:=(Yk.1 hv).1
   rw[eU.all_length]at hj
   rw[fy _ _ _ _ (by simp[Enc.all_length,eU])]
   rw[if_pos (by rw[eU.all_length];omega)]
   simpa using hv
theorem xr {T E:TypeId}{x:Operand}{s:SV}{bb a b:Nat}{z:Value}{xs:List Nat}{C:Hp→cG}(hx:evo t x=some (s.cut 1 a b).val) [hT:Und P T (.slice E)] [hE:Inf P E 1 bb z] [hf:mc H s eU xs C] (h1:a≤b) (h2:b≤xs.length) (hz:z.cells= #[.int .u64 0]):
 St G P ⟨dst,.call ⟨.builtin .clear, #[x], #[T]⟩,ty,pos,after,g⟩ t H (λu H'=>u=.tuple #[]∧H'=C (Row s eU (xs.take a++List.replicate (b-a) 0++xs.drop b))):=
 fun ρ hρ w hw=>by
  obtain⟨L1,M,L2,hl,hM,hB⟩:=hf.split hw
  by_cases hm0:b-a=0
  ·have hba:b=a:=by omega
   subst hba
   have he:xs.take b++List.replicate (b-b) 0++xs.drop b=xs:=ak
   rw[he]
   have hr:(execOp ρ ⟨dst,.call ⟨.builtin .clear, #[x], #[T]⟩,ty,pos,after,g⟩).run P w=.ok (.value (.tuple #[])) w:=by
    simp only[execOp,resolve,invoke,builtin,Uh,Xn,Ul,hρ _ _ hx,Sem.run_bind,Sem.run_pure,Result.andThen_ok,Builtin.clear_,Vv,Xb,Xc,cS (T:=T),SV.val,SV.cut,Vw]
    cases h:(if s.c=b then s.a else Option.map (λx=>x.add (b*1)) s.a) <;> simp
   rw[hr]
   exact⟨C (Row s eU xs),⟨hw.1,_,hB _ M hM,hl⟩,rfl,rfl⟩
  ·rcases hM with⟨rfl,rfl,rfl⟩|⟨bk,C0,E0,fz,g1,g2,g3,rfl,g5,g6,g7⟩
   ·simp at h2;omega
   ·have g5':C0.size=s.c:=by rw[g5];simp[eU]
    have hbw:w.heap[bk]? =some (.cells C0 E0 fz):=hl.at_ (bk,.cells C0 E0 fz) (ak)
    have hca:¬(s.c=a):=a8
    have hzl:(Builtin.zeroCells z.cells (b-a)).toList=List.replicate (b-a) (.int .u64 0):=by
     rw[hz]
     apply Vu
     intro i
     simp only[Builtin.zeroCells,U7,Array.getElem?_map,List.getElem?_replicate]
     by_cases hi:i<b-a
     ·rw[Array.getElem?_range,if_pos (by simpa using hi),if_pos hi]
      simp only[Vd]
      congr 1
      have:i%(#[Value.int .u64 0]:Array Value).size=0:=aH
      rw[this];all_goals rfl
     ·rw[Array.getElem?_range,if_neg (by simpa using hi),if_neg hi];all_goals rfl
    have hone:∀v∈List.replicate (b-a) (Value.int .u64 0),v.oneCell'=true:=λv hv=>by rw[(List.mem_replicate.1 hv).2];all_goals rfl
    have hst:=ez (P:=P) (o:=a) (List.replicate (b-a) (.int .u64 0)) 0 C0 w hbw (λj _ h=>g6.free j (by rw[Xe]at h;omega)) (cf) hone
    have hr:(execOp ρ ⟨dst,.call ⟨.builtin .clear, #[x], #[T]⟩,ty,pos,after,g⟩).run P w=.ok (.value (.tuple #[])) (e7 w bk (.cells (ej C0 a (List.replicate (b-a) (.int .u64 0))) E0 fz)):=by
     obtain⟨m,hm⟩:∃m,b-a=m+1:=⟨b-a-1,a8⟩
     simp only[execOp,resolve,invoke,builtin,Uh,Xn,Ul,hρ _ _ hx,Sem.run_bind,Sem.run_pure,Result.andThen_ok,Builtin.clear_,Vv,Xb,Xc,cS (T:=T),SV.val,SV.cut,hca,↓reduceIte,g1,Vd,gu,Vf,R6]
     rw[hm]at hst hzl⊢
     simp only[gY (T:=E),Sem.run_bind,Result.andThen_ok,hzl]
     simp only[Ur]at hst
     rw[hst];all_goals rfl
    rw[hr]
    have hfit:a+(List.replicate (b-a) (Value.int .u64 0)).length≤C0.size:=cf
    refine⟨C (Row s eU (xs.take a++List.replicate (b-a) 0++xs.drop b)),⟨⟨hw.1.os,hw.1.tape,hw.1.output⟩,_,hB _ [(bk,.cells (ej C0 a (List.replicate (b-a) (.int .u64 0))) E0 fz)] (.inr ⟨bk,_,E0,fz,g1,?_,g3,rfl,by rw[er,g5],by rw[er];exact g6,?_⟩),?_⟩,rfl,rfl⟩
    ·simp;omega
    ·intro j u hu
     rw[fy _ _ _ _ hfit,Xe]
     have ea:∀l:List Nat,eU.all l=l.map λn=>Value.int .u64 ((n:Nat):Int):=λl=>by
      induction l with
      |nil=>rfl
      |cons x l ih=>rw[Enc.all_cons,ih];all_goals rfl
     rw[ea]at hu
     have g7':∀(j:Nat) (v:Value),(xs.map λn=>Value.int .u64 ((n:Nat):Int))[j]? =some v→C0[j]? =some v:=by rw[←ea];exact g7
     simp only[Va,List.map_take,List.map_drop,List.map_replicate]at hu
     have hlm:(xs.map λn=>Value.int .u64 ((n:Nat):Int)).length=xs.length:=Yh _
     by_cases hj:j<a
     ·rw[if_neg (a8)]
      rw[Yf,Yv (ar),Xz hj]at hu
      exact g7' j u hu
     ·by_cases hj2:j<b
      ·rw[if_pos (a8)]
       rw[Yf,Yu (ar),Yg,hlm,Vk (a8),Yv (cf)]at hu
       exact hu
      ·rw[if_neg (a8)]
       rw[Yu (by rw[Ya,Yg,Xe];omega),Ya,Yg,Xe,hlm,Vk (a8),Xh]at hu
       exact g7' j u (by rw[←hu];congr 1;omega)
    ·have:=ju.change (w':=e7 w bk (.cells (ej C0 a (List.replicate (b-a) (.int .u64 0))) E0 fz)) (L1:=L1) (L2:=L2) (b:=bk) (o:=.cells C0 E0 fz) (o':=.cells (ej C0 a (List.replicate (b-a) (.int .u64 0))) E0 fz) (aP) (fB hbw) (λi hi _=>eL hi)
     simpa using this
theorem vP {f f':FuncId}{fn:Func}{e:Array Value→Sem Next}{xs:List Operand}{ats:Array TypeId}{vs:List Value}{K:Value→cG→Prop}(hf:P.funcs[f]? =some fn) (hn:(fn.name== "runtime.NumGoroutine")=false) (hb:fn.body=none) (h1:Extern.findNext fn=some e) (he:∀a_s w,(e a_s).run P w=.ok (.enter f' a_s) w)
 (hx:oP t xs=some vs) (hc:SC G P f' vs H K):St G P ⟨dst,.call ⟨.value (.func f),xs.toArray,ats⟩,ty,pos,after,g⟩ t H K:=by
 intro ρ hρ w hw
 have h3:ρ (.func f)=.func (.func f) #[] #[]:=hρ _ _ rfl
 have h4:xs.toArray.map ρ=vs.toArray:=bD
 have:(execOp ρ ⟨dst,.call ⟨.value (.func f),xs.toArray,ats⟩,ty,pos,after,g⟩).run P w=.ok (.enter f' vs.toArray) w:=by
  simp only[execOp,resolve,h3,h4,Deferred.ofValue,Sem.run_bind,Sem.run_pure,Result.andThen_ok]
  simp only[invoke,Array.append_empty,Array.empty_append]
  simp only[callFunc,Sem.run_bind,run_program,Result.andThen_ok,hf,hn,hb,h1,Option.isNone_none,↓reduceIte,Xp]
  exact he _ _
 rw[this]
 exact hc.call w hw
theorem ot {op:BinOp}{T:TypeId}{x y:Operand}{w:World}{a b:Option Addr}:(eqGuard op T x y (.pointer a) (.pointer b)).run P w=.ok () w:=by
 cases op <;> simp[eqGuard]
theorem tK {T U E:TypeId}{x y:Operand}{a:Addr}{sz bb:Nat}{z:Value} [hT:Und P T (.pointer E)] [hE:Inf P E sz bb z] (hx:evo t x=some (.pointer (some a))) (hy:evo t y=some (.pointer (some a))):Ev G P ⟨dst,.binOp .eql T x y U,ty,pos,after,g⟩ t H (.bool true):=
 fun ρ hρ w _=>by
  obtain⟨j,hj,_⟩:=hE.out
  simp only[execOp,hρ _ _ hx,hρ _ _ hy,Sem.run_bind,ot,Result.andThen_ok,run_eql_ptr_same w a hT.out hj,Sem.run_pure]
theorem Ab {T U E:TypeId}{x y:Operand}{s:SV}{i sz bb:Nat}{z:Value} [hT:Und P T (.pointer E)] [hE:Inf P E sz bb z] (ha:∃b off,s.a=some ⟨b,off,none⟩) (hx:evo t x=some (.pointer (s.elt 1 i 0))) (hy:evo t y=some (.pointer (s.elt 1 i 0))):Ev G P ⟨dst,.binOp .eql T x y U,ty,pos,after,g⟩ t H (.bool true):=by
 obtain⟨b,off,ha⟩:=ha
 have e:s.elt 1 i 0=some ⟨b,off+(i*1+0),none⟩:=by simp[SV.elt,ha]
 rw[e]at hx hy
 exact tK hx hy
instance rA.head {b:Nat}{l:List Value}:rA (Vr b l::H) b:=⟨λL hL=>by
 obtain⟨L1,L2,rfl,⟨E,rfl⟩,_⟩:=hL
 exact⟨l.toArray,E,Yy _ (Ui.2 rfl)⟩⟩
theorem qM {T U E:TypeId}{x y:Operand}{a b:Nat}{sz bb:Nat}{z:Value} [hT:Und P T (.pointer E)] [hE:Inf P E sz bb z] (hsz:sz≠0) [h1:rA H a] [h2:rA H b] (hne:a≠b) (hx:evo t x=some (.pointer (some ⟨a,0,none⟩))) (hy:evo t y=some (.pointer (some ⟨b,0,none⟩))):Ev G P ⟨dst,.binOp .eql T x y U,ty,pos,after,g⟩ t H (.bool false):=
 fun ρ hρ w hw=>by
  obtain⟨j,hj,hs,_⟩:=hE.out
  obtain⟨C1,E1,q1⟩:=h1.get hw
  obtain⟨C2,E2,q2⟩:=h2.get hw
  simp only[execOp,hρ _ _ hx,hρ _ _ hy,Sem.run_bind,ot,Result.andThen_ok,run_eql_ptr_other w (a:=⟨a,0,none⟩) (b:=⟨b,0,none⟩) hT.out hj (by rw[hs];exact hsz) (λh=>hne (by injection h)) q1 q2,Sem.run_pure]
end
theorem kr (a:Act) (ds:List Deferred) (dst:Option Tmp) (v:Value):({a with defers:=a.defers++ds}:Act).put dst v={a.put dst v with defers:=(a.put dst v).defers++ds}:=by cases dst <;> rfl
theorem wX {P:Program}{ops:Array Oper}{Q:Exit→Act→World→Prop}(ds:List Deferred):∀(l:List Oper) (a:Act) (w:World),wpList P ops (λe a' w'=>Q e {a' with defers:=a'.defers++ds} w') l a w→wpList P ops Q l {a with defers:=a.defers++ds} w
 | [],_,_,h=>h
 |o::l,a,w,h=>by
  have ih:=wX (P:=P) (ops:=ops) (Q:=Q) ds l
  unfold wpList at h⊢
  by_cases hw:Region.wanted o (yielded ops a.tmps)=true
  ·rw[if_pos hw]at h
   rw[if_pos (by exact hw)]
   rcases h with h|⟨h,a0,w0,hq⟩
   ·left
    change o.upon P a _ _ ((execOp a.eval o).run P w)at h
    show o.upon P {a with defers:=a.defers++ds} _ _ ((execOp a.eval o).run P w)
    generalize (execOp a.eval o).run P w=r at h⊢
    unfold Oper.upon at h⊢
    split at h
    ·rw[kr];exact ih _ _ h
    ·rw[kr];exact ih _ _ h
    ·rename_i d w'
     have:=kr {a with defers:=d::a.defers} ds o.dst undef
     simp only at this⊢
     rw[show(d::(a.defers++ds))=(d::a.defers)++ds from rfl,this];exact ih _ _ h
    ·exact Calls.mono h λe w' he=>by
       cases e with
       |returned v=>simp only at he⊢;rw[kr];exact ih _ _ he
       |panicked chain=>exact he
       |outgrown=>obtain⟨a0,w0,hq⟩:=he;exact⟨_,w0,hq⟩
    ·exact Rows.mono h λv w' he=>by rw[kr];exact ih _ _ he
    ·exact h
    ·exact h.elim
   ·exact .inr ⟨h,_,w0,hq⟩
  ·rw[if_neg hw]at h
   rw[if_neg (by exact hw),kr]
   exact ih _ _ h
theorem wY {P:Program}{ops:Array Oper}{Q Q':Exit→Act→World→Prop}(hq:∀e a w,Q e a w→Q' e a w):∀(l:List Oper) (a:Act) (w:World),wpList P ops Q l a w→wpList P ops Q' l a w
 | [],_,_,h=>hq _ _ _ h
 |o::l,a,w,h=>by
  have ih:=wY (P:=P) (ops:=ops) hq l
  unfold wpList at h⊢
  by_cases hw:Region.wanted o (yielded ops a.tmps)=true
  ·rw[if_pos hw]at h⊢
   rcases h with h|⟨h,a0,w0,hq0⟩
   ·left
    change o.upon P a _ _ ((execOp a.eval o).run P w)at h
    show o.upon P a _ _ ((execOp a.eval o).run P w)
    generalize (execOp a.eval o).run P w=r at h⊢
    unfold Oper.upon at h⊢
    split at h
    ·exact ih _ _ h
    ·exact ih _ _ h
    ·exact ih _ _ h
    ·exact Calls.mono h λe w' he=>by
       cases e with
       |returned v=>exact ih _ _ he
       |panicked chain=>exact hq _ _ _ he
       |outgrown=>obtain⟨a0,w0,hq0⟩:=he;exact⟨_,w0,hq _ _ _ hq0⟩
    ·exact Rows.mono h λv w' he=>ih _ _ he
    ·exact hq _ _ _ h
    ·exact h.elim
   ·exact .inr ⟨h,_,w0,hq _ _ _ hq0⟩
  ·rw[if_neg hw]at h⊢
   exact ih _ _ h
section
variable (G:cJ) (P:Program) (N:Nat) (ds:List Deferred)
def upD (Q:Post):Exit→Act→World→Prop:=λe a w=>∃t H a0,Fr N t a0∧a={a0 with defers:=ds}∧Sat G w H∧Q e t H
structure WD (c:Code) (Q:Post) (t:Tm) (H:cG):Prop where
 go:∀a w,Fr N t a→Sat G w H→Code.wp P c (upD G N ds Q) {a with defers:=ds} w
def Jv (y:Code) (Q:Post):Post:=λe t H=>match e with
 | .normal=>WD G P N ds y Q t H
 |e=>Q e t H
end
section
variable {G:cJ}{P:Program}{N:Nat}{ds:List Deferred}{Q:Post}{t:Tm}{H:cG}
theorem D.wk_ (h:Q .normal t H):WD G P N ds .skip Q t H:=⟨λa _ ha hw=>wp_skip ⟨t,H,a,ha,rfl,hw,h⟩⟩
theorem D.we_ {id:Nat}(h:Q (.exit id) t H):WD G P N ds (.exit id) Q t H:=⟨λa _ ha hw=>wp_exit ⟨t,H,a,ha,rfl,hw,h⟩⟩
theorem D.wt_ (h:Q .ret t H):WD G P N ds .ret Q t H:=⟨λa _ ha hw=>wp_ret ⟨t,H,a,ha,rfl,hw,h⟩⟩
theorem D.ws_ {x y:Code}(h:WD G P N ds x (Jv G P N ds y Q) t H):WD G P N ds (.seq x y) Q t H:=
 ⟨λa w ha hw=>wp_seq (wp_mono (h.go a w ha hw) λe a' w' hu=>by
   obtain⟨t',H',a0,ha',rfl,hw',hq⟩:=hu
   cases e <;> first|exact hq.go a0 w' ha' hw'|exact⟨t',H',a0,ha',rfl,hw',hq⟩)⟩
theorem D.wb_ {id:Nat}{c:Code}(h:WD G P N ds c (wS id Q) t H):WD G P N ds (.block id c) Q t H:=
 ⟨λa w ha hw=>wp_block (wp_mono (h.go a w ha hw) λe a' w' hu=>by
   obtain⟨t',H',a0,ha',rfl,hw',hq⟩:=hu
   cases e with
   |exit id'=>
    simp only[wS]at hq
    simp only[Exit.inBlock]
    cases hb:Nat.beq id' id with
    |true=>
     rw[hb]at hq
     rw[if_pos (X2 hb)]
     exact⟨t',H',a0,ha',rfl,hw',hq⟩
    |false=>
     rw[hb]at hq
     rw[if_neg (λe=>by rw[e]at hb;exact absurd (Nat.beq_refl id) (by rw[hb];simp))]
     exact⟨t',H',a0,ha',rfl,hw',hq⟩
   |_=>exact⟨t',H',a0,ha',rfl,hw',hq⟩)⟩
theorem D.eval {N:Nat}{t:Tm}{a:Act}(ha:Fr N t a) (ds:List Deferred) {x:Operand}{v:Value}(h:evo t x=some v):({a with defers:=ds}:Act).eval x=v:=ha.agree x v h
theorem D.w_if {c:Operand}{x y:Code}{b:Bool}(hc:evo t c=some (.bool b)) (ht:b=true→WD G P N ds x Q t H) (hf:b=false→WD G P N ds y Q t H):WD G P N ds (.cond c x y) Q t H:=
 ⟨λa w ha hw=>wp_cond (t:=b) (D.eval ha ds hc) (by
   cases b with
   |true=>exact(ht rfl).go a w ha hw
   |false=>exact(hf rfl).go a w ha hw)⟩
theorem D.wr_ {id:Nat}{l:List Oper}(h:O G P N l.toArray l Q t H):WD G P N ds (.region id l.toArray false) Q t H:=
 ⟨λa w ha hw=>by
   have e:({a with defers:=ds}:Act)={a with defers:=a.defers++ds}:=by rw[ha.defers,Ye]
   rw[e]
   refine wp_region_lit (wX ds l a w (wY ?_ _ _ _ (h.go a w ha hw)))
   rintro e a' w' ⟨t',H',ha',hw',hq⟩
   exact⟨t',H',a',ha',by rw[ha'.defers,Ye],hw',hq⟩⟩
theorem D.w_sub {c:Code}{t':Tm}(hs:Sub t' t) (h:WD G P N ds c Q t' H):WD G P N ds c Q t H:=⟨λa w ha hw=>h.go a w (ha.sub hs) hw⟩
theorem D.w_hsub {c:Code}{H':cG}(hs:cH H H') (h:WD G P N ds c Q t H'):WD G P N ds c Q t H:=⟨λa w ha hw=>h.go a w ha (hs.sat hw)⟩
theorem D.w_loop {c:Code}(α:Type) (I:α→Prop) (fr:α→Tm) (hp:α→cG) (μ:α→Nat) (x0:α) (h0:I x0) (hs:Sub (fr x0) t) (hh:cH H (hp x0))
 (round:∀x,I x→WD G P N ds c (qf I fr hp μ x Q) (fr x) (hp x)):WD G P N ds (.loop c) Q t H:=by
 refine⟨λa w ha hw=>?_⟩
 intro b k cs
 have key:∀n x,μ x=n→I x→∀a w,Fr N (fr x) a→Sat G w (hp x)→
  ∃e a' w',upD G N ds Q e a' w'∧Arrives P (lone (b.at {a with defers:=ds} (.code c:: .inLoop c::k)) cs w) b k cs e a' w':=by
  intro n
  induction n using Nat.strongRecOn with
  |_ n ih=>
   intro x hn hI a w ha hw
   obtain⟨e,a₁,w₁,hq,harr⟩:=(round x hI).go a w ha hw b (.inLoop c::k) cs
   obtain⟨t',H',a0,ha',rfl,hw',hq⟩:=hq
   cases e with
   |normal=>
    obtain⟨y,hy,hlt,hsub,hsat⟩:=hq
    obtain⟨e₂,a₂,w₂,hq₂,harr₂⟩:=ih (μ y) (hn ▸ hlt) y rfl hy a0 w₁ (ha'.sub hsub) (hsat.sat hw')
    exact⟨e₂,a₂,w₂,hq₂,.of_steps (Steps.trans harr (.one step_inLoop)) harr₂⟩
   |exit id=>exact⟨_,_,w₁,⟨t',H',a0,ha',rfl,hw',hq⟩,.pass (x:=.inLoop c) rfl (λ_ _=>.inl (ak)) harr⟩
   |goto l=>exact⟨_,_,w₁,⟨t',H',a0,ha',rfl,hw',hq⟩,.pass (x:=.inLoop c) rfl (λ_ _=>.inl (ak)) harr⟩
   |ret=>exact⟨_,_,w₁,⟨t',H',a0,ha',rfl,hw',hq⟩,.pass (x:=.inLoop c) rfl (λ_ _=>.inl (ak)) harr⟩
   |panic ch=>exact⟨_,_,w₁,⟨t',H',a0,ha',rfl,hw',hq⟩,.pass (x:=.inLoop c) rfl (λ_ _=>.inl (ak)) harr⟩
   |outgrown=>exact⟨_,_,w₁,⟨t',H',a0,ha',rfl,hw',hq⟩,.pass (x:=.inLoop c) rfl (λ_ _=>.inl (ak)) harr⟩
 obtain⟨e,a',w',hq,harr⟩:=key _ x0 rfl h0 a w (ha.sub hs) (hh.sat hw)
 exact⟨e,a',w',hq,.of_steps (.one step_loop) harr⟩
theorem D.wi_ {c:Operand}{x y:Code}{b:Bool}{p q:Prop}(hc:evo t c=some (.bool b):=by exact rfl) (n1:b=true→p:=by intro h;first|(simp only[Xs,Xx,Vq,Uo,Xu,Ub,Ue,Vo,ne_eq,X5]at h;exact h)|exact h) (n2:b=false→q:=by intro h;first|(simp only[Xs,Xx,Vq,Uo,Xu,Ub,Ue,Vo,ne_eq,X5]at h;exact h)|exact h)
 (k:p→WD G P N ds x Q t H) (m:q→WD G P N ds y Q t H):WD G P N ds (.cond c x y) Q t H:=D.w_if hc (λh=>k (n1 h)) (λh=>m (n2 h))
theorem D.ift {c:Operand}{x y:Code}(hc:evo t c=some (.bool true):=by exact rfl) (k:WD G P N ds x Q t H):WD G P N ds (.cond c x y) Q t H:=D.w_if hc (λ_=>k) (λh=>aU)
theorem D.iff_ {c:Operand}{x y:Code}(hc:evo t c=some (.bool false):=by exact rfl) (k:WD G P N ds y Q t H):WD G P N ds (.cond c x y) Q t H:=D.w_if hc (λh=>aU) (λ_=>k)
theorem D.qn_ {y:Code}(h:WD G P N ds y Q t H):Jv G P N ds y Q .normal t H:=h
theorem D.qe_ {y:Code}{id:Nat}(h:Q (.exit id) t H):Jv G P N ds y Q (.exit id) t H:=h
theorem D.qr_ {y:Code}(h:Q .ret t H):Jv G P N ds y Q .ret t H:=h
theorem D.wl2_ {c:Code}(α:Type) (I:α→Prop) (fr:α→Tm) (fc:Tm) (hp:α→cG) (hc:cG) (μ:α→Nat) (x0:α) (hs:Sub (fr x0++fc) t:=by(try dsimp only[Yd,Ye]);exact sbt) (hh:cH H (hp x0++hc):=by(try dsimp only[Yd,Ye]);exact hsb) (h0:I x0)
 (k:∀x,I x→WD G P N ds c (qf I (λx=>fr x++fc) (λx=>hp x++hc) μ x Q) (fr x++fc) (hp x++hc)):WD G P N ds (.loop c) Q t H:=D.w_loop α I (λx=>fr x++fc) (λx=>hp x++hc) μ x0 h0 hs hh k
end
theorem yd {N:Nat}{fn:Func}{args:List Value}(hN:fn.ntmps=N) (hle:args.length≤N):Fr N (nE 0 args) {tmps:=args.toArray++Array.replicate (fn.ntmps-args.toArray.size) undef,defers:= []}:=by
 subst hN
 refine⟨aH,rfl,λn v hv=>?_⟩
 obtain⟨_,h2⟩:=oL args 0 n v hv
 have hlt:=(Yk.1 h2).1
 rw[Uw (by simpa using hlt)]
 simpa using h2
section
variable (G:cJ) (P:Program) (N:Nat)
structure WR (c:Code) (Z:Exit→Act→World→Prop) (t:Tm) (H:cG):Prop where
 go:∀a w,Fr N t a→Sat G w H→Code.wp P c Z a w
def OK (y:Code) (Z:Exit→Act→World→Prop):Post:=λe t H=>match e with
 | .normal=>WR G P N y Z t H
 |_=>False
def At (f:FuncId) (args:Array Value) (H:cG):Prop:=∀w,Sat G w H→CallsD P f args .returning w λe u' w'=>e=.returned (.tuple #[])∧u'=.returning∧Sat G w' H
end
section
variable {G:cJ}{P:Program}{N:Nat}{Z:Exit→Act→World→Prop}{t:Tm}{H:cG}
theorem A.ws_ {x y:Code}(h:W G P N x (OK G P N y Z) t H):WR G P N (.seq x y) Z t H:=
 ⟨λa w ha hw=>wp_seq (wp_mono (h.go a w ha hw) λe a' w' hu=>by
   obtain⟨t',H',ha',hw',hq⟩:=hu
   cases e <;> first|exact hq.go a' w' ha' hw'|exact hq.elim)⟩
theorem A.qn_ {y:Code}(h:WR G P N y Z t H):OK G P N y Z .normal t H:=h
theorem A.sr_ {x y:Code}(h:WR G P N x (Exit.then (y.wp P Z) Z) t H):WR G P N (.seq x y) Z t H:=⟨λa w ha hw=>wp_seq (h.go a w ha hw)⟩
theorem ON {c:Operand}{x y:Code}(hc:evo t c=some (.bool true)) (h:WR G P N x Z t H):WR G P N (.cond c x y) Z t H:=
 ⟨λa w ha hw=>wp_cond (t:=true) (ha.agree c _ hc) (h.go a w ha hw)⟩
theorem OM {id:Nat}{d:Tmp}{f:FuncId}{x:Operand}{tx ty:TypeId}{p1 p2:String}{af1 af2:Array Edge}{tys:Array TypeId}{v:Value}{y:Code}{Q:Post}(hx:evo t x=some v) (hft:fC N (some d)=true) (hev:evo (put t (some d) v) (.tmp d)=some v)
 (hQ:∀e a w,upD G N [⟨.fn (.func f) #[], #[v]⟩] Q e a w→Z e a w) (h:WD G P N [⟨.fn (.func f) #[], #[v]⟩] y Q (put t (some d) v) H):
 WR G P N (.region id [(⟨some d,.move x,tx,p1,af1,none⟩:Oper),⟨none,.defer ⟨.value (.func f), #[.tmp d],tys⟩,ty,p2,af2,none⟩].toArray false) (Exit.then (y.wp P Z) Z) t H:=by
 refine⟨λa1 w ha hw=>wp_region_lit ?_⟩
 have e1:a1.eval x=v:=ha.agree _ _ hx
 unfold wpList
 rw[if_pos (bn)]
 left
 show Oper.upon _ _ _ _ _ ((execOp a1.eval _).run _ _)
 have hx1:(execOp a1.eval ⟨some d,.move x,tx,p1,af1,none⟩).run P w=.ok (.value v) w:=by
  simp[execOp,e1,Sem.run_bind,Sem.run_pure,Result.andThen_ok]
 rw[hx1,Oper.upon_value]
 have ha2:=ha.put (d:=some d) hft v
 obtain⟨a2,ea2⟩:∃a2,a2=a1.put (some d) v:=⟨_,rfl⟩
 rw[←ea2]at ha2
 show wpList _ _ _ _ (a1.put (some d) _) w
 rw[←ea2]
 have e4:a2.eval (.tmp d)=v:=ha2.agree _ _ hev
 unfold wpList
 rw[if_pos (bn)]
 left
 show Oper.upon _ _ _ _ _ ((execOp a2.eval _).run _ _)
 have hy:(execOp a2.eval ⟨none,.defer ⟨.value (.func f), #[.tmp d],tys⟩,ty,p2,af2,none⟩).run P w=.ok (.defer ⟨.fn (.func f) #[], #[v]⟩) w:=by
  simp[execOp,resolve,e4,Act.eval,Deferred.ofValue,Sem.run_bind,Sem.run_pure,Result.andThen_ok]
  simpa [Act.eval] using e4
 rw[hy,Oper.upon_defer]
 refine wpList_nil ?_
 simp only[Exit.then]
 have ed:a2.defers= []:=ha2.defers
 rw[ed]
 exact wp_mono (h.go a2 w ha2 hw) hQ
theorem zI {f:FuncId}{fn:Func}{c:Code}{args:List Value}(hf:P.funcs[f]? =some fn) (hb:fn.body=some c) (hN:fn.ntmps=N) (hle:args.length≤N)
 (h:W G P N c (As P fn λv H'=>v=.tuple #[]∧cH H' H) (nE 0 args) H):At G P f args.toArray H:=λw hw=>
 (callsD_of_wp (R:=λe w'=>e=.returned (.tuple #[])∧Sat G w' H) hf hb (wp_mono (h.go _ w (yd hN hle) hw) λe a' w' hu=>by
   obtain⟨t',H',ha',hw',he,v,⟨rfl,hv⟩,hr⟩:=hu
   rcases he with rfl|rfl
   ·exact⟨ha'.defers,_,hr _ _ _ _ ha' hw',rfl,hv.sat hw'⟩
   ·exact⟨ha'.defers,_,hr _ _ _ _ ha' hw',rfl,hv.sat hw'⟩)).mono λe u' w' h1=>⟨h1.2.1,h1.1,h1.2.2⟩
theorem Cv {f:FuncId}{fn:Func}{v:Value}{K:Value→cG→Prop}(hen:∀(xs:Array Value) w,(callFunc f xs).run P w=.ok (.enter f xs) w) {e:Exit}{a:Act}{w:World}
 (hu:upD G N [⟨.fn (.func f) #[], #[v]⟩] (As P fn λr H'=>At G P f #[v] H'∧∃H'',cH H' H''∧K r H'') e a w):
 bodyPostD P fn (λe w'=>match e with
  | .returned r=>∃H',Sat G w' H'∧K r H'
  |_=>False) e a w:=by
 obtain⟨t',H',a0,ha',rfl,hw',he,r,⟨hq,H'',hs,hk⟩,hr⟩:=hu
 have hL:Leaves P fn a0.tmps (λe w'=>match e with
  | .returned r=>∃H',Sat G w' H'∧K r H'
  |_=>False) [⟨.fn (.func f) #[], #[v]⟩] .returning w:=by
  refine leaves_cons (f:=f) (args:= #[v]) (ak) ?_ ?_
  ·show(callFunc f (#[]++ #[_])).run _ _=_
   exact hen _ _
  ·refine(hq w hw').mono ?_
   rintro e u' w'' ⟨rfl,rfl,hw2⟩
   exact⟨_,hr G N a0 _ ha' hw2,H'',hs.sat hw2,hk⟩
 rcases he with rfl|rfl
 ·exact hL
 ·exact hL
theorem Cm {f:FuncId}{fn:Func}{c:Code}{args:List Value}{K:Value→cG→Prop}(hf:P.funcs[f]? =some fn) (hb:fn.body=some c) (hN:fn.ntmps=N) (hn:(fn.name== "runtime.NumGoroutine")=false) (hle:args.length≤N)
 (h:WR G P N c (bodyPostD P fn (λe w'=>match e with
   | .returned r=>∃H',Sat G w' H'∧K r H'
   |_=>False)) (nE 0 args) H):SC G P f args H K:=by
 refine⟨λxs w=>?_,λw hw=>calls_of_wp_defers hf hb (h.go _ w (yd hN hle) hw)⟩
 have hn':¬fn.name= "runtime.NumGoroutine" :=by simpa using hn
 simp[callFunc,hf,hb,hn']
end
def dec (n:Nat):List Nat:=if h:n<10 then [48+n]else dec (n/10)++ [48+n%10]
 termination_by n
theorem o8 {n:Nat}(h:n<10):dec n= [48+n]:=by rw[dec,dif_pos h]
def tz:Nat→Nat→List Nat
 | 0,_=>[]
 |k+1,r=>if r=0 then []else(48+r*10/262144)::tz k (r*10%262144)
def qV (x:Nat):List Nat:=dec (x/262144)++(if x%262144=0 then []else 46::tz 18 (x%262144))
open Go.Proofs Tryz Tryz
set_option maxRecDepth 100000
def GX:Array Value→Sem Value:=λargs=>do
 let (x,y,c) ←Extern.MathBitsCarry.three "Add64" args
 pure (Extern.MathBitsCarry.pair ((x+y+c)%Extern.MathBitsCarry.m64) ((x+y+c)/Extern.MathBitsCarry.m64))
def Eg:Array Value→Sem Value:=λargs=>do
 let (x,y,b) ←Extern.MathBitsCarry.three "Sub64" args
 pure (Extern.MathBitsCarry.pair ((x+Extern.MathBitsCarry.m64-y-b)%Extern.MathBitsCarry.m64) (if x<y+b then 1 else 0))
theorem uE {P:Program}(n:String) (x y c:Nat) (hc:c≤1) (w:World):(Extern.MathBitsCarry.three n #[uN x,uN y,uN c]).run P w=.ok (x,y,c) w:=by
 have h1:¬(1<c):=a8
 show(bind (asInt (uN c)) _:Sem (Nat×Nat×Nat)).run P w=_
 simp[asInt,asIntOf]
 rw[if_neg (a8)];all_goals rfl
theorem Cr {P:Program}(x y c:Nat) (hc:c≤1) (w:World):(GX #[uN x,uN y,uN c]).run P w=.ok (.tuple #[uN ((x+y+c)%B64),uN ((x+y+c)/B64)]) w:=by
 simp only[GX,Sem.run_bind,uE "Add64" x y c hc w,Result.andThen_ok,Sem.run_pure]
 rfl
theorem Cq {P:Program}(x y c:Nat) (hc:c≤1) (w:World):(Eg #[uN x,uN y,uN c]).run P w=.ok (.tuple #[uN ((x+B64-y-c)%B64),uN (if x<y+c then 1 else 0)]) w:=by
 simp only[Eg,Sem.run_bind,uE "Sub64" x y c hc w,Result.andThen_ok,Sem.run_pure]
 rfl
theorem AQ {G:cJ}{H:cG}{x y c:Nat}(hc:c≤1):SC G prog 125 [uN x,uN y,uN c] H (λv H'=>v=.tuple #[uN ((x+y+c)%B64),uN ((x+y+c)/B64)]∧H'=H):=by
 refine sWk func125 ?_
 refine ws_ (wr_ (e_ asn (k:=e_ asn (k:=on_ (qn_ (ws_ (iff_ (k:=wk_ (qn_ (ws_ (wr_ (e_ mv (k:=e_ mv (k:=?_))))))))))))))
 refine e_ mv (k:=?_)
 refine s_ (vR (vs:= [_,_,_]) func196 (aa) rfl (aa) (aa) rfl (λw=>Cr x y c hc w)) (k:=?_)
 rintro _ _ ⟨rfl,rfl⟩
 refine e_ mv (k:=e_ exr (k:=e_ exr (k:=e_ asn (k:=e_ asn (k:=on_ (qn_ (ws_ (wr_ (e_ mv (k:=e_ mv (k:=e_ asn (k:=e_ asn (k:=on_ (?_))))))))))))))
 refine qn_ (wt_ (rT (k:=?_)))
 exact⟨_,hsb,rfl,rfl⟩
theorem MU {G:cJ}{H:cG}{x y c:Nat}(hc:c≤1):SC G prog 128 [uN x,uN y,uN c] H (λv H'=>v=.tuple #[uN ((x+B64-y-c)%B64),uN (if x<y+c then 1 else 0)]∧H'=H):=by
 refine sWk func128 ?_
 refine ws_ (wr_ (e_ asn (k:=e_ asn (k:=on_ (qn_ (ws_ (iff_ (k:=wk_ (qn_ (ws_ (wr_ (e_ mv (k:=e_ mv (k:=?_))))))))))))))
 refine e_ mv (k:=?_)
 refine s_ (vR (vs:= [_,_,_]) func198 (aa) rfl (aa) (aa) rfl (λw=>Cq x y c hc w)) (k:=?_)
 rintro _ _ ⟨rfl,rfl⟩
 refine e_ mv (k:=e_ exr (k:=e_ exr (k:=e_ asn (k:=e_ asn (k:=on_ (qn_ (ws_ (wr_ (e_ mv (k:=e_ mv (k:=e_ asn (k:=e_ asn (k:=on_ (?_))))))))))))))
 refine qn_ (wt_ (rT (k:=?_)))
 exact⟨_,hsb,rfl,rfl⟩
theorem GQ (a:Nat):a &&& 4294967295=a%4294967296:=V6 a 32
theorem KP {G:cJ}{H:cG}{x y:Nat}(hx:x<18446744073709551616) (hy:y<18446744073709551616):SC G prog 311 [uN x,uN y] H (λv H'=>v=.tuple #[uN (x*y/B64),uN (x*y%B64)]∧H'=H):=by
 obtain⟨bd,bt,bw,hhi⟩:=Lib.mul64_hi x y hx hy
 have ba:=Lib.half_mul_le (a:=x/4294967296) (b:=y/4294967296) (a8) (a8)
 have bb:=Lib.half_mul_le (a:=x/4294967296) (b:=y%4294967296) (a8) (a8)
 have bc:=Lib.half_mul_le (a:=x%4294967296) (b:=y/4294967296) (a8) (a8)
 refine sWk func311 ?_
 refine ws_ (wr_ (e_ asn (k:=e_ asn (k:=on_ (qn_ (ws_ (wr_ (e_ mv (k:=?_)))))))))
 refine e_ (dm (gn 18446744073709551616 rfl rfl rfl rfl x 4294967295 rfl rfl hx (ae)) (congrArg (λn:Nat=>uN n) (GQ x))) (k:=?_)
 refine e_ asn (k:=on_ (qn_ (ws_ (wr_ (e_ mv (k:=?_))))))
 refine e_ (du rfl rfl _ 32 rfl rfl (aq)) (k:=?_)
 refine e_ asn (k:=on_ (qn_ (ws_ (wr_ (e_ mv (k:=?_))))))
 refine e_ (dm (gn 18446744073709551616 rfl rfl rfl rfl y 4294967295 rfl rfl hy (ae)) (congrArg (λn:Nat=>uN n) (GQ y))) (k:=?_)
 refine e_ asn (k:=on_ (qn_ (ws_ (wr_ (e_ mv (k:=?_))))))
 refine e_ (du rfl rfl _ 32 rfl rfl (aq)) (k:=?_)
 refine e_ asn (k:=on_ (qn_ (ws_ (wr_ (e_ mv (k:=e_ mv (k:=?_)))))))
 refine e_ (dm (eh 18446744073709551616 rfl rfl rfl rfl _ _ rfl rfl) (congrArg (λn:Nat=>uN n) (Xt bd))) (k:=?_)
 refine e_ asn (k:=on_ (qn_ (ws_ (wr_ (e_ mv (k:=e_ mv (k:=?_)))))))
 refine e_ (dm (eh 18446744073709551616 rfl rfl rfl rfl _ _ rfl rfl) (congrArg (λn:Nat=>uN n) (Xt (Vl bb (ae))))) (k:=?_)
 refine e_ mv (k:=?_)
 refine e_ (du rfl rfl _ 32 rfl rfl (aq)) (k:=?_)
 refine e_ (jm 18446744073709551616 rfl rfl rfl rfl _ _ rfl rfl bt) (k:=?_)
 refine e_ asn (k:=on_ (qn_ (ws_ (wr_ (e_ mv (k:=?_))))))
 refine e_ (dm (gn 18446744073709551616 rfl rfl rfl rfl _ 4294967295 rfl rfl bt (ae)) (congrArg (λn:Nat=>uN n) (GQ _))) (k:=?_)
 refine e_ asn (k:=on_ (qn_ (ws_ (wr_ (e_ mv (k:=?_))))))
 refine e_ (du rfl rfl _ 32 rfl rfl (aq)) (k:=?_)
 refine e_ asn (k:=on_ (qn_ (ws_ (wr_ (e_ mv (k:=e_ mv (k:=e_ mv (k:=?_))))))))
 refine e_ (dm (eh 18446744073709551616 rfl rfl rfl rfl _ _ rfl rfl) (congrArg (λn:Nat=>uN n) (Xt (Vl bc (ae))))) (k:=?_)
 refine e_ (jm 18446744073709551616 rfl rfl rfl rfl _ _ rfl rfl bw) (k:=?_)
 refine e_ asn (k:=on_ (qn_ (ws_ (wr_ (e_ mv (k:=e_ mv (k:=?_)))))))
 refine e_ (dm (eh 18446744073709551616 rfl rfl rfl rfl _ _ rfl rfl) (congrArg (λn:Nat=>uN n) (Xt (Vl ba (ae))))) (k:=?_)
 refine e_ mv (k:=?_)
 refine e_ (jm 18446744073709551616 rfl rfl rfl rfl _ _ rfl rfl (a8)) (k:=?_)
 refine e_ mv (k:=?_)
 refine e_ (du rfl rfl _ 32 rfl rfl (aq)) (k:=?_)
 refine e_ (dm (jm 18446744073709551616 rfl rfl rfl rfl _ _ rfl rfl (a8)) (congrArg (λn:Nat=>uN n) hhi)) (k:=?_)
 refine e_ asn (k:=on_ (qn_ (ws_ (wr_ (e_ mv (k:=e_ mv (k:=?_)))))))
 refine e_ (eh 18446744073709551616 rfl rfl rfl rfl _ _ rfl rfl) (k:=?_)
 refine e_ asn (k:=on_ (qn_ (wt_ (rT (k:=?_)))))
 exact⟨_,hsb,rfl,rfl⟩
theorem HJ {G:cJ}{H:cG}{x y:Nat}(hx:x<18446744073709551616) (hy:y<18446744073709551616):SC G prog 261 [uN x,uN y] H (λv H'=>v=.tuple #[uN (x*y/B64),uN (x*y%B64)]∧H'=H):=by
 refine sWk func261 ?_
 refine ws_ (wr_ (e_ asn (k:=e_ asn (k:=on_ (qn_ (ws_ (iff_ (k:=wk_ (qn_ (ws_ (wr_ (e_ mv (k:=e_ mv (k:=?_))))))))))))))
 refine d2_ rfl (KP hx hy) (k:=e_ mv (k:=e_ exr (k:=e_ exr (k:=e_ asn (k:=e_ asn (k:=on_ (qn_ (ws_ (wr_ (e_ mv (k:=e_ mv (k:=e_ asn (k:=e_ asn (k:=?_))))))))))))))
 refine on_ (qn_ (wt_ (rT (k:=?_))))
 exact⟨_,hsb,rfl,rfl⟩
theorem KO {G:cJ}{H:cG}{x y:Nat}(hx:x<18446744073709551616) (hy:y<18446744073709551616):SC G prog 199 [uN x,uN y] H (λv H'=>v=.tuple #[uN (x*y/B64),uN (x*y%B64)]∧H'=H):=by
 refine sWk func199 ?_
 refine ws_ (wr_ (e_ asn (k:=e_ asn (k:=on_ (qn_ (ws_ (wr_ (e_ mv (k:=e_ mv (k:=?_))))))))))
 refine d2_ rfl (HJ hx hy) (k:=e_ mv (k:=e_ exr (k:=e_ exr (k:=e_ asn (k:=e_ asn (k:=on_ (qn_ (ws_ (wr_ (e_ mv (k:=e_ mv (k:=e_ asn (k:=e_ asn (k:=?_))))))))))))))
 refine on_ (qn_ (wt_ (rT (k:=?_))))
 exact⟨_,hsb,rfl,rfl⟩
theorem LF {x y:Nat}(hx:x<18446744073709551616) (hy:y<18446744073709551616):x*y≤340282366920938463426481119284349108225:=Nat.mul_le_mul (X9 hx:x≤18446744073709551615) (X9 hy:y≤18446744073709551615)
theorem sC {G:cJ}{H:cG}{x y c:Nat}(hx:x<18446744073709551616) (hy:y<18446744073709551616) (hc:c<18446744073709551616):SC G prog 263 [uN x,uN y,uN c] H (λv H'=>v=.tuple #[uN ((x*y+c)/B64),uN ((x*y+c)%B64)]∧H'=H):=by
 have hm:=LF hx hy
 refine sWk func263 ?_
 refine ws_ (wr_ (e_ asn (k:=e_ asn (k:=on_ (qn_ (ws_ (wr_ (e_ mv (k:=e_ mv (k:=?_))))))))))
 refine d2_ rfl (HJ hx hy) (k:=e_ mv (k:=e_ exr (k:=e_ exr (k:=e_ asn (k:=e_ asn (k:=on_ (qn_ (ws_ (wr_ (e_ asn (k:=on_ (qn_ (ws_ (?_))))))))))))))
 refine wr_ (e_ mv (k:=e_ mv (k:=?_)))
 refine d3_ rfl (AQ (x:=x*y%B64) (y:=c) (c:=0) (ae)) (k:=e_ mv (k:=e_ exr (k:=e_ exr (k:=e_ asn (k:=e_ asn (k:=on_ (qn_ (ws_ (wr_ (e_ mv (k:=e_ mv (k:=?_))))))))))))
 refine e_ (dm (jm 18446744073709551616 rfl rfl rfl rfl (x*y/B64) ((x*y%B64+c+0)/B64) rfl rfl (aG)) (congrArg (λn:Nat=>uN n) (show _=(x*y+c)/B64 from aG))) (k:=?_)
 refine e_ mv (k:=e_ asn (k:=?_))
 refine e_ (asv (v:=uN ((x*y+c)%B64)) rfl (congrArg (λn:Nat=>uN n) (show _=(x*y+c)%B64 from aG))) (k:=?_)
 refine on_ (qn_ (wt_ (rT (k:=?_))))
 exact⟨_,hsb,rfl,rfl⟩
structure NW (F:SV) (all:List Nat) (x:Nat):Prop where
 fl:fO F
 wd:Wd all
 len:all.length=F.c
 tk:all.take (wds x).length=wds x
 le:(wds x).length≤F.c
theorem NW.nil:NW SV.nil [] 0:=⟨.nil,.nil,rfl,by rw[dV];all_goals rfl,by rw[dV];exact Yl _⟩
theorem NW.zero {F:SV}{all:List Nat}(h1:fO F) (h2:Wd all) (h3:all.length=F.c):NW F all 0:=⟨h1,h2,h3,by rw[dV];all_goals rfl,by rw[dV];exact Yl _⟩
theorem NW.sl {F:SV}{all:List Nat}{x:Nat}(h:NW F all x) {H:cG}(hs:Sl H F eU all):Sl H (F.up (wds x).length) eU (wds x):=by
 have:=Sl.up hs h.fl.nc (n:=(wds x).length) (by rw[h.len];exact h.le)
 rw[h.tk]at this;exact this
theorem Lo {G:cJ}{P:Program}{f:FuncId}{args:List Value}{K:Value→cG→Prop}{H:cG}{α:Type}(e:Enc α) (h:SC G P f args (Row SV.nil e []::H) K):SC G P f args H K:=h.heap λ_ hw=>hw.nilRow e
theorem E7 {G:cJ}{H:cG}{F:SV}{n k:Nat}(hF:fO F) (hk:k≤1000000):SC G prog 121 [(F.up n).val,iN k] H (λv H'=>(k≤F.c∧v=(F.up k).val∧H'=H)∨(F.c<k∧∃(F':SV) (m:Nat),v=(F'.up k).val∧fO F'∧F'.c=m∧k≤m∧m≤k+4∧H'=Row F' eU (List.replicate m 0)::H)):=by
 refine sWk func121 ?_
 refine ws_ (wr_ (e_ asn (k:=on_ (qn_ (ws_ (ws_ (wr_ (e_ mv (k:=e_ mv (k:=?_))))))))))
 refine e_ (mQ rfl) (k:=?_)
 refine e_ ile (k:=on_ (qn_ (wi_ (k:=λh1=>?_) (m:=λh1=>?_))))
 ·refine ws_ (wr_ (e_ mv (k:=e_ mv (k:=?_))))
  refine e_ (nD rfl hF k trivial ⟨_,_,rfl,rfl⟩ (az)) (k:=?_)
  refine e_ asn (k:=on_ (qn_ (wt_ (qr_ (rT (k:=?_))))))
  exact⟨_,hsb,.inl ⟨az,rfl,rfl⟩⟩
 refine wk_ (qn_ (ws_ (ws_ (wr_ (e_ mv (k:=e_ ieq (k:=on_ (qn_ (wi_ (k:=λh2=>?_) (m:=λh2=>?_))))))))))
 ·refine ws_ (wr_ (?_))
  refine s_ (xo rfl rfl 1 1 rfl rfl rfl (ae) (ae) (ae)) (k:=?_)
  rintro _ _ ⟨F2,rfl,hF2,hc2,rfl⟩
  refine e_ asn (k:=on_ (qn_ (wt_ (qr_ (rT (k:=?_))))))
  obtain rfl:k=1:=aL
  exact⟨_,hsb,.inr ⟨az,F2,1,rfl,hF2,hc2,a8,a8,rfl⟩⟩
 refine wk_ (qn_ (ws_ (wr_ (e_ mv (k:=e_ mv (k:=e_ iad (k:=?_)))))))
 refine s_ (xo rfl rfl k (k+4) rfl rfl rfl (a8) (a8) (a8)) (k:=?_)
 rintro _ _ ⟨F2,rfl,hF2,hc2,rfl⟩
 refine e_ asn (k:=on_ (qn_ (wt_ (rT (k:=?_)))))
 exact⟨_,hsb,.inr ⟨az,F2,k+4,rfl,hF2,hc2,a8,a8,rfl⟩⟩
theorem uz {G:cJ}{H:cG}{F:SV}{n:Nat}{xs:List Nat}(hF:fO F) (hc:xs.length≤F.c) (hx9:xs.length≤1000000) (hw:Wd xs) [hs:Sl H (F.up n) eU xs]:SC G prog 124 [(F.up n).val] H (λv H'=>v=(F.up (wds (wv xs)).length).val∧H'=H):=by
 refine sWk func124 ?_
 refine ws_ (wr_ (e_ asn (k:=on_ (qn_ (ws_ (wr_ (e_ mv (k:=e_ lnn (k:=e_ asn (k:=on_ (qn_ (ws_ (wb_ (?_))))))))))))))
 refine wl2_ (Nat) (λy=>y≤xs.length∧wv (xs.take y)=wv xs) (λy=>[(3,iN y)]) [(0,_)] (λy=>[]) _ (λy=>y) (xs.length) (h0:=?_) (k:=?_)
 ·try dsimp only
  exact⟨Xj _,by rw[Xk]⟩
 rintro i ⟨hi,hv⟩
 try dsimp only[Yd,Ye]at*
 obtain⟨w,hw0⟩:∃w,0<i→xs[i-1]? =some w:=⟨xs.getD (i-1) 0,λh=>by rw[Xm,Yi (a8)];all_goals rfl⟩
 refine ws_ (ws_ (wr_ (e_ mv (k:=e_ igt (k:=e_ mv (k:=cQ 7 15 (c:=decide ((w:Int)=0)) (k:=λh2=>?_) (q:=?_)))))))
 ·have hi0:0<i:=by have h9:=h2;omega
  have hw1:=hw0 hi0
  refine eg_ mv (k:=eg_ mv (k:=?_))
  refine eg_ (dm isb (congrArg (Value.int .i64) (show _=((i-1:Nat):Int)from a8))) (k:=?_)
  refine eg_ ixa (k:=eg_ (lel (hy:=hw1)) (k:=eg_ ieq (k:=e_ pkt (k:=on_ (edq)))))
 refine on_ (qn_ (wi_ (k:=λh3=>?_) (m:=λh3=>?_)))
 ·obtain⟨c1,c2⟩:=h3
  obtain rfl:w=0:=a8
  obtain⟨j,rfl⟩:∃j,i=j+1:=⟨i-1,a8⟩
  have hj:=hw0 (a8)
  rw[Uj]at hj
  refine wk_ (qn_ (wb_ (wr_ (e_ mv (k:=?_)))))
  refine e_ (dm isb (congrArg (Value.int .i64) (show _=((j:Nat):Int)from a8))) (k:=?_)
  refine e_ asn (k:=on_ (bn_ (?_)))
  refine ln_ (j) (k:=?_)
  try dsimp only
  exact⟨a8,by rw[←hv,Az hj]⟩
 have hfin:=uS hw hi hv λh x hx=>by
  rw[hw0 h]at hx
  have h9:=h3
  rcases Decidable.em (0<i)with h8|h8
  ·rintro rfl;cases hx;first|exact h9 ⟨a8,rfl⟩|simp at h9;omega
  ·omega
 have hil:(wds (wv xs)).length=i:=by rw[←hfin,Yg,Vk hi]
 refine we_ (qe_ (le_ (bh_ (qn_ (ws_ (wr_ (e_ mv (k:=e_ mv (k:=?_)))))))))
 refine e_ (nD rfl hF i ⟨_,rfl⟩ ⟨_,_,rfl,rfl⟩ (a8)) (k:=?_)
 refine e_ asn (k:=on_ (qn_ (wt_ (rT (k:=?_)))))
 exact⟨_,hsb,by rw[hil];all_goals rfl,rfl⟩
theorem AW (o mid post:List Nat) (v:Nat) (h:o.length<mid.length):(o++mid.drop o.length++post).set o.length v=(o++ [v])++mid.drop (o.length+1)++post:=by
 rw[Yf,T7,if_neg (R7 _),Vw,List.drop_eq_getElem_cons h,Yd,S6]
 simp
def RdA (R:cG) (F:SV) (mid post:List Nat) (sx:SV) (xs:List Nat):Prop:=∀o:List Nat,o.length≤mid.length→∃ys:List Nat,Sl (Row F eU (o++mid.drop o.length++post)::R) sx eU ys∧ys.length=xs.length∧∀j,o.length≤j→ys[j]? =xs[j]?
theorem RdA.apart {R:cG}{F:SV}{mid post:List Nat}{sx:SV}{xs:List Nat}(h:Sl R sx eU xs):RdA R F mid post sx xs:=λo _=>⟨xs,inferInstance,rfl,λ_ _=>rfl⟩
theorem vX {R:cG}{F:SV}{o mid post:List Nat}(hF:fO F) (ho:o.length≤mid.length):Sl (Row F eU (o++mid.drop o.length++post)::R) (F.up mid.length) eU (o++mid.drop o.length):=by
 have hl:(o++mid.drop o.length).length=mid.length:=bF
 have:=Sl.up (Sl.row (H:=R) (s:=F) (e:=eU) (xs:=o++mid.drop o.length++post)) hF.nc (n:=mid.length) (aC)
 rwa [List.take_append_of_le_length (a8),Xq (a8)]at this
theorem RdA.self {R:cG}{F:SV}{mid post:List Nat}(hF:fO F):RdA R F mid post (F.up mid.length) mid:=λo ho=>⟨_,vX hF ho,bF,λj hj=>by
 rw[Yu hj,Xh];congr 1;omega⟩
theorem zm {G:cJ}{H R:cG}{F sx:SV}{mid post xs:List Nat}{u r:Nat} [hr:gV H F eU (mid++post) R] (hF:fO F) (hx:RdA R F mid post sx xs) (hl:xs.length=mid.length) (hx9:xs.length≤1000000) (hw:Wd xs) (hy:u<B64) (hr9:r<B64):SC G prog 77 [(F.up mid.length).val,sx.val,uN u,uN r] H (λv H'=>∃(o:List Nat) (c:Nat),v=uN c∧o.length=mid.length∧Wd o∧c<B64∧wv o+B64^mid.length*c=wv xs*u+r∧H'=Row F eU (o++post)::R):=by
 refine eZ (dH hr cH.refl) ?_
 obtain⟨ys0,hs0,hl0,_⟩:=hx [] (Yl _)
 have hz0:=vX (R:=R) (F:=F) (o:= []) (mid:=mid) (post:=post) hF (Yl _)
 simp only[Ye,Yc,Vi]at hs0 hz0
 refine sWk func77 ?_
 refine ws_ (wr_ (e_ asn (k:=on_ (qn_ (ws_ (ws_ (wr_ (e_ mv (k:=e_ lnn (k:=e_ mv (k:=e_ lnn (k:=e_ ine (k:=on_ (?_))))))))))))))
 refine qn_ (wi_ (k:=λh1=>?_) (m:=λh1=>?_))
 ·exfalso;have h9:=h1;omega
 refine wk_ (qn_ (ws_ (wr_ (e_ mv (k:=e_ asn (k:=on_ (qn_ (ws_ (ws_ (wr_ (e_ mv (k:=e_ lnn (k:=e_ mv (k:=?_))))))))))))))
 refine on_ (qn_ (wb_ (wl2_ (Nat×(List Nat)×Nat) (λy=>y.2.1.length=y.1∧y.1≤mid.length∧Wd y.2.1∧y.2.2<B64∧wv y.2.1+B64^y.1*y.2.2=wv (xs.take y.1)*u+r) (λy=>[(8,uN y.2.2),(19,iN y.1)]) [(0,_),(1,_),(2,_),(18,_)] (λy=>[Row F eU (y.2.1++mid.drop y.1++post)]) _ (λy=>mid.length-y.1) ((0, [],r)) (h0:=?_) (k:=?_))))
 ·try dsimp only
  exact⟨rfl,Yl _,Wd.nil,hr9,by simp[wv]⟩
 rintro⟨i,o,c⟩ ⟨hoi,hi,hwo,hc,hv⟩
 try dsimp only[Yd,Ye]at*
 refine ws_ (wr_ (e_ ilt (k:=on_ (qn_ (ws_ (wi_ (k:=λh2=>?_) (m:=λh2=>?_)))))))
 ·have hi2:i<mid.length:=by have h9:=h2;omega
  obtain⟨x,hxi⟩:=gE xs i
  have hxb:=hw.get hxi
  subst hoi
  obtain⟨ys,hsl,hyl,hyg⟩:=hx o (a8)
  have hget:ys[o.length]? =some x:=by rw[hyg _ (Xj _)];exact hxi
  have hzi:=vX (R:=R) (F:=F) (o:=o) (mid:=mid) (post:=post) hF (a8)
  have hol:(o++mid.drop o.length).length=mid.length:=bF
  have hoa:(o++mid.drop o.length++post).length=mid.length+post.length:=by rw[Ya,hol]
  have hcl:=yO hxb hy hc
  have hst:=xX rfl hxi hv
  refine wk_ (qn_ (ws_ (wb_ (ws_ (wr_ (e_ mv (k:=e_ asn (k:=on_ (qn_ (wr_ (e_ mv (k:=e_ mv (k:=e_ mv (k:=?_))))))))))))))
  refine e_ mv (k:=e_ ixa (k:=e_ (lel (hy:=hget)) (k:=e_ mv (k:=e_ mv (k:=?_)))))
  refine d3_ rfl (sC hxb hy hc) (k:=e_ mv (k:=e_ exr (k:=e_ exr (k:=e_ asn (k:=e_ ixa (k:=?_))))))
  refine s_ (dc (s:=F) (i:=o.length) rfl rfl rfl (a8)) (k:=?_)
  rintro _ _ ⟨rfl,rfl⟩
  rw[AW _ _ _ _ hi2]
  refine on_ (bn_ (qn_ (wr_ (e_ iad (k:=e_ mv (k:=on_ (?_)))))))
  refine ln_ ((o.length+1,o++ [(x*u+c)%B64],(x*u+c)/B64)) (k:=?_)
  try dsimp only
  exact⟨ak,a8,hwo.app (Wd.cons (Um _ (ae)) Wd.nil),hcl,hst⟩
 obtain rfl:i=mid.length:=aL
 rw[X4,Ym]
 rw[←hl,Xk,hl]at hv
 refine we_ (qe_ (le_ (bh_ (qn_ (wt_ (rT (k:=?_)))))))
 exact⟨_,hsb,o,c,rfl,hoi,hwo,hc,hv,rfl⟩
def Src (R:cG) (F:SV) (all:List Nat) (sx:SV) (xs:List Nat):Prop:=Sl R sx eU xs∨(sx=F.up xs.length∧xs.length≤F.c∧all.take xs.length=xs)
theorem Src.sl {H R:cG}{F:SV}{all:List Nat}{sx:SV}{xs:List Nat}(h:Src R F all sx xs) (hr:gV H F eU all R) (hF:fO F) (hl:all.length=F.c):Sl H sx eU xs:=by
 refine dj (dH hr cH.refl) ?_
 rcases h with h|⟨rfl,h2,h3⟩
 ·exact Sl.tail
 ·have:=Sl.up (Sl.row (H:=R) (s:=F) (e:=eU) (xs:=all)) hF.nc (n:=xs.length) (a8)
  rwa [h3]at this
theorem NW.src {R:cG}{F:SV}{all:List Nat}{x:Nat}(h:NW F all x):Src R F all (F.up (wds x).length) (wds x):=.inr ⟨rfl,h.le,h.tk⟩
theorem oW {H R:cG}{F:SV}{all:List Nat}(hr:gV H F eU all R):cH H R:=cH.trans (dH hr cH.refl) (cH.drop cH.refl)
theorem qn {G:cJ}{H R:cG}{F sx:SV}{all xs:List Nat}{n k m:Nat} [hr:gV H F eU all R] (hF:fO F) (hl:all.length=F.c) (hw:Wd all) (hk:k≤1000000) (hm:m≤k) (hx:Sl R sx eU xs∨(sx=F.up xs.length∧xs.length=m∧xs.length≤F.c∧all.take xs.length=xs)):SC G prog 121 [(F.up n).val,iN k] H (λv H'=>∃(F':SV) (mid post:List Nat) (R':cG),v=(F'.up k).val∧fO F'∧mid.length=m∧mid.length+post.length=F'.c∧k≤F'.c∧Wd mid∧Wd post∧RdA R' F' mid post sx xs∧cH R' R∧H'=Row F' eU (mid++post)::R'):=by
 refine SC.out ((E7 hF hk).mono ?_)
 rintro v H' (⟨hkc,rfl,rfl⟩|⟨hlt,F',m',rfl,hF',hc',hk',_,rfl⟩)
 ·have hml:(all.take m).length=m:=by rw[Yg];omega
  refine⟨_,dH hr cH.refl,F,all.take m,all.drop m,R,rfl,hF,hml,by rw[hml,Yo];omega,hkc,hw.take m,hw.drop m,?_,cH.refl,by rw[Xv]⟩
  rcases hx with hx|⟨rfl,h2,h3,h4⟩
  ·exact RdA.apart hx
  ·subst h2
   have:=RdA.self (R:=R) (F:=F) (mid:=all.take xs.length) (post:=all.drop xs.length) hF
   rw[hml]at this
   rw[h4]at this⊢
   exact this
 ·refine⟨_,cH.refl,F',List.replicate m 0,List.replicate (m'-m) 0,H,rfl,hF',ak,aH,a8,qc m,qc _,RdA.apart ?_,oW hr,by rw[List.replicate_append_replicate,Nat.add_sub_cancel' (a8)]⟩
  rcases hx with hx|⟨h1,h2,h3,h4⟩
  ·exact dj (oW hr) hx
  ·exact Src.sl (.inr ⟨h1,h3,h4⟩) hr hF hl
theorem NW.mk1 {F:SV}{all:List Nat}{x:Nat}(hF:fO F) (hl:all.length=F.c) (hw:Wd all) (ht:all.take (wds x).length=wds x):NW F all x:=⟨hF,hw,hl,ht,by
 have:=congrArg List.length ht
 rw[Yg]at this;omega⟩
theorem z8 {F:SV}{xs post:List Nat}{x:Nat}(hF:fO F) (hl:xs.length+post.length=F.c) (hw:Wd xs) (hp:Wd post) (hx:wv xs=x):NW F (xs++post) x:=by
 subst hx
 have h1:=BR hw
 exact .mk1 hF (by rw[Ya];exact hl) (hw.app hp) (by rw[List.take_append_of_le_length h1,IE hw])
theorem ir {R:cG}{F:SV}{xs post:List Nat}(hF:fO F) (hl:xs.length+post.length=F.c):Sl (Row F eU (xs++post)::R) (F.up xs.length) eU xs:=by
 have:=Sl.up (Sl.row (H:=R) (s:=F) (e:=eU) (xs:=xs++post)) hF.nc (n:=xs.length) (aC)
 rwa [V3]at this
theorem xe {G:cJ}{H R:cG}{F:SV}{all:List Nat}{n x:Nat} [hr:gV H F eU all R] (hF:fO F) (hl:all.length=F.c) (hw:Wd all) (hx:x<B64):SC G prog 139 [(F.up n).val,uN x] H (λv H'=>∃(F':SV) (all':List Nat),v=(F'.up (wds x).length).val∧NW F' all' x∧H'=Row F' eU all'::R):=by
 refine eZ (dH hr cH.refl) ?_
 refine sWk func139 ?_
 refine ws_ (wr_ (e_ asn (k:=on_ (qn_ (ws_ (ws_ (wr_ (e_ mv (k:=e_ ieq (k:=on_ (qn_ (wi_ (k:=λh1=>?_) (m:=λh1=>?_)))))))))))))
 ·refine ws_ (wr_ (e_ mv (k:=?_)))
  refine e_ (nD rfl hF 0 trivial ⟨_,_,rfl,rfl⟩ (Yl _)) (k:=?_)
  refine e_ asn (k:=on_ (qn_ (wt_ (qr_ (rT (k:=?_))))))
  obtain rfl:x=0:=az
  exact⟨_,hsb,F,all,by rw[dV];all_goals rfl,.zero hF hw hl,rfl⟩
 have hx0:x≠0:=az
 refine wk_ (qn_ (ws_ (wr_ (e_ mv (k:=?_)))))
 refine c2_ rfl (qn (F:=F) (sx:=SV.nil) (xs:= []) (n:=n) (k:=1) (m:=1) hF hl hw (ae) (Xj _) (.inl ⟨λL _=>⟨rfl,Xj _,.inl ⟨rfl,rfl⟩⟩⟩)) (k:=?_)
 rintro _ _ ⟨F2,mid,post,R2,rfl,hF2,hml,hmp,hk2,hwm,hwp,_,hR2,rfl⟩
 haveI hz:=ir (R:=R2) (F:=F2) (xs:=mid) (post:=post) hF2 hmp
 rw[hml]at hz
 refine e_ asn (k:=on_ (qn_ (ws_ (wr_ (e_ mv (k:=e_ mv (k:=e_ (ixa (i:=0)) (k:=?_))))))))
 refine s_ (dc (s:=F2) (i:=0) rfl rfl rfl (aC)) (k:=?_)
 rintro _ _ ⟨rfl,rfl⟩
 refine on_ (qn_ (ws_ (wr_ (e_ mv (k:=e_ asn (k:=on_ (qn_ (wt_ (rT (k:=?_))))))))))
 refine⟨_,cH.keep hR2,F2,_,by rw[gF hx0 hx];all_goals rfl,?_,rfl⟩
 refine .mk1 hF2 (by rw[T6,Ya];omega) ((hwm.app hwp).set hx) ?_
 rw[gF hx0 hx]
 match mid,hml with
 | [a],_=>rfl
theorem C8 {G:cJ}{H R:cG}{F sx:SV}{all:List Nat}{n v u r:Nat} [hr:gV H F eU all R] (hF:fO F) (hl:all.length=F.c) (hw:Wd all) (hx:Src R F all sx (wds v)) (hv0:v≠0) (hu0:u≠0) (hv9:(wds v).length≤1000) (hu:u<B64) (hr9:r<B64):SC G prog 203 [(F.up n).val,sx.val,uN u,uN r] H (λv' H'=>∃(F':SV) (all':List Nat),v'=(F'.up (wds (v*u+r)).length).val∧NW F' all' (v*u+r)∧H'=Row F' eU all'::R):=by
 have hlv:0<(wds v).length:=X1 λh=>hv0 (jN.1 (Vb h))
 haveI hsx:=hx.sl hr hF hl
 refine sWk func203 ?_
 refine ws_ (wr_ (e_ asn (k:=on_ (qn_ (ws_ (wr_ (e_ mv (k:=e_ lnn (k:=e_ asn (k:=on_ (qn_ (ws_ (ws_ (?_))))))))))))))
 refine wr_ (e_ mv (k:=e_ ieq (k:=e_ mv (k:=dz 3 17 (k:=λh1=>eg_ mv (k:=eg_ ieq (k:=e_ pkf (k:=on_ (edq))))) (q:=on_ (qn_ (wi_ (k:=λh2=>?_) (m:=λh2=>?_))))))))
 ·exfalso;have h9:=h2;omega
 refine wk_ (qn_ (ws_ (wr_ (e_ mv (k:=e_ mv (k:=e_ iad (k:=?_)))))))
 refine c2_ rfl (qn (F:=F) (sx:=sx) (xs:=wds v) (n:=n) (k:=(wds v).length+1) (m:=(wds v).length) hF hl hw (a8) (Nat.le_succ _) (hx.imp id λ⟨h1,h2,h3⟩=>⟨h1,rfl,h2,h3⟩)) (k:=?_)
 rintro _ _ ⟨F2,mid,post,R2,rfl,hF2,hml,hmp,hk2,hwm,hwp,hrd,hR2,rfl⟩
 obtain⟨p0,post,rfl⟩:∃p0 q,post=p0::q:=by
  cases post with
  |nil=>simp at hmp;omega
  |cons a q=>exact⟨a,q,rfl⟩
 rw[←hml]
 refine e_ asn (k:=on_ (qn_ (ws_ (wr_ (e_ mv (k:=e_ mv (k:=e_ mv (k:=e_ mv (k:=?_)))))))))
 refine e_ (nD (F:=F2) (n:=mid.length+1) rfl hF2 mid.length ⟨_,rfl⟩ ⟨_,_,rfl,rfl⟩ (a8)) (k:=?_)
 refine e_ mv (k:=e_ mv (k:=e_ mv (k:=?_)))
 refine s_ (vP (vs:= [_,_,_,_]) (e:=Extern.Twins.call "math/big.mulAddVWW_g" f266.params f266.resultTypes) func266 (aa) rfl (aa) (λ_ _=>aa) rfl (zm hF2 hrd hml.symm (a8) (oB v) hu hr9)) (k:=?_)
 rintro _ _ ⟨o,c,rfl,hol,hwo,hc,hval,rfl⟩
 haveI hz:Sl (Row F2 eU (o++p0::post)::R2) (F2.up (mid.length+1)) eU (o++ [p0]):=by
  have:=ir (R:=R2) (F:=F2) (xs:=o++ [p0]) (post:=post) hF2 (by simp at hmp⊢;omega)
  simpa [hol] using this
 have hol2:(o++ [p0]).length=mid.length+1:=by simp[hol]
 have hol3:(o++p0::post).length=mid.length+1+post.length:=by simp[hol];omega
 refine e_ ixa (k:=?_)
 refine s_ (dc (s:=F2) (i:=mid.length) rfl rfl rfl (a8)) (k:=?_)
 rintro _ _ ⟨rfl,rfl⟩
 rw[show(o++p0::post).set mid.length c=(o++ [c])++post by rw[←hol,T7,if_neg (R7 _),Vw];simp]
 have hwv:wv (o++ [c])=v*u+r:=by rw[nN,hol,hval,rY]
 have hoc:(o++ [c]).length=mid.length+1:=by simp[hol]
 haveI hz2:Sl (Row F2 eU (o++ [c]++post)::R2) (F2.up (mid.length+1)) eU (o++ [c]):=by
  have:=ir (R:=R2) (F:=F2) (xs:=o++ [c]) (post:=post) hF2 (by simp at hmp;omega)
  rwa [hoc]at this
 have hwoc:Wd (o++ [c]):=hwo.app (Wd.cons hc Wd.nil)
 refine on_ (qn_ (ws_ (wr_ (e_ mv (k:=?_)))))
 refine d1_ rfl (uz hF2 (a8) (a8) hwoc) (k:=e_ asn (k:=on_ (qn_ (wt_ (rT (k:=?_))))))
 exact⟨_,cH.keep hR2,F2,_,by rw[hwv];all_goals rfl,z8 hF2 (by simp at hmp;omega) hwoc (λq hq=>hwp q (Xa _ hq)) hwv,rfl⟩
def Bg (b x:Nat):Hp:=λL=>∃(F:SV) (all:List Nat),NW F all x∧Sep [Vr b [.bool false,(F.up (wds x).length).val],Row F eU all] L
theorem kE {G:cJ}{P:Program}{f:FuncId}{args:List Value}{K:Value→cG→Prop}{H R:cG}(b:Nat) {x:Nat} [hr:Rem H Bg b x R] (en:∀(q0:Array Value) w,(callFunc f q0).run P w=.ok (.enter f q0) w) (h:∀(F:SV) (all:List Nat),NW F all x→SC G P f args (Vr b [.bool false,(F.up (wds x).length).val]::Row F eU all::R) K):SC G P f args H K:=
 SC.heap (H':=Bg b x::R) ⟨en,λw hw=>by
  obtain⟨hs,L,⟨L1,L2,rfl,⟨F,all,hn,M1,M2,rfl,h1,M3,M4,rfl,h2,h3⟩,h4⟩,hl⟩:=hw
  obtain rfl:M4= []:=h3
  exact(h F all hn).call w ⟨hs,_,⟨M1,M3++L2,ak,h1,M3,L2,rfl,h2,h4⟩,hl⟩⟩ λ_ hw=>hr.sat hw
section
variable {G:cJ}{P:Program}{N:Nat}{Q:Post}{t:Tm}{H:cG}{ops:Array Oper}{l:List Oper}{dst:Option Tmp}{ty:TypeId}{pos:String}{after:Array Edge}{g:Option (Nat×Bool)}
theorem eg {R R' H':cG}{b x:Nat}{F:SV}{all:List Nat}(hn:NW F all x) [hr:Rem H Vr b [.bool false,(F.up (wds x).length).val] R] [hr2:gV R F eU all R'] (h:cH R' H'):cH H (Bg b x::H'):=by
 refine cH.rem hr (cH.trans (H':=Vr b [.bool false,(F.up (wds x).length).val]::Row F eU all::R') ?_ ?_)
 ·exact cH.keep (dH hr2 cH.refl)
 ·intro L hL
  obtain⟨L1,L2,rfl,h1,L3,L4,rfl,h3,h4⟩:=hL
  obtain⟨L',M,h5,h6⟩:=h L4 h4
  exact⟨(L1++L3)++L',M,⟨L1++L3,L',rfl,⟨F,all,hn,L1,L3,rfl,h1,L3, [],ak,h3,rfl⟩,h5⟩,aJ⟩
theorem PU {R R2:cG}(a b:Nat) {l1 l2:List Value} [hr:Rem H Vr a l1 R] [hr2:Rem R Vr b l2 R2] (h:a≠b→O G P N ops l Q t H):O G P N ops l Q t H:=
 ⟨λa0 w ha hw=>(h (by
   obtain⟨_,L,hL,hl⟩:=hw
   obtain⟨L',hp,L1,L2,rfl,⟨E1,rfl⟩,h2⟩:=hr.out L hL
   obtain⟨L3,hp2,L4,L5,rfl,⟨E2,rfl⟩,h4⟩:=hr2.out L2 h2
   have hn:=((hp.map (·.1)).nodup_iff).2 hl.nodup
   rw[Va,R5]at hn
   have hm:b∈L2.map (·.1):=((hp2.map (·.1)).mem_iff).1 (ak)
   exact λhe=>hn.2.2 a (ak) b hm he)).go a0 w ha hw⟩
theorem OH {T U:TypeId}{x y:Operand}{a b:Bool} [hT:Und P T .bool] (hx:evo t x=some (.bool a)) (hy:evo t y=some (.bool b)):Ev G P ⟨dst,.binOp .neq T x y U,ty,pos,after,g⟩ t H (.bool (a !=b)):=fun ρ hρ w _=>by
 have h2:=iA (P:=P) (w:=w) (T:=T) (x:=.bool a) (y:=.bool b) (r:=(a==b)) (λd=>ax)
 simp[execOp,hρ _ _ hx,hρ _ _ hy,eqGuard,binOp,h2,bne]
theorem Qu {T U:TypeId}{x y:Operand}{a b:Bool} [hT:Und P T .bool] (hx:evo t x=some (.bool a)) (hy:evo t y=some (.bool b)):Ev G P ⟨dst,.binOp .eql T x y U,ty,pos,after,g⟩ t H (.bool (a==b)):=fun ρ hρ w _=>by
 have h2:=iA (P:=P) (w:=w) (T:=T) (x:=.bool a) (y:=.bool b) (r:=(a==b)) (λd=>ax)
 simp[execOp,hρ _ _ hx,hρ _ _ hy,eqGuard,binOp,h2]
end
theorem KL {G:cJ}{H:cG}{F sx sy:SV}{ys:List Nat}{n:Nat}{q:Value}(hF:fO F) [hy:Sl H sy eU ys] [hx:Sl H sx eU ([]:List Nat)] (hy0:0<ys.length):SC G prog 130 [(F.up n).val,q,sy.val,sx.val] H (λv H'=>v=(F.up 0).val∧H'=H):=by
 refine sWk func130 ?_
 refine ws_ (wr_ (e_ asn (k:=on_ (qn_ (ws_ (wr_ (e_ mv (k:=e_ lnn (k:=e_ asn (k:=on_ (qn_ (ws_ (wr_ (?_))))))))))))))
 refine e_ mv (k:=e_ lnn (k:=e_ asn (k:=on_ (qn_ (ws_ (wb_ (ws_ (wr_ (e_ mv (k:=e_ mv (k:=e_ ilt (k:=e_ asn (k:=on_ (?_))))))))))))))
 refine qn_ (wi_ (k:=λh1=>?_) (m:=λh1=>?_))
 ·exfalso;have h9:=h1;simp at h9;omega
 refine ws_ (wr_ (e_ mv (k:=e_ ieq (k:=e_ mv (k:=dz 3 32 (k:=λh2=>eg_ mv (k:=eg_ ieq (k:=e_ pkf (k:=on_ (edq))))) (q:=e_ asn (k:=on_ (qn_ (wi_ (k:=λh3=>?_) (m:=λh3=>?_))))))))))
 ·refine ws_ (wr_ (e_ mv (k:=?_)))
  refine e_ (nD rfl hF 0 trivial ⟨_,_,rfl,rfl⟩ (Yl _)) (k:=?_)
  refine e_ asn (k:=on_ (qn_ (wt_ (br_ (qr_ (rT (k:=?_)))))))
  exact⟨_,hsb,rfl,rfl⟩
 exfalso;have h9:=h3;simp at h9
theorem gX {u:Nat}(h0:u≠0) (h:u<B64):(wds u).length=1:=by rw[gF h0 h];all_goals rfl
theorem JM {G:cJ}{H R:cG}{F sx sy:SV}{all:List Nat}{n v u:Nat}{q:Value} [hr:gV H F eU all R] (hF:fO F) (hl:all.length=F.c) (hw:Wd all) (hx:Src R F all sx (wds v)) [hy:Sl R sy eU (wds u)] (hu0:u≠0) (hu:u<B64) (hv9:(wds v).length≤1000):SC G prog 130 [(F.up n).val,q,sx.val,sy.val] H (λv' H'=>∃(F':SV) (all':List Nat),v'=(F'.up (wds (v*u)).length).val∧NW F' all' (v*u)∧H'=Row F' eU all'::R):=by
 haveI hsx:=hx.sl hr hF hl
 haveI hsy:=dj (oW hr) hy
 have hul:=gX hu0 hu
 refine sWk func130 ?_
 refine ws_ (wr_ (e_ asn (k:=on_ (qn_ (ws_ (wr_ (e_ mv (k:=e_ lnn (k:=e_ asn (k:=on_ (qn_ (ws_ (wr_ (?_))))))))))))))
 refine e_ mv (k:=e_ lnn (k:=e_ asn (k:=on_ (qn_ (ws_ (wb_ (ws_ (wr_ (e_ mv (k:=e_ mv (k:=e_ ilt (k:=e_ asn (k:=on_ (?_))))))))))))))
 refine qn_ (wi_ (k:=λh1=>?_) (m:=λh1=>?_))
 ·have hv0:v=0:=jN.1 (Vb (az))
  subst hv0
  rw[dV]at hsx
  refine ws_ (wr_ (e_ mv (k:=e_ mv (k:=e_ mv (k:=e_ mv (k:=?_))))))
  refine cp_ (vs:=[_,_,_,_]) rfl (KL (sx:=sx) (sy:=sy) (ys:=wds u) hF (a8)) (k:=e_ asn (k:=on_ (qn_ (wt_ (br_ (qr_ (rT (k:=?_))))))))
  exact⟨_,dH hr cH.refl,F,all,by rw[Nat.zero_mul,dV];all_goals rfl,by rw[Nat.zero_mul];exact .zero hF hw hl,rfl⟩
 have hv0:v≠0:=λh8=>by
  have h9:=h1
  have h7:(wds v).length=0:=by rw[h8,dV];all_goals rfl
  omega
 refine ws_ (wr_ (e_ mv (k:=e_ ieq (k:=e_ mv (k:=dz 3 32 (k:=λh2=>eg_ mv (k:=eg_ ieq (k:=e_ pkf (k:=on_ (edq))))) (q:=e_ asn (k:=on_ (qn_ (wi_ (k:=λh3=>?_) (m:=λh3=>?_))))))))))
 ·exfalso;have h9:=h3;omega
 refine ws_ (wr_ (e_ mv (k:=e_ ieq (k:=e_ asn (k:=on_ (qn_ (wi_ (k:=λh4=>?_) (m:=λh4=>?_))))))))
 ·refine ws_ (wr_ (e_ mv (k:=e_ mv (k:=e_ mv (k:=e_ (ixa (i:=0)) (k:=e_ (lel (hy:=(show(wds u)[0]? =some u by rw[gF hu0 hu];all_goals rfl))) (k:=?_)))))))
  refine s_ (dy (vs:= [_,_,_,_]) rfl (C8 (v:=v) (u:=u) (r:=0) hF hl hw hx hv0 hu0 hv9 hu (ae))) (k:=?_)
  rintro _ _ ⟨F2,all2,rfl,hn2,rfl⟩
  refine e_ asn (k:=on_ (qn_ (wt_ (br_ (qr_ (rT (k:=?_)))))))
  exact⟨_,hsb,F2,all2,rfl,hn2,rfl⟩
 exfalso;have h9:=h4;omega
theorem HL {G:cJ}{H R R2:cG}{b c v u:Nat} [hb:Rem H Bg b v R] [hc:Rem R Bg c u R2] (hu0:u≠0) (hu:u<B64) (hv9:(wds v).length≤1000):SC G prog 82 [pA b,.pointer none,pA b,pA c] H (λv' H'=>v'=.tuple #[]∧H'=Bg b (v*u)::Bg c u::R2):=by
 refine eZ (cH.rem hb (cH.keep (cH.rem hc cH.refl))) ?_
 have hen:∀(q0:Array Value) w,(callFunc 82 q0).run prog w=.ok (.enter 82 q0) w:=λ_ _=>aa
 refine kE b hen λF all hn=>kE c hen λF' all' hn'=>?_
 refine sWk func82 ?_
 refine ws_ (ws_ (wr_ (?_)))
 refine PU c b λhcb=>?_
 refine e_ mv (k:=e_ mv (k:=?_))
 refine e_ (qM (ae) (Ne.symm hcb) rfl rfl) (k:=?_)
 refine on_ (qn_ (wi_ (k:=λh1=>?_) (m:=λh1=>?_)))
 ·exact absurd h1 (ae)
 refine wk_ (qn_ (ws_ (?_)))
 refine wD [14,17] (λk H=>(k=4→cY H b [.bool false,(F.up (wds v).length).val])∧(k=9→cY H b [.bool false,(F.up (wds v).length).val])∧(k=13→cY H c [.bool false,(F'.up (wds u).length).val])) (aF 0 (k:=aF 1 (k:=aF 2 (k:=aF 3 (k:=?_)))))
 refine aN 4 rfl (λH hH=>aw) (?_)
 refine aF 5 (k:=aF 6 (k:=aF 7 (k:=aF 8 (k:=?_))))
 refine aN 9 rfl (λH hH=>aE) (?_)
 refine aF 10 (k:=aF 11 (k:=aF 12 (k:=?_)))
 refine aN 13 rfl (λH hH=>cj) (?_)
 refine jR 14 rfl (aa) rfl (λk hk=>⟨λhi=>ah,λhi=>ah,λhi=>ah⟩) (dy (vs:= [_,_,_,_]) rfl (JM (sy:=F'.up (wds u).length) (hy:=hn'.sl inferInstance) hn.fl hn.len hn.wd hn.src hu0 hu hv9)) ?_
 rintro _ _ ⟨F2,all2,rfl,hn2,rfl⟩
 refine aF 15 (k:=aF 16 (k:=?_))
 refine aS 17 rfl (db rfl rfl rfl) ?_
 rintro _ _ ⟨rfl,rfl⟩
 refine aZ (qn_ (?_))
 refine wD [20] (λk H=>(k=4→cY H b [.bool false,(F2.up (wds (v*u)).length).val])∧(k=5→Sl H (F2.up (wds (v*u)).length) eU (wds (v*u)))∧(k=11→cY H b [.bool false,(F2.up (wds (v*u)).length).val])∧(k=15→cY H c [.bool false,(F'.up (wds u).length).val])) (aF 0 (k:=aF 1 (k:=aF 2 (k:=aF 3 (k:=?_)))))
 refine aN 4 rfl (λH hH=>aw) (?_)
 refine aN 5 rfl (λH hH=>by have hN:=hH.2.1 rfl;exact lnn) (?_)
 refine aF 6 (k:=?_)
 refine fU 7 rfl rfl (aa) rfl (cU λH hH=>mv) (λh2=>?_) (λh2=>?_)
 ·replace h2:=nrm h2
  refine ag_ 8 (q:=cU λH hH=>mv) (k:=ag_ 9 (q:=cU λH hH=>nck) (k:=ag_ 10 (q:=cU λH hH=>fla) (k:=?_)))
  refine fg 11 rfl rfl rfl rfl (aa) rfl (cU λH hH=>bZ) (?_)
  refine ag_ 12 (q:=cU λH hH=>mv) (k:=ag_ 13 (q:=cU λH hH=>nck) (k:=ag_ 14 (q:=cU λH hH=>fla) (k:=?_)))
  refine fg 15 rfl rfl rfl rfl (aa) rfl (cU λH hH=>by have hN:=hH.2.2.2 rfl;exact ldv) (?_)
  refine fg 16 rfl rfl rfl rfl (aa) rfl (cU λH hH=>OH rfl rfl) (?_)
  refine aF 17 (k:=aF 18 (k:=aF 19 (k:=?_)))
  refine jR 20 rfl (aa) rfl (λk hk=>⟨λhi=>ah,λhi=>ah,λhi=>ah,λhi=>ah⟩) (db rfl rfl rfl) ?_
  rintro _ _ ⟨rfl,rfl⟩
  refine aZ (rT (k:=?_))
  exact⟨_,eg hn2 (eg hn' cH.refl),rfl,rfl⟩
 replace h2:=nrm h2
 refine ao_ 8 (k:=ao_ 9 (k:=ao_ 10 (k:=ao_ 11 (k:=ao_ 12 (k:=ao_ 13 (k:=ao_ 14 (k:=ao_ 15 (k:=ao_ 16 (k:=aF 17 (k:=aF 18 (k:=aF 19 (k:=?_))))))))))))
 refine jR 20 rfl (aa) rfl (λk hk=>⟨λhi=>ah,λhi=>ah,λhi=>ah,λhi=>ah⟩) (db rfl rfl rfl) ?_
 rintro _ _ ⟨rfl,rfl⟩
 refine aZ (rT (k:=?_))
 exact⟨_,eg hn2 (eg hn' cH.refl),rfl,rfl⟩
theorem N8 {G:cJ}{H R R2:cG}{b c v u:Nat} [hb:Rem H Bg b v R] [hc:Rem R Bg c u R2] (hu0:u≠0) (hu:u<B64) (hv9:(wds v).length≤1000):SC G prog 37 [pA b,pA b,pA c] H (λv' H'=>v'=pA b∧H'=Bg b (v*u)::Bg c u::R2):=by
 refine sWk func37 ?_
 refine ws_ (wr_ (e_ asn (k:=on_ (qn_ (ws_ (wr_ (e_ mv (k:=e_ mv (k:=e_ mv (k:=?_))))))))))
 refine cp_ (vs:=[_,_,_,_]) rfl (HL hu0 hu hv9) (k:=on_ (qn_ (ws_ (wr_ (e_ mv (k:=e_ asn (k:=on_ (qn_ (wt_ (rT (k:=?_)))))))))))
 exact⟨_,cH.refl,rfl,rfl⟩
theorem rF {G:cJ}{H:cG}{x:Nat}(hx:x<9223372036854775808):SC G prog 38 [iN x] H (λv' H'=>∃b:Nat,v'=pA b∧H'=Bg b x::H):=by
 refine sWk func38 ?_
 refine ws_ (wr_ (e_ asn (k:=on_ (qn_ (ws_ (wr_ (e_ mv (k:=?_))))))))
 refine e_ (cR 18446744073709551616 rfl rfl rfl x rfl (a8)) (k:=?_)
 refine e_ asn (k:=on_ (qn_ (ws_ (ws_ (wr_ (e_ mv (k:=e_ ilt (k:=on_ (qn_ (wi_ (k:=λh1=>?_) (m:=λh1=>?_)))))))))))
 ·exfalso;have h9:=h1;omega
 refine wk_ (qn_ (ws_ (wr_ (e_ asn (k:=on_ (qn_ (ws_ (ws_ (wr_ (e_ mv (k:=e_ ieq (k:=on_ (qn_ (?_))))))))))))))
 refine wi_ (k:=λh2=>?_) (m:=λh2=>?_)
 ·obtain rfl:x=0:=by have h9:=h2;omega
  refine wk_ (qn_ (ws_ (wr_ (e_ mv (k:=e_ ilt (k:=e_ mv (k:=e_ (bld [(0,_),(1,_)]) (k:=bxx (k:=λb28=>?_)))))))))
  refine e_ asn (k:=on_ (qn_ (wt_ (rT (k:=?_)))))
  rw[show decide (((0:Nat):Int)<0)=false from rfl]
  exact⟨_,cH.trans (H':=Vr b28 [.bool false,(SV.nil.up (wds 0).length).val]::Row SV.nil eU []::H) (by rw[dV];exact cH.keep (cH.add (.inl ⟨rfl,rfl,rfl⟩) cH.refl)) (eg NW.nil cH.refl),_,rfl,rfl⟩
 have hx0:x≠0:=aL
 refine ws_ (wr_ (e_ mv (k:=of_ (k:=of_ (k:=of_ (k:=e_ pkf (k:=on_ (qn_ (iff_ (k:=wr_ (e_ mv (k:=?_))))))))))))
 refine s_ (Ci rfl) (k:=?_)
 rintro _ _ ⟨F,rfl,hF,hc,rfl⟩
 refine e_ asn (k:=on_ (qn_ (ws_ (wr_ (e_ mv (k:=e_ ilt (k:=e_ mv (k:=e_ (bld [(0,_),(1,_)]) (k:=bxx (k:=λb28=>?_))))))))))
 refine e_ asn (k:=on_ (qn_ (wt_ (rT (k:=?_)))))
 have hn:NW F [x] x:=⟨hF,Wd.cons (aG) Wd.nil,by rw[hc];all_goals rfl,by rw[gF hx0 (aG)];all_goals rfl,by rw[gF hx0 (aG),hc];exact Xj _⟩
 rw[show F.up 1=F.up (wds x).length by rw[gF hx0 (aG)];all_goals rfl,show decide ((x:Int)<0)=false from Yr (a8)]
 exact⟨_,eg hn cH.refl,_,rfl,rfl⟩
theorem E4 {G:cJ}{H R:cG}{F:SV}{all:List Nat}{n:Nat} [hr:gV H F eU all R] (hF:fO F) (hl:all.length=F.c) (hn:n≤F.c) (hn9:n≤1000000):SC G prog 120 [(F.up n).val,(F.up n).val] H (λv' H'=>v'=(F.up n).val∧H'=Row F eU all::R):=by
 refine eZ (dH hr cH.refl) ?_
 haveI hz:Sl (Row F eU all::R) (F.up n) eU (all.take n):=Sl.up (Sl.row (H:=R)) hF.nc (a8)
 have htl:(all.take n).length=n:=ar
 refine sWk func120 ?_
 refine ws_ (wr_ (e_ asn (k:=on_ (qn_ (ws_ (wr_ (e_ mv (k:=e_ mv (k:=?_)))))))))
 refine e_ (dm lnn (congrArg (λn:Nat=>iN n) htl)) (k:=?_)
 refine c2_ rfl (E7 (F:=F) (n:=n) (k:=n) hF hn9) (k:=?_)
 rintro _ _ (⟨_,rfl,rfl⟩|⟨h8,_⟩)
 ·have hcp:F.up n=F.cut 1 0 n:=(hF.cut0 n).symm
  rw[hcp]
  refine e_ asn (k:=on_ (qn_ (ws_ (wr_ (e_ mv (k:=e_ mv (k:=?_)))))))
  refine s_ (rG (s:=F) (a:=0) (b:=n) (s2:=F.up n) rfl (by exact congrArg (λs:SV=>some s.val) hcp.symm) rfl (Yl _) (a8) n (by rw[htl,S0,Nat.min_self])) (k:=?_)
  rintro _ _ ⟨rfl,rfl⟩
  rw[show all.take 0++(all.take n).take n++all.drop (0+n)=all by rw[S8,Ye,R9,Nat.min_self,Vf,Xv]]
  refine on_ (qn_ (ws_ (wr_ (e_ mv (k:=e_ asn (k:=on_ (qn_ (wt_ (rT (k:=?_))))))))))
  exact⟨_,hsb,rfl,rfl⟩
 omega
theorem JI {G:cJ}{H R:cG}{F sx:SV}{all xs:List Nat}{n:Nat} [hr:gV H F eU all R] (hF:fO F) (hl:all.length=F.c) (hw:Wd all) [hx:Sl R sx eU xs] (hx9:xs.length≤1000000) (hwx:Wd xs):SC G prog 120 [(F.up n).val,sx.val] H (λv' H'=>∃(F':SV) (all':List Nat),v'=(F'.up xs.length).val∧fO F'∧all'.length=F'.c∧Wd all'∧all'.take xs.length=xs∧H'=Row F' eU all'::R):=by
 refine eZ (dH hr cH.refl) ?_
 refine sWk func120 ?_
 refine ws_ (wr_ (e_ asn (k:=on_ (qn_ (ws_ (wr_ (e_ mv (k:=e_ mv (k:=e_ lnn (k:=?_))))))))))
 refine c2_ rfl (qn (F:=F) (sx:=sx) (xs:=xs) (n:=n) (k:=xs.length) (m:=xs.length) hF hl hw hx9 (Xj _) (.inl hx)) (k:=?_)
 rintro _ _ ⟨F2,mid,post,R2,rfl,hF2,hml,hmp,hk2,hwm,hwp,_,hR2,rfl⟩
 haveI hx2:Sl R2 sx eU xs:=dj hR2 hx
 rw[←hF2.cut0 xs.length]
 refine e_ asn (k:=on_ (qn_ (ws_ (wr_ (e_ mv (k:=e_ mv (k:=?_)))))))
 refine s_ (rG (s:=F2) (a:=0) (b:=xs.length) (s2:=sx) rfl rfl rfl (Yl _) (aC) xs.length (by rw[S0,Nat.min_self])) (k:=?_)
 rintro _ _ ⟨rfl,rfl⟩
 rw[show(mid++post).take 0++xs.take xs.length++(mid++post).drop (0+xs.length)=xs++post by rw[S8,Ye,Xk,Vf,←hml,Xy]]
 refine on_ (qn_ (ws_ (wr_ (e_ mv (k:=e_ asn (k:=on_ (qn_ (wt_ (rT (k:=?_))))))))))
 exact⟨_,cH.keep hR2,F2,xs++post,by rw[hF2.cut0];all_goals rfl,hF2,aC,hwx.app hwp,V3,rfl⟩
theorem C7 {G:cJ}{H R:cG}{F sy:SV}{all:List Nat}{v:Nat} [hr:gV H F eU all R] (hn:NW F all v) (hv0:v≠0) (hv9:(wds v).length≤1000) [hy:Sl R sy eU ([]:List Nat)]:SC G prog 79 [(F.up (wds v).length).val,(F.up (wds v).length).val,sy.val] H (λv' H'=>v'=(F.up (wds v).length).val∧H'=Row F eU all::R):=by
 refine eZ (dH hr cH.refl) ?_
 haveI hz:Sl (Row F eU all::R) (F.up (wds v).length) eU (wds v):=hn.sl inferInstance
 have hlv:0<(wds v).length:=X1 λh=>hv0 (jN.1 (Vb h))
 refine sWk func79 ?_
 refine ws_ (wr_ (e_ asn (k:=on_ (qn_ (ws_ (wr_ (e_ mv (k:=e_ lnn (k:=e_ asn (k:=on_ (qn_ (ws_ (wr_ (?_))))))))))))))
 refine e_ mv (k:=e_ lnn (k:=e_ asn (k:=on_ (qn_ (ws_ (wb_ (ws_ (wr_ (e_ mv (k:=e_ mv (k:=e_ ilt (k:=e_ asn (k:=on_ (?_))))))))))))))
 refine qn_ (wi_ (k:=λh1=>?_) (m:=λh1=>?_))
 ·exfalso;have h9:=h1;simp at h9;omega
 refine ws_ (wr_ (e_ mv (k:=e_ ieq (k:=e_ asn (k:=on_ (qn_ (wi_ (k:=λh2=>?_) (m:=λh2=>?_))))))))
 ·exfalso;have h9:=h2;omega
 refine ws_ (wr_ (e_ mv (k:=e_ ieq (k:=e_ asn (k:=on_ (qn_ (wi_ (k:=λh3=>?_) (m:=λh3=>?_))))))))
 ·refine ws_ (wr_ (e_ mv (k:=e_ mv (k:=?_))))
  refine d2_ rfl (E4 hn.fl hn.len hn.le (a8)) (k:=e_ asn (k:=on_ (qn_ (wt_ (br_ (qr_ (rT (k:=?_))))))))
  exact⟨_,hsb,rfl,rfl⟩
 exfalso;have h9:=h3;simp at h9
theorem KM {G:cJ}{H R:cG}{F sx sy:SV}{all:List Nat}{n u:Nat} [hr:gV H F eU all R] (hF:fO F) (hl:all.length=F.c) (hw:Wd all) [hx:Sl (Row F eU all::R) sx eU ([]:List Nat)] [hy:Sl R sy eU (wds u)] (hu0:u≠0) (hu9:(wds u).length≤1000):SC G prog 79 [(F.up n).val,sy.val,sx.val] H (λv' H'=>∃(F':SV) (all':List Nat),v'=(F'.up (wds u).length).val∧NW F' all' u∧H'=Row F' eU all'::R):=by
 refine eZ (dH hr cH.refl) ?_
 have hlv:0<(wds u).length:=X1 λh=>hu0 (jN.1 (Vb h))
 refine sWk func79 ?_
 refine ws_ (wr_ (e_ asn (k:=on_ (qn_ (ws_ (wr_ (e_ mv (k:=e_ lnn (k:=e_ asn (k:=on_ (qn_ (ws_ (wr_ (?_))))))))))))))
 refine e_ mv (k:=e_ lnn (k:=e_ asn (k:=on_ (qn_ (ws_ (wb_ (ws_ (wr_ (e_ mv (k:=e_ mv (k:=e_ ilt (k:=e_ asn (k:=on_ (?_))))))))))))))
 refine qn_ (wi_ (k:=λh1=>?_) (m:=λh1=>?_))
 ·exfalso;have h9:=h1;simp at h9;omega
 refine ws_ (wr_ (e_ mv (k:=e_ ieq (k:=e_ asn (k:=on_ (qn_ (wi_ (k:=λh2=>?_) (m:=λh2=>?_))))))))
 ·exfalso;have h9:=h2;omega
 refine ws_ (wr_ (e_ mv (k:=e_ ieq (k:=e_ asn (k:=on_ (qn_ (wi_ (k:=λh3=>?_) (m:=λh3=>?_))))))))
 ·refine ws_ (wr_ (e_ mv (k:=e_ mv (k:=?_))))
  refine c2_ rfl (JI (sx:=sy) (xs:=wds u) hF hl hw (a8) (oB u)) (k:=?_)
  rintro _ _ ⟨F2,all2,rfl,q1,q2,q3,q4,rfl⟩
  refine e_ asn (k:=on_ (qn_ (wt_ (br_ (qr_ (rT (k:=?_)))))))
  exact⟨_,hsb,F2,all2,rfl,.mk1 q1 q2 q3 q4,rfl⟩
 exfalso;have h9:=h3;simp at h9
theorem KN {G:cJ}{H R:cG}{F sx sy:SV}{all:List Nat}{n u:Nat} [hr:gV H F eU all R] (hF:fO F) (hl:all.length=F.c) (hw:Wd all) [hx:Sl (Row F eU all::R) sx eU ([]:List Nat)] [hy:Sl R sy eU (wds u)] (hu0:u≠0) (hu9:(wds u).length≤1000):SC G prog 79 [(F.up n).val,sx.val,sy.val] H (λv' H'=>∃(F':SV) (all':List Nat),v'=(F'.up (wds u).length).val∧NW F' all' u∧H'=Row F' eU all'::R):=by
 refine eZ (dH hr cH.refl) ?_
 have hlv:0<(wds u).length:=X1 λh=>hu0 (jN.1 (Vb h))
 refine sWk func79 ?_
 refine ws_ (wr_ (e_ asn (k:=on_ (qn_ (ws_ (wr_ (e_ mv (k:=e_ lnn (k:=e_ asn (k:=on_ (qn_ (ws_ (wr_ (?_))))))))))))))
 refine e_ mv (k:=e_ lnn (k:=e_ asn (k:=on_ (qn_ (ws_ (wb_ (ws_ (wr_ (e_ mv (k:=e_ mv (k:=e_ ilt (k:=e_ asn (k:=on_ (?_))))))))))))))
 refine qn_ (wi_ (k:=λh1=>?_) (m:=λh1=>?_))
 ·refine ws_ (wr_ (e_ mv (k:=e_ mv (k:=e_ mv (k:=?_)))))
  refine c3_ rfl (KM (sx:=sx) (sy:=sy) (u:=u) hF hl hw hu0 hu9) (k:=?_)
  rintro _ _ ⟨F2,all2,rfl,hn2,rfl⟩
  refine e_ asn (k:=on_ (qn_ (wt_ (br_ (qr_ (rT (k:=?_)))))))
  exact⟨_,hsb,F2,all2,rfl,hn2,rfl⟩
 exfalso;have h9:=h1;rw[Yc]at h9;omega
theorem ND {G:cJ}{H R R2:cG}{b c v u:Nat} [hb:Rem H Bg b v R] [hc:Rem R Bg c u R2] (h0:(v=0∧u≠0)∨(v≠0∧u=0)) (hv9:(wds v).length≤1000) (hu9:(wds u).length≤1000):SC G prog 36 [pA b,pA b,pA c] H (λv' H'=>v'=pA b∧H'=Bg b (v+u)::Bg c u::R2):=by
 refine eZ (cH.rem hb (cH.keep (cH.rem hc cH.refl))) ?_
 have hen:∀(q0:Array Value) w,(callFunc 36 q0).run prog w=.ok (.enter 36 q0) w:=λ_ _=>aa
 refine kE b hen λF all hn=>kE c hen λF' all' hn'=>?_
 have hadd:SC G prog 79 [(F.up (wds v).length).val,(F.up (wds v).length).val,(F'.up (wds u).length).val] (Vr c [.bool false,(F'.up (wds u).length).val]::Row F' eU all'::Vr b [.bool false,(F.up (wds v).length).val]::Row F eU all::R2) (λv' H'=>∃(F2:SV) (all2:List Nat),v'=(F2.up (wds (v+u)).length).val∧NW F2 all2 (v+u)∧H'=Row F2 eU all2::Vr c [.bool false,(F'.up (wds u).length).val]::Row F' eU all'::Vr b [.bool false,(F.up (wds v).length).val]::R2):=by
  rcases h0 with⟨rfl,h0⟩|⟨h0,rfl⟩
  ·rw[Vf]
   haveI hx:Sl (Row F eU all::Vr c [.bool false,(F'.up (wds u).length).val]::Row F' eU all'::Vr b [.bool false,(F.up (wds 0).length).val]::R2) (F.up (wds 0).length) eU ([]:List Nat):=by
    have:=hn.sl (H:=Row F eU all::Vr c [.bool false,(F'.up (wds u).length).val]::Row F' eU all'::Vr b [.bool false,(F.up (wds 0).length).val]::R2) inferInstance
    rwa [dV]at this⊢
   haveI hy:Sl (Vr c [.bool false,(F'.up (wds u).length).val]::Row F' eU all'::Vr b [.bool false,(F.up (wds 0).length).val]::R2) (F'.up (wds u).length) eU (wds u):=hn'.sl inferInstance
   exact KN (sx:=F.up (wds 0).length) (sy:=F'.up (wds u).length) (u:=u) hn.fl hn.len hn.wd h0 hu9
  ·haveI hy:Sl (Vr c [.bool false,(F'.up (wds 0).length).val]::Row F' eU all'::Vr b [.bool false,(F.up (wds v).length).val]::R2) (F'.up (wds 0).length) eU ([]:List Nat):=by
    have:=hn'.sl (H:=Vr c [.bool false,(F'.up (wds 0).length).val]::Row F' eU all'::Vr b [.bool false,(F.up (wds v).length).val]::R2) inferInstance
    rwa [dV]at this⊢
   exact(C7 hn h0 hv9).mono λv' H' ⟨h1,h2⟩=>⟨F,all,h1,hn,h2⟩
 refine sWk func36 ?_
 refine ws_ (wr_ (e_ asn (k:=on_ (qn_ (ws_ (wr_ (e_ mv (k:=e_ nck (k:=e_ fla (k:=e_ ldv (k:=e_ asn (k:=on_ (qn_ (?_))))))))))))))
 refine ws_ (ws_ (?_))
 refine cZ cN (as_ 0 (q:=mv) (k:=as_ 1 (q:=nck) (k:=as_ 2 (q:=fla) (k:=as_ 3 (q:=ldv) (k:=as_ 4 (q:=mv) (k:=as_ 5 (q:=nck) (k:=as_ 6 (q:=fla) (k:=as_ 7 (q:=ldv) (k:=?_)))))))))
 refine cO 8 rfl rfl (aa) rfl (df (Qu rfl rfl)) (?_)
 refine az_ (k:=qn_ (wi_ (k:=λh1=>?_) (m:=λh1=>?_)))
 ·refine wD [13,16] (λk H=>(k=4→cY H b [.bool false,(F.up (wds v).length).val])∧(k=8→cY H b [.bool false,(F.up (wds v).length).val])∧(k=12→cY H c [.bool false,(F'.up (wds u).length).val])) (aF 0 (k:=aF 1 (k:=aF 2 (k:=aF 3 (k:=?_)))))
  refine aN 4 rfl (λH hH=>aw) (?_)
  refine aF 5 (k:=aF 6 (k:=aF 7 (k:=?_)))
  refine aN 8 rfl (λH hH=>aE) (?_)
  refine aF 9 (k:=aF 10 (k:=aF 11 (k:=?_)))
  refine aN 12 rfl (λH hH=>cj) (?_)
  refine aS 13 rfl (v3_ (hadd)) ?_
  rintro _ _ ⟨F2,all2,rfl,hn2,rfl⟩
  refine aF 14 (k:=aF 15 (k:=?_))
  refine aS 16 rfl (db rfl rfl rfl) ?_
  rintro _ _ ⟨rfl,rfl⟩
  refine aZ (qn_ (ws_ (wr_ (?_))))
  haveI hz2:Sl (Row F2 eU all2::Vr c [.bool false,(F'.up (wds u).length).val]::Row F' eU all'::Vr b [.bool false,(F2.up (wds (v+u)).length).val]::R2) (F2.up (wds (v+u)).length) eU (wds (v+u)):=hn2.sl inferInstance
  refine e_ mv (k:=e_ mv (k:=e_ nck (k:=e_ fla (k:=e_ ldv (k:=e_ lnn (k:=e_ igt (k:=e_ mv (k:=cQ 2 90 (k:=λh2=>eg_ mv (k:=e_ pkt (k:=on_ (edq)))) (q:=e_ nck (k:=e_ fla (k:=sto (k:=on_ (qn_ (?_))))))))))))))
  refine ws_ (wr_ (e_ mv (k:=e_ asn (k:=on_ (qn_ (wt_ (rT (k:=?_))))))))
  rw[Bool.and_false]
  exact⟨_,eg hn2 (eg hn' cH.refl),rfl,rfl⟩
 exact absurd h1 (ae)
theorem KQ {G:cJ}{H R:cG}{F sx:SV}{p0:Nat}{post:List Nat}{v:Nat} [hr:gV H F eU (p0::post) R] (hF:fO F) (hx:RdA R F [p0] post sx [v]) (hv:v<B64):SC G prog 75 [(F.up 1).val,sx.val,.int .u64 18] H (λv' H'=>v'=uN (v/2^46)∧H'=Row F eU ((v*2^18%B64)::post)::R):=by
 refine eZ (dH hr cH.refl) ?_
 obtain⟨ys,hs,hl0,hg⟩:=hx [] (Yl _)
 have hz0:=vX (R:=R) (F:=F) (o:= []) (mid:= [p0]) (post:=post) hF (Yl _)
 simp only[Ye,Yc,Vi,List.singleton_append,Yb]at hs hz0 hl0
 have hg0:ys[0]? =some v:=by rw[hg 0 (Xj _)];all_goals rfl
 have hv':v<18446744073709551616:=hv
 refine sWk func75 ?_
 refine ws_ (wr_ (e_ asn (k:=on_ (qn_ (ws_ (ws_ (wr_ (e_ mv (k:=e_ lnn (k:=e_ mv (k:=e_ lnn (k:=e_ ine (k:=on_ (?_))))))))))))))
 refine qn_ (wi_ (k:=λh1=>?_) (m:=λh1=>?_))
 ·exfalso;have h9:=h1;simp at h9;omega
 refine wk_ (qn_ (ws_ (ws_ (wr_ (e_ mv (k:=e_ ieq (k:=on_ (qn_ (wi_ (k:=λh2=>?_) (m:=λh2=>?_))))))))))
 ·exact absurd h2 (ae)
 refine wk_ (qn_ (ws_ (ws_ (wr_ (e_ mv (k:=e_ lnn (k:=e_ ieq (k:=on_ (qn_ (wi_ (k:=λh3=>?_) (m:=λh3=>?_)))))))))))
 ·exfalso;have h9:=h3;simp at h9
 refine wk_ (qn_ (ws_ (wr_ (e_ mv (k:=?_)))))
 refine e_ (dm (gn 18446744073709551616 rfl rfl rfl rfl 18 63 rfl rfl (ae) (ae)) (show uN (18 &&& 63)=.int .u64 18 from rfl)) (k:=?_)
 refine e_ asn (k:=on_ (qn_ (ws_ (wr_ (e_ mv (k:=?_))))))
 refine e_ (dm (iV 18446744073709551616 rfl rfl rfl rfl 64 18 rfl rfl (ae) (ae)) (show uN (64-18)=.int .u64 46 from rfl)) (k:=?_)
 refine e_ asn (k:=on_ (qn_ (ws_ (wr_ (e_ mv (k:=?_))))))
 refine e_ (dm (gn 18446744073709551616 rfl rfl rfl rfl 46 63 rfl rfl (ae) (ae)) (show uN (46 &&& 63)=.int .u64 46 from rfl)) (k:=?_)
 refine e_ asn (k:=on_ (qn_ (ws_ (wr_ (e_ mv (k:=e_ mv (k:=e_ lnn (k:=?_))))))))
 refine e_ (dm isb (congrArg (Value.int .i64) (show _=((0:Nat):Int)from rfl))) (k:=?_)
 refine e_ (ixa (i:=0)) (k:=e_ (lel (hy:=hg0)) (k:=e_ mv (k:=?_)))
 refine e_ (du rfl rfl v 46 rfl rfl (ae)) (k:=?_)
 refine e_ asn (k:=on_ (qn_ (ws_ (ws_ (wr_ (e_ mv (k:=e_ lnn (k:=?_))))))))
 refine e_ (dm isb (congrArg (Value.int .i64) (show _=((0:Nat):Int)from rfl))) (k:=?_)
 refine e_ asn (k:=on_ (qn_ (wb_ (wl2_ (Nat) (λy=>True) (λy=>[(8,iN 0)]) [(0,_),(1,_),(2,_),(6,_),(7,_)] (λy=>[]) _ (λy=>0) (0) (h0:=?_) (k:=?_)))))
 ·try dsimp only
  all_goals trivial
 rintro i -
 try dsimp only[Yd,Ye]at*
 refine ws_ (ws_ (wr_ (e_ mv (k:=e_ igt (k:=on_ (qn_ (wi_ (k:=λh4=>?_) (m:=λh4=>?_))))))))
 ·exact absurd h4 (ae)
 refine we_ (qe_ (le_ (bh_ (qn_ (ws_ (wr_ (e_ mv (k:=e_ mv (k:=e_ (ixa (i:=0)) (k:=e_ (lel (hy:=hg0)) (k:=e_ mv (k:=?_))))))))))))
 refine e_ (gm 18446744073709551616 rfl rfl rfl rfl v 18 rfl rfl) (k:=?_)
 refine e_ (ixa (i:=0)) (k:=?_)
 refine s_ (dc (s:=F) (i:=0) rfl rfl rfl (ak)) (k:=?_)
 rintro _ _ ⟨rfl,rfl⟩
 refine on_ (qn_ (wt_ (rT (k:=?_))))
 exact⟨_,hsb,rfl,rfl⟩
theorem N7 {G:cJ}{H R:cG}{F:SV}{all:List Nat}{v:Nat} [hr:gV H F eU all R] (hn:NW F all v) (hv0:v≠0) (hv:v<B64):SC G prog 83 [(F.up (wds v).length).val,(F.up (wds v).length).val,.int .u64 18] H (λv' H'=>∃(F':SV) (all':List Nat),v'=(F'.up (wds (v*2^18)).length).val∧NW F' all' (v*2^18)∧H'=Row F' eU all'::R):=by
 refine eZ (dH hr cH.refl) ?_
 haveI hz:Sl (Row F eU all::R) (F.up (wds v).length) eU (wds v):=hn.sl inferInstance
 have hlv:(wds v).length=1:=gX hv0 hv
 have hsrc:=hn.src (R:=R)
 refine sWk func83 ?_
 refine ws_ (wr_ (e_ asn (k:=on_ (qn_ (ws_ (ws_ (wr_ (e_ mv (k:=e_ ieq (k:=on_ (qn_ (wi_ (k:=λh1=>?_) (m:=λh1=>?_)))))))))))))
 ·exact absurd h1 (ae)
 refine wk_ (qn_ (ws_ (wr_ (e_ mv (k:=e_ lnn (k:=e_ asn (k:=on_ (qn_ (ws_ (ws_ (wr_ (e_ mv (k:=e_ ieq (k:=?_))))))))))))))
 refine on_ (qn_ (wi_ (k:=λh2=>?_) (m:=λh2=>?_)))
 ·exfalso;have h9:=h2;omega
 refine wk_ (qn_ (ws_ (wr_ (e_ mv (k:=e_ mv (k:=?_))))))
 refine e_ (dm (fH rfl rfl 18 64 rfl rfl (ae) (ae)) (show uN (18/64)=.int .u64 0 from rfl)) (k:=?_)
 refine e_ (dm (dL rfl (ae)) (show Value.int .i64 (0:Int)=.int .i64 0 from rfl)) (k:=?_)
 refine e_ (dm iad (congrArg (Value.int .i64) (show _=((1:Nat):Int)from a8))) (k:=?_)
 refine e_ asn (k:=on_ (qn_ (ws_ (wr_ (e_ mv (k:=e_ mv (k:=?_)))))))
 refine e_ (dm iad (congrArg (Value.int .i64) (show _=((2:Nat):Int)from rfl))) (k:=?_)
 refine c2_ rfl (qn (F:=F) (sx:=F.up (wds v).length) (xs:=wds v) (n:=(wds v).length) (k:=2) (m:=1) hn.fl hn.len hn.wd (ae) (ae) (.inr ⟨rfl,hlv,hn.le,hn.tk⟩)) (k:=?_)
 rintro _ _ ⟨F2,mid,post,R2,rfl,hF2,hml,hmp,hk2,hwm,hwp,hrd,hR2,rfl⟩
 obtain⟨p0,rfl⟩:∃p0,mid= [p0]:=by
  match mid,hml with
  | [a],_=>exact⟨a,rfl⟩
 obtain⟨p1,post,rfl⟩:∃p0 q,post=p0::q:=by
  cases post with
  |nil=>simp at hmp;omega
  |cons a q=>exact⟨a,q,rfl⟩
 rw[gF hv0 hv]at hrd
 rw[List.singleton_append]
 refine e_ asn (k:=on_ (qn_ (ws_ (ws_ (wr_ (e_ mv (k:=?_)))))))
 refine e_ (dm (kO rfl rfl 18 64 rfl rfl (ae)) (show uN (18%64)=.int .u64 18 from rfl)) (k:=?_)
 refine e_ asn (k:=on_ (qn_ (ws_ (wr_ (e_ mv (k:=e_ ieq (k:=on_ (qn_ (wi_ (k:=λh3=>?_) (m:=λh3=>?_))))))))))
 ·exact absurd h3 (ae)
 refine wr_ (e_ mv (k:=e_ mv (k:=e_ mv (k:=e_ mv (k:=e_ mv (k:=?_))))))
 refine e_ (dm isb (congrArg (Value.int .i64) (show _=(0:Int)from a8))) (k:=?_)
 refine e_ mv (k:=?_)
 refine e_ (nD (F:=F2) (n:=2) rfl hF2 1 ⟨_,rfl⟩ ⟨_,_,rfl,rfl⟩ (a8)) (k:=?_)
 refine e_ mv (k:=e_ mv (k:=?_))
 refine s_ (vP (vs:= [_,_,_]) (e:=Extern.Twins.call "math/big.lshVU_g" f133.params f133.resultTypes) func133 (aa) rfl (aa) (λ_ _=>aa) rfl (KQ (F:=F2) (p0:=p0) (post:=p1::post) hF2 (by rw[gF hv0 hv];exact hrd) hv)) (k:=?_)
 rintro _ _ ⟨rfl,rfl⟩
 haveI hz2:Sl (Row F2 eU (v*2^18%B64::p1::post)::R2) (F2.up 2) eU [v*2^18%B64,p1]:=by
  exact ir (R:=R2) (F:=F2) (xs:= [v*2^18%B64,p1]) (post:=post) hF2 (by simp at hmp⊢;omega)
 refine e_ (ixa (i:=1) (hlt:=by simp)) (k:=?_)
 refine s_ (dc (s:=F2) (i:=1) rfl rfl rfl (ak)) (k:=?_)
 rintro _ _ ⟨rfl,rfl⟩
 rw[show(v*2^18%B64::p1::post).set 1 (v/2^46)= [v*2^18%B64,v/2^46]++post from rfl]
 refine on_ (qn_ (ws_ (wr_ (e_ mv (k:=e_ mv (k:=e_ mv (k:=?_)))))))
 refine e_ (dm isb (congrArg (Value.int .i64) (show _=(0:Int)from a8))) (k:=?_)
 refine e_ (tE (s:=F2.up 2) rfl 0 0 ⟨_,_,rfl,rfl⟩ ⟨_,_,rfl,rfl⟩ (Xj _) (Yl _)) (k:=?_)
 refine s_ (xr (s:=F2) (a:=0) (b:=0) rfl (Xj _) (Yl _) rfl) (k:=?_)
 rintro _ _ ⟨rfl,rfl⟩
 rw[S8,Vi,Vw,List.replicate_zero,Ye,Ye]
 have hwv:wv [v*2^18%B64,v/2^46]=v*2^18:=by simp only[wv,B64]at*;omega
 have hwd:Wd [v*2^18%B64,v/2^46]:=Wd.cons (Um _ (ae)) (Wd.cons (Vl (Vs _ _) hv) Wd.nil)
 have hcl: [v*2^18%B64,v/2^46].length+post.length=F2.c:=by simp at hmp⊢;omega
 haveI hz3:Sl (Row F2 eU ([v*2^18%B64,v/2^46]++post)::R2) (F2.up 2) eU [v*2^18%B64,v/2^46]:=ir (R:=R2) hF2 hcl
 refine on_ (qn_ (ws_ (wr_ (e_ mv (k:=?_)))))
 refine d1_ rfl (uz hF2 (by simp at hcl⊢;omega) (ak) hwd) (k:=e_ asn (k:=on_ (qn_ (wt_ (rT (k:=?_))))))
 exact⟨_,cH.keep hR2,F2,_,by rw[hwv];all_goals rfl,z8 hF2 hcl hwd (λq hq=>hwp q (Xa _ hq)) hwv,rfl⟩
theorem Na {G:cJ}{H R:cG}{b v:Nat} [hb:Rem H Bg b v R] (hv0:v≠0) (hv:v<B64):SC G prog 39 [pA b,pA b,.int .u64 18] H (λv' H'=>v'=pA b∧H'=Bg b (v*2^18)::R):=by
 refine eZ (cH.rem hb cH.refl) ?_
 have hen:∀(q0:Array Value) w,(callFunc 39 q0).run prog w=.ok (.enter 39 q0) w:=λ_ _=>aa
 refine kE b hen λF all hn=>?_
 refine sWk func39 ?_
 refine ws_ (wr_ (e_ asn (k:=on_ (qn_ (ws_ (?_))))))
 refine wD [10,13] (λk H=>(k=4→cY H b [.bool false,(F.up (wds v).length).val])∧(k=8→cY H b [.bool false,(F.up (wds v).length).val])) (aF 0 (k:=aF 1 (k:=aF 2 (k:=aF 3 (k:=?_)))))
 refine aN 4 rfl (λH hH=>aw) (?_)
 refine aF 5 (k:=aF 6 (k:=aF 7 (k:=?_)))
 refine aN 8 rfl (λH hH=>aV) (?_)
 refine aF 9 (k:=?_)
 refine aS 10 rfl (v3_ (N7 hn hv0 hv)) ?_
 rintro _ _ ⟨F2,all2,rfl,hn2,rfl⟩
 refine aF 11 (k:=aF 12 (k:=?_))
 refine aS 13 rfl (db rfl rfl rfl) ?_
 rintro _ _ ⟨rfl,rfl⟩
 refine aZ (qn_ (ws_ (wr_ (e_ mv (k:=e_ mv (k:=e_ nck (k:=e_ fla (k:=e_ ldv (k:=e_ nck (k:=e_ fla (k:=sto (k:=on_ (qn_ (?_))))))))))))))
 refine ws_ (wr_ (e_ mv (k:=e_ asn (k:=on_ (qn_ (wt_ (rT (k:=?_))))))))
 exact⟨_,eg hn2 cH.refl,rfl,rfl⟩
theorem AZ {R:cG}{F:SV}{pre l post:List Nat}:Sl (Row F eU (pre++l++post)::R) (F.cut 1 pre.length (pre.length+l.length)) eU l:=by
 have:=Sl.cut (Sl.row (H:=R) (s:=F) (e:=eU) (xs:=pre++l++post)) (lo:=pre.length) (hi:=pre.length+l.length) (a8) (ai)
 rw[Yf,List.take_append,Xq (a8),V0,V3,Xy,←Yf]at this
 exact this
theorem EC (pre o mid post:List Nat) (v:Nat) (h:o.length<mid.length):(pre++(o++mid.drop o.length)++post).set (pre.length+o.length) v=pre++((o++ [v])++mid.drop (o.length+1))++post:=by
 have:=AW o mid post v h
 rw[Yf,T7,if_neg (a8),V0,this]
 simp only[Yf]
theorem I4 {G:cJ}{H R:cG}{F sy:SV}{pre mid post ys:List Nat}{m:Nat} [hr:gV H F eU (pre++mid++post) R] (hpc:pre.length<F.c) [hy:Sl R sy eU ys] (hl:ys.length=mid.length) (hx9:ys.length≤1000000) (hp9:pre.length≤1000000) (hw:Wd mid) (hwy:Wd ys) (hm:m<18446744073709551616):SC G prog 78 [(F.cut 1 pre.length (pre.length+mid.length)).val,(F.cut 1 pre.length (pre.length+mid.length)).val,sy.val,uN m,.int .u64 0] H (λv H'=>∃(o:List Nat) (c:Nat),v=uN c∧o.length=mid.length∧Wd o∧c<B64∧wv o+B64^mid.length*c=wv mid+wv ys*m∧H'=Row F eU (pre++o++post)::R):=by
 refine eZ (dH hr cH.refl) ?_
 haveI hz0:=AZ (R:=R) (F:=F) (pre:=pre) (l:=mid) (post:=post)
 refine sWk func78 ?_
 refine ws_ (wr_ (e_ asn (k:=on_ (qn_ (ws_ (ws_ (wr_ (e_ mv (k:=e_ lnn (k:=e_ mv (k:=e_ lnn (k:=e_ ine (k:=e_ mv (k:=?_))))))))))))))
 refine dz 6 27 (k:=λh1=>eg_ mv (k:=eg_ lnn (k:=eg_ mv (k:=eg_ lnn (k:=eg_ ine (k:=e_ pkf (k:=on_ (edq)))))))) (q:=on_ (qn_ (wi_ (k:=λh2=>?_) (m:=λh2=>?_))))
 ·exfalso;have h9:=h2;simp[hl]at h9
 refine wk_ (qn_ (ws_ (wr_ (e_ mv (k:=e_ asn (k:=on_ (qn_ (ws_ (ws_ (wr_ (e_ mv (k:=e_ lnn (k:=e_ mv (k:=?_))))))))))))))
 refine on_ (qn_ (wb_ (wl2_ (Nat×(List Nat)×Nat) (λy=>y.2.1.length=y.1∧y.1≤mid.length∧Wd y.2.1∧y.2.2<18446744073709551616∧wv y.2.1+B64^y.1*y.2.2=wv (mid.take y.1)+wv (ys.take y.1)*m) (λy=>[(10,uN y.2.2),(32,iN y.1)]) [(0,_),(1,_),(2,_),(3,_),(31,_)] (λy=>[Row F eU (pre++(y.2.1++mid.drop y.1)++post)]) _ (λy=>mid.length-y.1) ((0, [],0)) (h0:=?_) (k:=?_))))
 ·try dsimp only
  exact⟨rfl,Yl _,Wd.nil,ae,by simp[wv]⟩
 rintro⟨i,o,c⟩ ⟨hoi,hi,hwo,hc,hv⟩
 try dsimp only[Yd,Ye]at*
 refine ws_ (wr_ (e_ ilt (k:=on_ (qn_ (ws_ (wi_ (k:=λh3=>?_) (m:=λh3=>?_)))))))
 ·have hi2:i<mid.length:=by have h9:=h3;omega
  obtain⟨x,hxi⟩:∃x,mid[i]? =some x:=⟨_,Yi hi2⟩
  obtain⟨w,hwi⟩:=gE ys i
  have hxb:x<18446744073709551616:=hw.get hxi
  have hwb:w<18446744073709551616:=hwy.get hwi
  subst hoi
  have hol:(o++mid.drop o.length).length=mid.length:=bF
  haveI hzi:Sl (Row F eU (pre++(o++mid.drop o.length)++post)::R) (F.cut 1 pre.length (pre.length+mid.length)) eU (o++mid.drop o.length):=by
   have:=AZ (R:=R) (F:=F) (pre:=pre) (l:=o++mid.drop o.length) (post:=post)
   rwa [hol]at this
  have hget:(o++mid.drop o.length)[o.length]? =some x:=by rw[Yu (Xj _),Vw,Xh,Ur];exact hxi
  have hcl:(w*m+x+c)/B64<B64:=Df hwb hm hxb hc
  have hcl2:(w*m+x)/B64<B64:=yO hwb hm hxb
  have hst:=yX (o:=o) (zs:=mid) (xs:=ys) (m:=m) rfl hwi hxi hv
  refine wk_ (qn_ (ws_ (wb_ (ws_ (wr_ (e_ mv (k:=e_ asn (k:=on_ (qn_ (ws_ (?_)))))))))))
  refine cZ cN (as_ 0 (q:=mv) (k:=as_ 1 (q:=mv) (k:=as_ 2 (q:=ixa) (k:=as_ 3 (q:=lel (hy:=hwi)) (k:=as_ 4 (q:=mv) (k:=as_ 5 (q:=mv) (k:=as_ 6 (q:=mv) (k:=as_ 7 (q:=ixa) (k:=as_ 8 (q:=lel (hy:=hget)) (k:=?_))))))))))
  refine cO 9 rfl rfl (aa) rfl (gi (vs:= [_,_,_]) rfl (sC (x:=w) (y:=m) (c:=x) hwb hm hxb)) (?_)
  refine as_ 10 (q:=mv) (k:=as_ 11 (q:=exr) (k:=as_ 12 (q:=exr) (k:=as_ 13 (q:=asn) (k:=as_ 14 (q:=asn) (k:=az_ (k:=qn_ (ws_ (wr_ (e_ mv (k:=e_ mv (k:=?_)))))))))))
  refine d3_ rfl (AQ (x:=(w*m+x)%B64) (y:=c) (c:=0) (ae)) (k:=e_ mv (k:=e_ exr (k:=e_ exr (k:=e_ asn (k:=e_ asn (k:=on_ (qn_ (ws_ (wr_ (e_ mv (k:=e_ mv (k:=e_ mv (k:=e_ mv (k:=?_))))))))))))))
  refine e_ asn (k:=?_)
  refine e_ (dm (ixa (i:=o.length)) (congrArg Value.pointer (Jg hpc))) (k:=?_)
  refine s_ (dc (s:=F) (i:=pre.length+o.length) rfl rfl rfl (by simp only[Ya,Yo];omega)) (k:=?_)
  rintro _ _ ⟨rfl,rfl⟩
  rw[EC _ _ _ _ _ hi2,show((w*m+x)%B64+c+0)%B64=(w*m+x+c)%B64 from aG]
  refine on_ (qn_ (wr_ (e_ mv (k:=e_ mv (k:=?_)))))
  refine e_ (dm (jm 18446744073709551616 rfl rfl rfl rfl (((w*m+x)%B64+c+0)/B64) ((w*m+x)/B64) rfl rfl (by simp only[B64]at*;omega)) (congrArg (λn:Nat=>uN n) (show _=(w*m+x+c)/B64 from aG))) (k:=?_)
  refine e_ asn (k:=on_ (bn_ (qn_ (wr_ (e_ iad (k:=e_ mv (k:=on_ (?_))))))))
  refine ln_ ((o.length+1,o++ [(w*m+x+c)%B64],(w*m+x+c)/B64)) (k:=?_)
  try dsimp only
  exact⟨ak,a8,hwo.app (Wd.cons (Um _ (ae)) Wd.nil),hcl,hst⟩
 obtain rfl:i=mid.length:=by have h9:=h3;omega
 rw[X4,Ym]
 rw[Xk,←hl,Xk,hl]at hv
 refine we_ (qe_ (le_ (bh_ (qn_ (wt_ (rT (k:=?_)))))))
 exact⟨_,hsb,o,c,rfl,hoi,hwo,hc,hv,rfl⟩
theorem Al {lo o xs:List Nat}{i d c y2:Nat}(hlo:lo.length=xs.length+i) (hol:o.length=xs.length) (h1:wv o+B64^xs.length*c=wv (lo.drop i)+wv xs*d) (h2:wv lo=wv xs*y2):wv (lo.take i++o++ [c])=wv xs*(y2+B64^i*d):=by
 have hi:(lo.take i).length=i:=ar
 have e1:wv lo=wv (lo.take i)+B64^i*wv (lo.drop i):=by
  have:=zc (lo.take i) (lo.drop i)
  rwa [Xv,hi]at this
 rw[nN,zc,Ya,hi,hol,Ud,Un,Vz,←X0,h1,X0,←Vz,←e1,h2,X0]
 congr 1
 rw[Nat.mul_left_comm]
theorem Cb {G:cJ}{H R:cG}{F sx:SV}{mid post xs:List Nat} [hr:gV H F eU (mid++post) R] (hF:fO F) (hfc:mid.length+post.length=F.c) [hx:Sl R sx eU xs] (hl:mid.length=xs.length+xs.length) (hx0:0<xs.length) (hx9:xs.length≤1000) (hw:Wd xs):SC G prog 200 [(F.up mid.length).val,sx.val,sx.val] H (λv H'=>∃o:List Nat,v=.tuple #[]∧o.length=mid.length∧Wd o∧wv o=wv xs*wv xs∧H'=Row F eU (o++post)::R):=by
 refine eZ (dH hr cH.refl) ?_
 obtain⟨fb,fo,hfa⟩:=hF.some (a8)
 refine sWk func200 ?_
 refine ws_ (wr_ (e_ mv (k:=e_ mv (k:=e_ lnn (k:=e_ mv (k:=e_ lnn (k:=e_ iad (k:=?_))))))))
 refine e_ (tE (s:=F.up mid.length) rfl 0 mid.length ⟨_,_,rfl,rfl⟩ ⟨_,_,rfl,a8⟩ (Yl _) (by show mid.length≤F.c;omega)) (k:=?_)
 refine s_ (xr (s:=F) (a:=0) (b:=mid.length) rfl (Yl _) (aC) rfl) (k:=?_)
 rintro _ _ ⟨rfl,rfl⟩
 rw[S8,Ye,S0,Xy]
 refine on_ (qn_ (ws_ (wr_ (e_ mv (k:=e_ lnn (k:=e_ mv (k:=on_ (qn_ (wb_ (wl2_ (Nat×(List Nat)) (λy=>y.2.length=xs.length+y.1∧y.1≤xs.length∧Wd y.2∧wv y.2=wv xs*wv (xs.take y.1)) (λy=>[(17,iN y.1)]) [(0,_),(1,_),(15,_),(16,_)] (λy=>[Row F eU (y.2++List.replicate (xs.length-y.1) 0++post)]) R (λy=>xs.length-y.1) ((0,List.replicate xs.length 0)) (hh:=?_) (h0:=?_) (k:=?_)))))))))))
 ·try dsimp only
  rw[S0,List.replicate_append_replicate,←hl]
  exact hsb
 ·try dsimp only
  exact⟨ak,Yl _,qc _,by rw[Dv,S8];all_goals rfl⟩
 rintro⟨i,lo⟩ ⟨hlo,hi,hwl,hv⟩
 try dsimp only[Yd,Ye]at*
 refine ws_ (wr_ (e_ ilt (k:=on_ (qn_ (ws_ (wi_ (k:=λh1=>?_) (m:=λh1=>?_)))))))
 ·have hi2:i<xs.length:=by have h9:=h1;omega
  obtain⟨d,hdi⟩:∃d,xs[i]? =some d:=⟨_,Yi hi2⟩
  have hdb:d<18446744073709551616:=hw.get hdi
  have hrep:List.replicate (xs.length-i) 0=0::List.replicate (xs.length-(i+1)) 0:=by
   rw[show xs.length-i=(xs.length-(i+1))+1 from a8,Uy]
  refine wk_ (qn_ (ws_ (wb_ (ws_ (wr_ (e_ mv (k:=e_ ixa (k:=e_ (lel (hy:=hdi)) (k:=e_ asn (k:=e_ asn (k:=on_ (qn_ (ws_ (?_))))))))))))))
  refine wr_ (e_ mv (k:=e_ ine (k:=on_ (qn_ (wi_ (k:=λh2=>?_) (m:=λh2=>?_))))))
  ·have hdl:(lo.drop i).length=xs.length:=by rw[Yo];omega
   have htl:(lo.take i).length=i:=ar
   have hrow:lo++List.replicate (xs.length-i) 0++post=lo.take i++lo.drop i++(List.replicate (xs.length-i) 0++post):=by rw[Xv,Yf]
   rw[hrow]
   have hcut:F.cut 1 i (i+xs.length)=F.cut 1 (lo.take i).length ((lo.take i).length+(lo.drop i).length):=by rw[htl,hdl]
   refine wD [21,23] (λk H=>(k=2→Sl H sx eU xs)∧(k=9→Sl H sx eU xs)∧(k=16→Sl H sx eU xs)) (aF 0 (k:=aF 1 (k:=?_)))
   refine aN 2 rfl (λH hH=>by have hN:=hH.1 rfl;exact lnn) (?_)
   refine aF 3 (k:=aF 4 (k:=aF 5 (k:=aF 6 (k:=aF 7 (k:=aF 8 (k:=?_))))))
   refine aN 9 rfl (λH hH=>by have hN:=hH.2.1 rfl;exact lnn) (?_)
   refine aF 10 (k:=?_)
   refine aN 11 rfl (λH hH=>tE (s:=F.up mid.length) rfl i (i+xs.length) ⟨_,_,rfl,rfl⟩ ⟨_,_,rfl,a8⟩ (a8) (by show i+xs.length≤F.c;omega)) (?_)
   refine aF 12 (k:=aF 13 (k:=aF 14 (k:=aF 15 (k:=?_))))
   refine aN 16 rfl (λH hH=>by have hN:=hH.2.2 rfl;exact lnn) (?_)
   refine aF 17 (k:=?_)
   refine aN 18 rfl (λH hH=>tE (s:=F.up mid.length) rfl i (i+xs.length) ⟨_,_,rfl,rfl⟩ ⟨_,_,rfl,a8⟩ (a8) (by show i+xs.length≤F.c;omega)) (?_)
   refine aF 19 (k:=aF 20 (k:=?_))
   refine aS 21 rfl (vP (vs:= [_,_,_,_,_]) (e:=Extern.Twins.call "math/big.addMulVVWW_g" f262.params f262.resultTypes) func262 (aa) rfl (aa) (λ_ _=>aa) rfl (by show SC G prog 78 [(F.cut 1 i (i+xs.length)).val,(F.cut 1 i (i+xs.length)).val,_,_,_] _ _;rw[hcut];exact I4 (F:=F) (pre:=lo.take i) (mid:=lo.drop i) (ys:=xs) (by rw[htl];omega) hdl.symm (a8) (a8) (hwl.drop i) hw hdb)) ?_
   rintro _ _ ⟨o,c,rfl,hol,hwo,hc,hval,rfl⟩
   refine aN 22 rfl (λH hH=>tJ (s:=F.up mid.length) rfl rfl ⟨fb,fo,hfa⟩ (xs.length+i) (a8) (by show xs.length+i<mid.length;omega)) (?_)
   refine aS 23 rfl (dc (s:=F) (i:=xs.length+i) rfl rfl rfl (by simp only[Ya,Xe,htl,hol,hdl];omega)) ?_
   rintro _ _ ⟨rfl,rfl⟩
   rw[hdl]at hol hval
   have hset:(lo.take i++o++(List.replicate (xs.length-i) 0++post)).set (xs.length+i) c=(lo.take i++o++ [c])++List.replicate (xs.length-(i+1)) 0++post:=by
    have hll:(lo.take i++o).length=xs.length+i:=by rw[Ya,htl,hol];omega
    rw[T7,if_neg (a8),hll,Vw,hrep]
    simp
   rw[hset]
   have hbs:=Al (i:=i) hlo hol hval hv
   refine aZ (bn_ (qn_ (wr_ (e_ iad (k:=e_ mv (k:=on_ (?_)))))))
   refine ln_ ((i+1,(lo.take i++o++ [c]))) (k:=?_)
   try dsimp only
   exact⟨by simp only[Ya,Yb,Yc,htl,hol];omega,a8,((hwl.take i).app hwo).app (Wd.cons hc Wd.nil),by rw[hbs,nM hdi]⟩
  have hd0:d=0:=aL
  subst hd0
  rw[show lo++List.replicate (xs.length-i) 0++post=(lo++ [0])++List.replicate (xs.length-(i+1)) 0++post by rw[hrep];simp]
  refine wk_ (bn_ (qn_ (wr_ (e_ iad (k:=e_ mv (k:=on_ (?_)))))))
  refine ln_ ((i+1,lo++ [0])) (k:=?_)
  try dsimp only
  exact⟨aH,a8,hwl.app (Wd.cons (ae) Wd.nil),by rw[nN,nM hdi,hv];simp⟩
 obtain rfl:i=xs.length:=az
 rw[Vw,List.replicate_zero,Ym]
 rw[Xk]at hv
 refine we_ (qe_ (le_ (bh_ (rT (k:=?_)))))
 exact⟨_,hsb,lo,rfl,a8,hwl,hv,rfl⟩
theorem uA {G:cJ}{H:cG}{q:Value}:SC G prog 132 [.slice none 0 0,q] H (λv H'=>v=.bool false∧H'=H):=by
 refine sWk func132 ?_
 refine ws_ (wr_ (e_ asn (k:=on_ (qn_ (ws_ (?_))))))
 refine cZ cN (as_ 0 (q:=mv) (k:=?_))
 refine cO 1 rfl rfl (aa) rfl (df (Gp (s:=SV.nil) rfl)) (?_)
 refine as_ 2 (q:=igt) (k:=?_)
 refine fU 3 rfl rfl (aa) rfl (df (mv)) (λh1=>?_) (λh1=>?_)
 ·replace h1:=nrm h1
  exfalso;have h9:=h1;exact absurd h9 (ae)
 replace h1:=nrm h1
 refine ao_ 4 (k:=ao_ 5 (k:=ao_ 6 (k:=as_ 7 (q:=pkf) (k:=as_ 8 (q:=mv) (k:=ao_ 9 (k:=ao_ 10 (k:=ao_ 11 (k:=ao_ 12 (k:=ao_ 13 (k:=ao_ 14 (k:=ao_ 15 (k:=ao_ 16 (k:=ao_ 17 (k:=?_))))))))))))))
 refine ao_ 18 (k:=ao_ 19 (k:=ao_ 20 (k:=ao_ 21 (k:=ao_ 22 (k:=ao_ 23 (k:=ao_ 24 (k:=ao_ 25 (k:=as_ 26 (q:=pkf) (k:=as_ 27 (q:=asn) (k:=az_ (k:=qn_ (wt_ (rT (k:=?_))))))))))))))
 exact⟨_,hsb,rfl,rfl⟩
theorem zp {G:cJ}{H:cG}{F:SV}{n:Nat}(hF:fO F) (hc:0<F.c):SC G prog 132 [(F.up n).val,(F.up n).val] H (λv H'=>v=.bool true∧H'=H):=by
 have hfa:=hF.some hc
 have hcp:=hF.cp
 refine sWk func132 ?_
 refine ws_ (wr_ (e_ asn (k:=on_ (qn_ (ws_ (?_))))))
 refine cZ cN (as_ 0 (q:=mv) (k:=?_))
 refine cO 1 rfl rfl (aa) rfl (df (mQ rfl)) (?_)
 refine as_ 2 (q:=igt) (k:=?_)
 refine fU 3 rfl rfl (aa) rfl (df (mv)) (λh1=>?_) (λh1=>?_)
 ·replace h1:=nrm h1
  refine at2 4 (q:=mv) (k:=?_)
  refine fg 5 rfl rfl rfl rfl (aa) rfl (df (mQ rfl)) (?_)
  refine at2 6 (q:=igt) (k:=as_ 7 (q:=pkt) (k:=?_))
  refine fU 8 rfl rfl (aa) rfl (df (mv)) (λh2=>?_) (λh2=>?_)
  ·replace h2:=nrm h2
   refine at2 9 (q:=mv) (k:=at2 10 (q:=mv) (k:=?_))
   refine fg 11 rfl rfl rfl rfl (aa) rfl (df (mQ rfl)) (?_)
   refine fg 12 rfl rfl rfl rfl (aa) rfl (df (nD rfl hF F.c ⟨_,rfl⟩ ⟨_,_,rfl,rfl⟩ (Xj _))) (?_)
   refine at2 13 (q:=mv) (k:=?_)
   refine fg 14 rfl rfl rfl rfl (aa) rfl (df (mQ rfl)) (?_)
   refine fg 15 rfl rfl rfl rfl (aa) rfl (df (dm isb (congrArg (Value.int .i64) (show _=((F.c-1:Nat):Int)from a8)))) (?_)
   refine fg 16 rfl rfl rfl rfl (aa) rfl (df (tJ (s:=F.up F.c) rfl rfl hfa (F.c-1) rfl (by show F.c-1<F.c;omega))) (?_)
   refine at2 17 (q:=mv) (k:=at2 18 (q:=mv) (k:=?_))
   refine fg 19 rfl rfl rfl rfl (aa) rfl (df (mQ rfl)) (?_)
   refine fg 20 rfl rfl rfl rfl (aa) rfl (df (nD rfl hF F.c ⟨_,rfl⟩ ⟨_,_,rfl,rfl⟩ (Xj _))) (?_)
   refine at2 21 (q:=mv) (k:=?_)
   refine fg 22 rfl rfl rfl rfl (aa) rfl (df (mQ rfl)) (?_)
   refine fg 23 rfl rfl rfl rfl (aa) rfl (df (dm isb (congrArg (Value.int .i64) (show _=((F.c-1:Nat):Int)from a8)))) (?_)
   refine fg 24 rfl rfl rfl rfl (aa) rfl (df (tJ (s:=F.up F.c) rfl rfl hfa (F.c-1) rfl (by show F.c-1<F.c;omega))) (?_)
   refine fg 25 rfl rfl rfl rfl (aa) rfl (df (Ab (s:=F.up F.c) hfa rfl rfl)) (?_)
   refine as_ 26 (q:=pkt) (k:=as_ 27 (q:=asn) (k:=az_ (k:=qn_ (wt_ (rT (k:=?_))))))
   exact⟨_,hsb,rfl,rfl⟩
  replace h2:=nrm h2
  exfalso;have h9:=h2;omega
 replace h1:=nrm h1
 exfalso;have h9:=h1;omega
theorem JH {G:cJ}{H R:cG}{F sx:SV}{all:List Nat}{n v:Nat}{q:Value} [hr:gV H F eU all R] (hF:fO F) (hl:all.length=F.c) (hw:Wd all) (hx:Src R F all sx (wds v)) (hv0:v≠0) (hv:v<B64):SC G prog 129 [(F.up n).val,q,sx.val] H (λv' H'=>∃(F':SV) (all':List Nat),v'=(F'.up (wds (v*v)).length).val∧NW F' all' (v*v)∧H'=Row F' eU all'::R):=by
 have hlv:(wds v).length=1:=gX hv0 hv
 haveI hsx:=hx.sl hr hF hl
 refine sWk func129 ?_
 refine ws_ (wr_ (e_ asn (k:=on_ (qn_ (ws_ (wr_ (e_ mv (k:=e_ lnn (k:=e_ asn (k:=on_ (qn_ (ws_ (wb_ (?_))))))))))))))
 refine ws_ (wr_ (e_ mv (k:=e_ ieq (k:=e_ asn (k:=on_ (qn_ (wi_ (k:=λh1=>?_) (m:=λh1=>?_))))))))
 ·exfalso;have h9:=h1;omega
 refine ws_ (wr_ (e_ mv (k:=e_ ieq (k:=e_ asn (k:=on_ (qn_ (wi_ (k:=λh2=>?_) (m:=λh2=>?_))))))))
 ·refine ws_ (wr_ (e_ mv (k:=e_ (ixa (i:=0)) (k:=e_ (lel (hy:=(show(wds v)[0]? =some v by rw[gF hv0 hv];all_goals rfl))) (k:=e_ asn (k:=on_ (qn_ (ws_ (wr_ (e_ mv (k:=?_)))))))))))
  refine c2_ rfl (qn (F:=F) (sx:=SV.nil) (xs:= []) (n:=n) (k:=2) (m:=2) hF hl hw (ae) (Xj _) (.inl ⟨λL _=>⟨rfl,Xj _,.inl ⟨rfl,rfl⟩⟩⟩)) (k:=?_)
  rintro _ _ ⟨F2,mid,post,R2,rfl,hF2,hml,hmp,hk2,hwm,hwp,_,hR2,rfl⟩
  obtain⟨p0,p1,rfl⟩:∃p0 p1,mid= [p0,p1]:=by
   match mid,hml with
   | [a,b],_=>exact⟨a,b,rfl⟩
  haveI hz:=ir (R:=R2) (F:=F2) (xs:= [p0,p1]) (post:=post) hF2 hmp
  obtain⟨fb,fo,hfa⟩:=hF2.some (a8)
  refine e_ asn (k:=on_ (qn_ (ws_ (wr_ (e_ mv (k:=e_ mv (k:=e_ mv (k:=e_ mv (k:=?_)))))))))
  refine d2_ rfl (KO (x:=v) (y:=v) hv hv) (k:=e_ mv (k:=e_ exr (k:=e_ exr (k:=?_))))
  refine e_ (tJ (s:=F2.up 2) rfl rfl ⟨fb,fo,hfa⟩ 1 rfl (by show 1<2;decide)) (k:=?_)
  refine s_ (dc (s:=F2) (i:=1) rfl rfl rfl (ak)) (k:=?_)
  rintro _ _ ⟨rfl,rfl⟩
  refine e_ (tJ (s:=F2.up 2) rfl rfl ⟨fb,fo,hfa⟩ 0 rfl (by show 0<2;decide)) (k:=?_)
  refine s_ (dc (s:=F2) (i:=0) rfl rfl rfl (ak)) (k:=?_)
  rintro _ _ ⟨rfl,rfl⟩
  rw[show(([p0,p1]++post).set 1 (v*v/B64)).set 0 (v*v%B64)= [v*v%B64,v*v/B64]++post from rfl]
  have hwv:wv [v*v%B64,v*v/B64]=v*v:=by simp only[wv,B64];omega
  have hvv:v*v/B64<B64:=Nat.div_lt_of_lt_mul (Nat.mul_lt_mul'' hv hv)
  have hwd:Wd [v*v%B64,v*v/B64]:=Wd.cons (Um _ (ae)) (Wd.cons hvv Wd.nil)
  have hcl: [v*v%B64,v*v/B64].length+post.length=F2.c:=hmp
  haveI hz3:Sl (Row F2 eU ([v*v%B64,v*v/B64]++post)::R2) (F2.up 2) eU [v*v%B64,v*v/B64]:=ir (R:=R2) hF2 hcl
  refine on_ (qn_ (ws_ (wr_ (e_ mv (k:=?_)))))
  refine d1_ rfl (uz hF2 (by simp at hcl⊢;omega) (ak) hwd) (k:=e_ asn (k:=on_ (qn_ (wt_ (br_ (qr_ (rT (k:=?_))))))))
  exact⟨_,cH.keep hR2,F2,_,by rw[hwv];all_goals rfl,z8 hF2 hcl hwd hwp hwv,rfl⟩
 exfalso;have h9:=h2;omega
theorem MW {G:cJ}{H R:cG}{F:SV}{all:List Nat}{v:Nat}{q:Value} [hr:gV H F eU all R] [h27:cY R 27 [.int .i64 12]] [h28:cY R 28 [.int .i64 80]] (hn:NW F all v) (h2:2≤(wds v).length) (h11:(wds v).length≤11):SC G prog 129 [(F.up (wds v).length).val,q,(F.up (wds v).length).val] H (λv' H'=>∃(F':SV) (all':List Nat),v'=(F'.up (wds (v*v)).length).val∧NW F' all' (v*v)∧H'=Row F' eU all'::R):=by
 refine eZ (dH hr cH.refl) ?_
 haveI hz:Sl (Row F eU all::R) (F.up (wds v).length) eU (wds v):=hn.sl inferInstance
 have hle:=hn.le
 refine sWk func129 ?_
 refine ws_ (wr_ (e_ asn (k:=on_ (qn_ (ws_ (wr_ (e_ mv (k:=e_ lnn (k:=e_ asn (k:=on_ (qn_ (ws_ (wb_ (?_))))))))))))))
 refine ws_ (wr_ (e_ mv (k:=e_ ieq (k:=e_ asn (k:=on_ (qn_ (wi_ (k:=λh1=>?_) (m:=λh1=>?_))))))))
 ·exfalso;have h9:=h1;omega
 refine ws_ (wr_ (e_ mv (k:=e_ ieq (k:=e_ asn (k:=on_ (qn_ (wi_ (k:=λh2=>?_) (m:=λh2=>?_))))))))
 ·exfalso;have h9:=h2;omega
 refine wk_ (bn_ (qn_ (ws_ (ws_ (wr_ (e_ mv (k:=e_ mv (k:=?_))))))))
 refine d2_ rfl (zp hn.fl (a8)) (k:=on_ (qn_ (wi_ (k:=λh3=>?_) (m:=λh3=>?_))))
 ·refine wr_ (e_ asn (k:=on_ (qn_ (ws_ (wr_ (e_ mv (k:=e_ mv (k:=?_))))))))
  refine e_ (dm iml (congrArg (Value.int .i64) (show _=((2*(wds v).length:Nat):Int)from a8))) (k:=?_)
  refine c2_ rfl (E7 (F:=SV.nil) (n:=0) (k:=2*(wds v).length) fO.nil (a8)) (k:=?_)
  rintro _ _ (⟨h8,_⟩|⟨h8,F2,m,rfl,hF2,hc2,hkm,hm4,rfl⟩)
  ·exfalso;have h7:2*(wds v).length≤0:=h8;omega
  have hrep:List.replicate m 0=List.replicate (2*(wds v).length) 0++List.replicate (m-2*(wds v).length) 0:=by rw[List.replicate_append_replicate];congr 1;omega
  rw[hrep]
  obtain⟨mid,hmid⟩:=ex (List.replicate (2*(wds v).length) 0)
  obtain⟨post,hpost⟩:=ex (List.replicate (m-2*(wds v).length) 0)
  have hml:mid.length=2*(wds v).length:=by rw[hmid];simp
  have hpl:post.length=m-2*(wds v).length:=by rw[hpost];simp
  have hwp:Wd post:=by rw[hpost];exact qc _
  rw[←hmid,←hpost,←hml]
  refine e_ asn (k:=on_ (qn_ (ws_ (ws_ (wr_ (e_ mv (k:=e_ ldv (k:=e_ ilt (k:=e_ mv (k:=cQ 4 50 (k:=λh4=>eg_ mv (k:=eg_ ldv (k:=eg_ ilt (k:=e_ pkt (k:=on_ (edq)))))) (q:=on_ (qn_ (wi_ (k:=λh5=>?_) (m:=λh5=>?_))))))))))))))
  ·refine ws_ (wr_ (e_ mv (k:=e_ mv (k:=e_ mv (k:=?_)))))
   refine c3_ rfl (Cb (F:=F2) (sx:=F.up (wds v).length) (mid:=mid) (post:=post) (xs:=wds v) hF2 (a8) (a8) (a8) (a8) (oB v)) (k:=?_)
   rintro _ _ ⟨o,rfl,hol,hwo,hval,rfl⟩
   rw[rY]at hval
   haveI hz2:Sl (Row F2 eU (o++post)::Row F eU all::R) (F2.up mid.length) eU o:=by
    have:=ir (R:=Row F eU all::R) (F:=F2) (xs:=o) (post:=post) hF2 (a8)
    rwa [hol]at this
   refine on_ (qn_ (ws_ (wr_ (e_ mv (k:=?_)))))
   refine d1_ rfl (uz hF2 (a8) (a8) hwo) (k:=e_ asn (k:=on_ (qn_ (wt_ (qr_ (rT (k:=?_)))))))
   exact⟨_,cH.keep (cH.drop cH.refl),F2,_,by rw[hval];all_goals rfl,z8 hF2 (a8) hwo hwp hval,rfl⟩
  exfalso;have h9:=h5;omega
 exact absurd h3 (ae)
def Ql:ByteArray:=⟨#[48,49,50,51,52,53,54,55,56,57,97,98,99,100,101,102,103,104,105,106,107,108,109,110,111,112,113,114,115,116,117,118,119,120,121,122]⟩
theorem Mt:∀d:Fin 10,cF (Ql.extract d.val (d.val+1))= [48+d.val]:=ao
theorem Kx {G:cJ}{H:cG}{d:Nat}(hd:d<10):SC G prog 144 [iN d] H (λv H'=>(∃q,v=.string q∧cF q= [48+d])∧H'=H):=by
 refine sWk func144 ?_
 refine ws_ (wr_ (e_ asn (k:=on_ (qn_ (ws_ (ws_ (wr_ (e_ mv (k:=e_ ilt (k:=on_ (qn_ (wi_ (k:=λh1=>?_) (m:=λh1=>?_)))))))))))))
 ·refine ws_ (wr_ (e_ mv (k:=e_ mv (k:=e_ iad (k:=e_ (PF (h2:=(by show d+1≤36;omega))) (k:=e_ asn (k:=on_ (qn_ (wt_ (qr_ (rT (k:=?_))))))))))))
  exact⟨_,hsb,⟨_,rfl,Mt ⟨d,hd⟩⟩,rfl⟩
 exact absurd h1 (a8)
theorem No {G:cJ}{H:cG}{d:Nat}(hd:d<10):SC G prog 89 [uN d,.int .i64 10] H (λv H'=>(∃q,v=.string q∧cF q= [48+d])∧H'=H):=by
 refine sWk func89 ?_
 refine ws_ (wr_ (e_ asn (k:=on_ (qn_ (ws_ (ws_ (wr_ (e_ mv (k:=e_ ieq (k:=on_ (qn_ (wi_ (k:=λh1=>?_) (m:=λh1=>?_)))))))))))))
 ·refine ws_ (ws_ (wr_ (e_ mv (k:=e_ ilt (k:=on_ (qn_ (wi_ (k:=λh2=>?_) (m:=λh2=>?_))))))))
  ·refine ws_ (wr_ (e_ mv (k:=?_)))
   refine e_ (dL rfl (a8)) (k:=?_)
   refine c1_ rfl (Kx hd) (k:=?_)
   rintro _ _ ⟨⟨q,rfl,hq⟩,rfl⟩
   refine e_ asn (k:=on_ (qn_ (wt_ (qr_ (qr_ (rT (k:=?_)))))))
   exact⟨_,hsb,⟨q,rfl,hq⟩,rfl⟩
  exact absurd h2 (a8)
 exact absurd h1 (ae)
theorem Np {G:cJ}{H:cG}{d:Nat}(hd:d<10):SC G prog 48 [uN d,.int .i64 10] H (λv H'=>(∃q,v=.string q∧cF q= [48+d])∧H'=H):=by
 refine sWk func48 ?_
 refine ws_ (wr_ (e_ asn (k:=on_ (qn_ (ws_ (wr_ (e_ mv (k:=e_ mv (k:=?_)))))))))
 refine c2_ rfl (No hd) (k:=?_)
 rintro _ _ ⟨⟨q,rfl,hq⟩,rfl⟩
 refine e_ asn (k:=on_ (qn_ (wt_ (rT (k:=?_)))))
 exact⟨_,hsb,⟨q,rfl,hq⟩,rfl⟩
theorem CS {k r:Nat}(hr:0<r):tz (k+1) r=(48+r*10/262144)::tz k (r*10%262144):=by
 rw[tz,if_neg (a8)]
theorem G9 (k:Nat):tz k 0= []:=by cases k <;> rfl
theorem tU (x:Nat):x &&& 262143=x%262144:=V6 x 18
theorem JG {G:cJ}{H:cG}{x:Nat}(hx:x/262144<10):SC G prog 20 [uN x] H (λv H'=>(∃q,v=.string q∧cF q=qV x)∧H'=H):=by
 refine sWk func20 ?_
 refine ws_ (wr_ (e_ asn (k:=on_ (qn_ (ws_ (wr_ (e_ mv (k:=?_))))))))
 refine e_ (dm (du rfl rfl x 18 rfl rfl (ae)) (show uN (x/2^18)=uN (x/262144)from rfl)) (k:=?_)
 refine c2_ rfl (Np hx) (k:=?_)
 rintro _ _ ⟨⟨q,rfl,hq⟩,rfl⟩
 refine e_ asn (k:=on_ (qn_ (ws_ (wr_ (e_ mv (k:=?_))))))
 refine e_ (dm (gn 18446744073709551616 rfl rfl rfl rfl x 262143 rfl rfl (a8) (ae)) (show uN (x &&& 262143)=uN (x%262144)from by rw[tU])) (k:=?_)
 refine e_ asn (k:=on_ (qn_ (ws_ (ws_ (wr_ (e_ mv (k:=e_ ieq (k:=on_ (qn_ (wi_ (k:=λh1=>?_) (m:=λh1=>?_)))))))))))
 ·refine ws_ (wr_ (e_ mv (k:=e_ asn (k:=on_ (qn_ (wt_ (qr_ (rT (k:=?_)))))))))
  exact⟨_,hsb,⟨q,rfl,by rw[hq,qV,if_pos (az),o8 hx];all_goals rfl⟩,rfl⟩
 have hx0:=h1
 refine wk_ (qn_ (ws_ (wr_ (?_))))
 have hqz:q.size=1:=by rw[←cI,hq];all_goals rfl
 refine e_ mv (k:=e_ (xC (h:=by rw[hqz];decide)) (k:=e_ asn (k:=on_ (qn_ (ws_ (wb_ (wl2_ (ByteArray×Nat×Nat) (λy=>y.2.1<262144∧y.2.1*2^y.2.2%262144=0∧cF y.1++tz y.2.2 y.2.1=qV x∧y.1.size+y.2.2≤40) (λy=>[(3,.string y.1),(4,uN y.2.1)]) [] (λy=>[]) _ (λy=>y.2.2) ((_,_,18)) (h0:=?_) (k:=?_))))))))
 ·try dsimp only
  refine⟨a8,by rw[show(2:Nat)^18=262144 from rfl,Nat.mul_mod_left],?_,?_⟩
  ·rw[dR,hq,qV,if_neg (a8),o8 hx];all_goals rfl
  ·rw[ByteArray.size_append,hqz];decide
 rintro⟨o,r,k⟩ ⟨hr,hz,ho,hsz⟩
 try dsimp only[Yd,Ye]at*
 refine ws_ (ws_ (wr_ (e_ mv (k:=e_ igt (k:=on_ (qn_ (wi_ (k:=λh2=>?_) (m:=λh2=>?_))))))))
 ·obtain⟨j,rfl⟩:∃j,k=j+1:=by
   cases k with
   |zero=>exfalso;have h9:=h2;rw[Nat.pow_zero]at hz;omega
   |succ j=>exact⟨j,rfl⟩
  refine wk_ (qn_ (wb_ (ws_ (wr_ (e_ mv (k:=?_))))))
  refine e_ (dm (eh 18446744073709551616 rfl rfl rfl rfl r 10 rfl rfl) (show uN (r*10%18446744073709551616)=uN (r*10)from by rw[Xt (a8)])) (k:=?_)
  refine e_ asn (k:=on_ (qn_ (ws_ (wr_ (e_ mv (k:=e_ mv (k:=?_)))))))
  refine e_ (dm (du rfl rfl (r*10) 18 rfl rfl (ae)) (show uN (r*10/2^18)=uN (r*10/262144)from rfl)) (k:=?_)
  refine c2_ rfl (Np (d:=r*10/262144) (a8)) (k:=?_)
  rintro _ _ ⟨⟨q2,rfl,hq2⟩,rfl⟩
  refine e_ (xC (h:=by rw[←cI q2,hq2];show o.size+1≤_;omega)) (k:=e_ asn (k:=on_ (qn_ (wr_ (e_ mv (k:=?_))))))
  refine e_ (dm (gn 18446744073709551616 rfl rfl rfl rfl (r*10) 262143 rfl rfl (a8) (ae)) (show uN (r*10 &&& 262143)=uN (r*10%262144)from by rw[tU])) (k:=?_)
  refine e_ asn (k:=on_ (bn_ (?_)))
  refine ln_ ((_,_,j)) (k:=?_)
  try dsimp only
  refine⟨a8,?_,?_,?_⟩
  ·rw[Nat.mod_mul_mod,show r*10*2^j=r*2^(j+1)*5 by rw[T9];generalize 2^j=z;rw[Un,Un,Un];congr 1;omega,Nat.mul_mod,hz]
  ·rw[dR,hq2,←ho,CS (a8),Yf];all_goals rfl
  ·rw[ByteArray.size_append,←cI q2,hq2];show o.size+1+j≤40;omega
 obtain rfl:r=0:=aL
 refine we_ (qe_ (le_ (bh_ (qn_ (ws_ (wr_ (e_ mv (k:=e_ asn (k:=on_ (qn_ (wt_ (rT (k:=?_)))))))))))))
 exact⟨_,hsb,⟨_,rfl,by rw[←ho,G9,Ym]⟩,rfl⟩
theorem Pz {G:cJ}{H:cG}{q:ByteArray}(x:Nat):SC G prog 188 [.string q,.int .u8 (x:Int)] H (λv H'=>v=.int .i64 (ixR q x)∧H'=H):=by
 refine sWk func188 ?_
 refine ws_ (wr_ (e_ asn (k:=on_ (qn_ (ws_ (wr_ (e_ mv (k:=e_ mv (k:=?_)))))))))
 refine s_ (vR (vs:= [_,_]) func258 (aa) rfl (aa) (aa) rfl (λw=>AY q x w)) (k:=?_)
 rintro _ _ ⟨rfl,rfl⟩
 refine e_ asn (k:=on_ (qn_ (wt_ (rT (k:=?_)))))
 exact⟨_,hsb,rfl,rfl⟩
theorem tIx {G:cJ}{H:cG}{q:ByteArray}(hne:¬cF ⟨#[46]⟩=cF q):SC G prog 113 [.string q,.string ⟨#[46]⟩] H (λv H'=>v=.int .i64 (ixR q 46)∧H'=H):=by
 refine sWk func113 ?_
 refine ws_ (wr_ (e_ asn (k:=on_ (qn_ (ws_ (wr_ (e_ mv (k:=?_))))))))
 refine e_ (dm oe (show Value.int .i64 (((⟨#[46]⟩:ByteArray).size:Nat):Int)=.int .i64 1 from rfl)) (k:=?_)
 refine e_ asn (k:=on_ (qn_ (ws_ (wb_ (ws_ (wr_ (e_ mv (k:=e_ ieq (k:=e_ mv (k:=dz 4 23 (k:=λh1=>eg_ mv (k:=eg_ mv (k:=eg_ np (k:=e_ pkf (k:=on_ (edq)))))) (q:=e_ asn (k:=on_ (qn_ (?_))))))))))))))
 refine wi_ (k:=λh2=>?_) (m:=λh2=>?_)
 ·exfalso;rcases h2 with h9|h9
  ·exact absurd h9 (ae)
  ·exact absurd h9 hne
 refine ws_ (wr_ (e_ mv (k:=e_ ieq (k:=e_ asn (k:=on_ (qn_ (wi_ (k:=λh3=>?_) (m:=λh3=>?_))))))))
 ·refine ws_ (wr_ (e_ mv (k:=e_ mv (k:=?_))))
  refine e_ (dm (ixs (i:=0) (hlt:=by decide)) (show Value.int .u8 _=.int .u8 ((46:Nat):Int)from rfl)) (k:=?_)
  refine d2_ rfl (Pz 46) (k:=e_ asn (k:=on_ (qn_ (wt_ (br_ (qr_ (rT (k:=?_))))))))
  exact⟨_,hsb,rfl,rfl⟩
 exact absurd h3 (ae)
theorem Nz {G:cJ}{H:cG}{q:ByteArray}(hi:ixR q 46=1) (h2:2≤q.size) (hs:q.size≤100):SC G prog 70 [.string q,.string ⟨#[46]⟩] H (λv H'=>v=.tuple #[.string (q.extract 0 1),.string (q.extract 2 q.size),.bool true]∧H'=H):=by
 refine sWk func70 ?_
 refine ws_ (wr_ (e_ asn (k:=e_ asn (k:=e_ asn (k:=on_ (qn_ (ws_ (ws_ (wr_ (e_ mv (k:=e_ mv (k:=?_))))))))))))
 refine d2_ rfl ((hi ▸ tIx (by intro h;have h3:=congrArg List.length h;rw[cI,cI]at h3;have h4:(⟨#[46]⟩:ByteArray).size=1:=rfl;omega))) (k:=e_ asn (k:=on_ (qn_ (ws_ (wr_ (e_ mv (k:=e_ ige (k:=on_ (qn_ (wi_ (k:=λh1=>?_) (m:=λh1=>?_)))))))))))
 ·refine ws_ (?_)
  refine cZ cN (as_ 0 (q:=mv) (k:=as_ 1 (q:=mv) (k:=as_ 2 (q:=oF (b:=1) (h1:=by omega)) (k:=as_ 3 (q:=mv) (k:=as_ 4 (q:=mv) (k:=as_ 5 (q:=mv) (k:=?_)))))))
  refine cO 6 rfl rfl (aa) rfl (df (dm oe (show Value.int .i64 (((⟨#[46]⟩:ByteArray).size:Nat):Int)=.int .i64 1 from rfl))) (?_)
  refine cO 7 rfl rfl (aa) rfl (df (dm iad (show Value.int .i64 (1+1)=iN 2 from rfl))) (?_)
  refine as_ 8 (q:=zw) (k:=as_ 9 (q:=asn) (k:=as_ 10 (q:=asn) (k:=as_ 11 (q:=asn) (k:=az_ (k:=qn_ (wt_ (qr_ (rT (k:=?_)))))))))
  exact⟨_,hsb,rfl,rfl⟩
 exact absurd h1 (ae)
theorem PC {G:cJ}{H:cG}{q:ByteArray}(hi:ixR q 46=1) (h2:2≤q.size) (hs:q.size≤100):SC G prog 34 [.string q,.string ⟨#[46]⟩] H (λv H'=>v=.tuple #[.string (q.extract 0 1),.string (q.extract 2 q.size),.bool true]∧H'=H):=by
 refine sWk func34 ?_
 refine ws_ (wr_ (e_ asn (k:=e_ asn (k:=e_ asn (k:=on_ (qn_ (ws_ (wr_ (e_ mv (k:=e_ mv (k:=?_)))))))))))
 refine d2_ rfl (Nz hi h2 hs) (k:=e_ exr (k:=e_ exr (k:=e_ exr (k:=e_ asn (k:=e_ asn (k:=e_ asn (k:=on_ (qn_ (wt_ (rT (k:=?_)))))))))))
 exact⟨_,hsb,rfl,rfl⟩
theorem Px {G:cJ}{H:cG}:SC G prog 71 [.string ⟨#[49]⟩,.int .i64 10,.int .i64 46] H (λv H'=>v=.tuple #[.int .u64 1,.nilIface]∧H'=H):=by
 refine sWk func71 ?_
 refine ws_ (wr_ (e_ asn (k:=e_ asn (k:=on_ (qn_ (ws_ (ws_ (wr_ (e_ mv (k:=e_ np (k:=on_ (qn_ (wi_ (k:=λh1=>?_) (m:=λh1=>?_))))))))))))))
 ·exact absurd h1 (ae)
 refine wk_ (qn_ (ws_ (wr_ (e_ mv (k:=e_ ieq (k:=e_ asn (k:=on_ (qn_ (ws_ (wr_ (e_ mv (k:=e_ asn (k:=on_ (?_))))))))))))))
 refine qn_ (ws_ (wb_ (ws_ (wr_ (e_ mv (k:=e_ ile (k:=e_ mv (k:=cQ 3 31 (k:=λh2=>eg_ mv (k:=eg_ ile (k:=e_ pkt (k:=on_ (edq))))) (q:=e_ asn (k:=on_ (qn_ (wi_ (k:=λh3=>?_) (m:=λh3=>?_)))))))))))))
 ·refine wk_ (bn_ (qn_ (ws_ (ws_ (wr_ (e_ mv (k:=e_ ieq (k:=on_ (qn_ (wi_ (k:=λh4=>?_) (m:=λh4=>?_)))))))))))
  ·exact absurd h4 (ae)
  refine ws_ (wr_ (e_ mv (k:=e_ ilt (k:=e_ mv (k:=dz 3 83 (k:=λh5=>eg_ mv (k:=eg_ igt (k:=e_ pkf (k:=on_ (edq))))) (q:=on_ (qn_ (wi_ (k:=λh6=>?_) (m:=λh6=>?_)))))))))
  ·exfalso;rcases h6 with h9|h9 <;> exact absurd h9 (ae)
  refine wk_ (qn_ (ws_ (wr_ (e_ asn (k:=on_ (qn_ (ws_ (ws_ (wr_ (e_ mv (k:=on_ (qn_ (wb_ (?_))))))))))))))
  refine ws_ (wr_ (e_ ieq (k:=e_ asn (k:=on_ (qn_ (wi_ (k:=λh7=>?_) (m:=λh7=>?_)))))))
  ·refine wr_ (e_ asn (k:=on_ (bn_ (qn_ (ws_ (wr_ (e_ mv (k:=?_))))))))
   refine e_ ((ab)) (k:=?_)
   refine e_ (gm 18446744073709551616 rfl rfl rfl rfl 1 _ rfl rfl) (k:=?_)
   refine e_ (iV 18446744073709551616 rfl rfl rfl rfl 70368744177664 1 rfl rfl (ae) (ae)) (k:=?_)
   refine e_ asn (k:=on_ (qn_ (ws_ (wr_ (e_ asn (k:=on_ (qn_ (ws_ (wr_ (e_ asn (k:=on_ (qn_ (ws_ (?_))))))))))))))
   refine ws_ (wr_ (e_ mv (k:=?_)))
   refine s_ (JR rfl) (k:=?_)
   rintro _ _ ⟨s99,rfl,rfl⟩
   refine e_ lnn (k:=e_ mv (k:=on_ (qn_ (wb_ (?_)))))
   refine wl2_ (Nat×Nat) (λy=>(y.1=0∧y.2=0)∨(y.1=1∧y.2=1)) (λy=>[(13,uN y.2),(101,iN y.1)]) [(1,_),(8,_),(9,_),(10,_),(11,_),(12,_),(99,_),(100,_)] (λy=>[]) _ (λy=>1-y.1) ((0,0)) (h0:=?_) (k:=?_)
   ·try dsimp only
    exact .inl ⟨rfl,rfl⟩
   rintro⟨i,v⟩ hiv
   try dsimp only[Yd,Ye]at*
   refine ws_ (wr_ (e_ ilt (k:=on_ (qn_ (ws_ (wi_ (k:=λh8=>?_) (m:=λh8=>?_)))))))
   ·obtain⟨rfl,rfl⟩:i=0∧v=0:=by
     rcases hiv with h9|⟨rfl,_⟩
     ·exact h9
     ·exact absurd h8 (ae)
    refine wk_ (qn_ (ws_ (wb_ (ws_ (wr_ (e_ ixa (k:=e_ (lel (hy:=(show(cF ⟨#[49]⟩)[0]? =some 49 from rfl))) (k:=e_ asn (k:=on_ (qn_ (ws_ (wr_ (e_ asn (k:=?_))))))))))))))
    refine on_ (qn_ (ws_ (wb_ (ws_ (wr_ (e_ mv (k:=e_ ieq (k:=e_ mv (k:=cQ 2 111 (k:=λh9=>eg_ mv (k:=e_ pkt (k:=on_ (edq)))) (q:=e_ asn (k:=on_ (qn_ (wi_ (k:=λh10=>?_) (m:=λh10=>?_))))))))))))))
    ·exact absurd h10.1 (ae)
    refine ws_ (wr_ (e_ mv (k:=e_ ile (k:=e_ mv (k:=cQ 3 118 (k:=λh11=>eg_ mv (k:=eg_ ile (k:=e_ pkt (k:=on_ (edq))))) (q:=e_ asn (k:=on_ (qn_ (wi_ (k:=λh12=>?_) (m:=λh12=>?_))))))))))
    ·refine wr_ (e_ mv (k:=?_))
     refine e_ (iV 256 rfl rfl rfl rfl 49 48 rfl rfl (ae) (ae)) (k:=?_)
     refine e_ asn (k:=on_ (bn_ (qn_ (ws_ (ws_ (wr_ (e_ mv (k:=e_ mv (k:=?_)))))))))
     refine e_ (cR 256 rfl rfl rfl 10 rfl (ae)) (k:=?_)
     refine e_ ige (k:=on_ (qn_ (wi_ (k:=λh13=>?_) (m:=λh13=>?_))))
     ·exact absurd h13 (ae)
     refine wk_ (qn_ (ws_ (ws_ (wr_ (e_ mv (k:=e_ mv (k:=e_ ige (k:=on_ (qn_ (wi_ (k:=λh14=>?_) (m:=λh14=>?_)))))))))))
     ·exact absurd h14 (ae)
     refine wk_ (qn_ (ws_ (wr_ (e_ mv (k:=e_ mv (k:=?_))))))
     refine e_ ((ab)) (k:=?_)
     refine e_ (dm (eh 18446744073709551616 rfl rfl rfl rfl 0 10 rfl rfl) (show uN (0*10%18446744073709551616)=uN 0 from rfl)) (k:=?_)
     refine e_ asn (k:=on_ (qn_ (ws_ (wr_ (e_ mv (k:=e_ mv (k:=?_)))))))
     refine e_ ((ab)) (k:=?_)
     refine e_ (dm (iE 18446744073709551616 rfl rfl rfl rfl 0 1 rfl rfl) (show uN ((0+1)%18446744073709551616)=uN 1 from rfl)) (k:=?_)
     refine e_ asn (k:=on_ (qn_ (ws_ (ws_ (wr_ (e_ mv (k:=e_ mv (k:=e_ ilt (k:=e_ mv (k:=dz 4 159 (k:=λh15=>eg_ mv (k:=eg_ mv (k:=eg_ igt (k:=e_ pkf (k:=on_ (edq)))))) (q:=on_ (qn_ (wi_ (k:=λh16=>?_) (m:=λh16=>?_))))))))))))))
     ·exfalso;rcases h16 with h9|h9 <;> exact absurd h9 (ae)
     refine wk_ (qn_ (wr_ (e_ mv (k:=e_ asn (k:=on_ (bn_ (qn_ (wr_ (e_ iad (k:=e_ mv (k:=on_ (?_))))))))))))
     refine ln_ ((1,1)) (k:=?_)
     try dsimp only
     exact .inr ⟨rfl,rfl⟩
    exact absurd h12 (ae)
   obtain⟨rfl,rfl⟩:i=1∧v=1:=by
    rcases hiv with⟨rfl,_⟩|h9
    ·exact absurd (show((0:Nat):Int)<((cF ⟨#[49]⟩).length:Int)from ae) h8
    ·exact h9
   refine we_ (qe_ (le_ (bh_ (qn_ (ws_ (ws_ (wr_ (e_ mv (k:=e_ mv (k:=cQ 4 169 (c:=false) (k:=λh18=>?_) (q:=?_)))))))))))
   ·exfalso;have h9:=h18;exact absurd h9 (ae)
   refine on_ (qn_ (wi_ (k:=λh19=>?_) (m:=λh19=>?_)))
   ·exact absurd h19.1 (ae)
   refine wk_ (qn_ (ws_ (wr_ (e_ mv (k:=e_ asn (k:=e_ asn (k:=on_ (qn_ (wt_ (rT (k:=?_)))))))))))
   exact⟨_,hsb,rfl,rfl⟩
  exact absurd h7 (ae)
 exact absurd h3 (ae)
theorem tPU {G:cJ}{H:cG}:SC G prog 35 [.string ⟨#[49]⟩,.int .i64 10,.int .i64 46] H (λv H'=>v=.tuple #[.int .u64 1,.nilIface]∧H'=H):=by
 refine sWk func35 ?_
 refine ws_ (wr_ (e_ asn (k:=e_ asn (k:=on_ (qn_ (ws_ (wr_ (e_ mv (k:=e_ mv (k:=e_ mv (k:=?_)))))))))))
 refine d3_ rfl (Px) (k:=e_ mv (k:=e_ exr (k:=e_ exr (k:=e_ asn (k:=e_ asn (k:=on_ (qn_ (ws_ (ws_ (wr_ (e_ mv (k:=?_))))))))))))
 refine e_ ((bP)) (k:=?_)
 refine on_ (qn_ (wi_ (k:=λh1=>?_) (m:=λh1=>?_)))
 ·cases h1
 refine wk_ (qn_ (ws_ (wr_ (e_ mv (k:=e_ asn (k:=e_ asn (k:=on_ (qn_ (wt_ (rT (k:=?_)))))))))))
 exact⟨_,hsb,rfl,rfl⟩
theorem Pr {G:cJ}{H:cG}:SC G prog 140 [] H (λv H'=>∃b,v=pA b∧H'=Vr b [.pointer none]::H):=by
 refine sWk func140 ?_
 refine ws_ (wr_ (e_ asn (k:=on_ (qn_ (ws_ (wr_ (e_ (bld []) (k:=bxx (k:=λb2=>?_)))))))))
 refine e_ asn (k:=on_ (qn_ (wt_ (rT (k:=?_)))))
 exact⟨_,hsb,b2,rfl,rfl⟩
theorem Nm {G:cJ}{H:cG}{b:Nat} [cY H b [.pointer none]]:SC G prog 141 [pA b] H (λv H'=>v=.tuple #[]∧H'=H):=by
 refine sWk func141 ?_
 refine ws_ (wr_ (e_ mv (k:=e_ nck (k:=e_ fla (k:=e_ ldv (k:=e_ asn (k:=on_ (qn_ (ws_ (wr_ (e_ mv (k:=?_))))))))))))
 refine e_ (kP rfl) (k:=?_)
 refine on_ (qn_ (wi_ (k:=λh1=>?_) (m:=λh1=>?_)))
 ·cases h1
 refine wk_ (rT (k:=?_))
 exact⟨_,hsb,rfl,rfl⟩
def zE (i:Nat):Nat:= [10,100,10000,1000000000,1000000000000000000].getD i 10
def sE (i:Nat):Nat:= [100,10000,100000000,1000000000000000000].getD i 0
def vE (i:Nat):Nat:= [2305843009213693952,4611686018427387904,9223372036854775808,0,0].getD i 0
theorem MM:∀i:Fin 5,zE i.val≠0∧zE i.val<18446744073709551616:=ae
theorem JT:∀i:Fin 4,zE i.val*zE i.val=sE i.val∧sE i.val≠0∧sE i.val<18446744073709551616∧vE i.val*2^1%18446744073709551616=vE (i.val+1)∧vE i.val<18446744073709551616:=ae
theorem Kn:∀i:Fin 4,(vE i.val &&& 9223372036854775808=0↔i.val≠2)∧(i.val≠2→sE i.val=zE (i.val+1)):=ae
theorem DE:wds 10= [10]:=gF (ae) (ae)
theorem w10:Wd [10]:=by have:=oB 10;rw[DE]at this;exact this
theorem NW.sl1 {F:SV}{all:List Nat}{x:Nat}(h:NW F all x) (h0:x≠0) (hx:x<B64) {H:cG}(hs:Sl H F eU all):Sl H (F.up 1) eU (wds x):=by
 have:=h.sl hs
 rw[gX h0 hx]at this
 exact this
theorem MX {G:cJ}{H R:cG}{F F2:SV}{all all2:List Nat}{n i:Nat}{q:Value} [hr:gV H F2 eU all2 R] [hs:Sl R F eU all] (hi:i<4) (hn:NW F all (zE i)) (hF2:fO F2) (hl2:all2.length=F2.c) (hw2:Wd all2):SC G prog 129 [(F2.up n).val,q,(F.up 1).val] H (λv' H'=>∃(F':SV) (all':List Nat),v'=(F'.up 1).val∧NW F' all' (sE i)∧H'=Row F' eU all'::R):=by
 obtain⟨h0,h1⟩:=MM ⟨i,a8⟩
 obtain⟨e0,e1,e2,_,_⟩:=JT ⟨i,hi⟩
 refine(JH hF2 hl2 hw2 (.inl (hn.sl1 h0 h1 hs)) h0 h1).mono λv' H' ⟨F',all',a1,a2,a3⟩=>⟨F',all',?_,?_,a3⟩
 ·rw[a1,e0,gX e1 e2]
 ·rw[←e0];exact a2
theorem N9 {G:cJ}{H R:cG}{F F2 sx:SV}{all all2:List Nat}{n:Nat}{q:Value} [hr:gV H F2 eU all2 R] [hs:Sl R F eU all] [hx:Sl R sx eU [10]] (hn:NW F all 100000000) (hF2:fO F2) (hl2:all2.length=F2.c) (hw2:Wd all2):SC G prog 130 [(F2.up n).val,q,(F.up 1).val,sx.val] H (λv' H'=>∃(F':SV) (all':List Nat),v'=(F'.up 1).val∧NW F' all' 1000000000∧H'=Row F' eU all'::R):=by
 refine(JM (u:=10) (v:=100000000) hF2 hl2 hw2 (.inl (hn.sl1 (ae) (ae) hs)) (hy:=by rw[DE];exact hx) (ae) (ae) (by rw[gX (ae) (ae)];decide)).mono λv' H' ⟨F',all',a1,a2,a3⟩=>⟨F',all',?_,a2,a3⟩
 rw[a1,gX (ae) (ae)]
theorem KI {G:cJ}{H:cG}{F:SV}{all:List Nat}(hn:NW F all 1000000000000000000) [hs:Sl H F eU all]:SC G prog 124 [(F.up 1).val] H (λv H'=>v=(F.up 1).val∧H'=H):=by
 haveI:=hn.sl1 (ae) (ae) hs
 have hw1:(wds 1000000000000000000).length=1:=gX (ae) (ae)
 exact(uz (xs:=wds 1000000000000000000) hn.fl hn.le (by rw[hw1];decide) (oB _)).mono λv' H' ⟨h1,h2⟩=>⟨by rw[h1,rY,hw1],h2⟩
theorem O1 {G:cJ}{H:cG}{b:Nat} [cY H b [.pointer none]]:At G prog 141 #[pA b] H:=by
 refine zI (args:= [pA b]) func141 rfl ntmps141 BL ?_
 refine ws_ (wr_ (e_ mv (k:=e_ nck (k:=e_ fla (k:=e_ ldv (k:=e_ asn (k:=on_ (qn_ (ws_ (wr_ (e_ mv (k:=?_))))))))))))
 refine e_ (kP rfl) (k:=?_)
 refine on_ (qn_ (wi_ (k:=λh1=>?_) (m:=λh1=>?_)))
 ·cases h1
 refine wk_ (rT (k:=?_))
 exact⟨rfl,hsb⟩
end Go.Sx
