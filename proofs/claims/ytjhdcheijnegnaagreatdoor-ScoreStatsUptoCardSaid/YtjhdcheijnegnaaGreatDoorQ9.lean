import Derived.Test.YtjhdcheijnegnaaGreatDoorQ7
import Derived.Shelf.Sort.Plain
import Derived.Shelf.Strings.Fields
import Derived.Shelf.Slices.In.SortNone
import Derived.Test.YtjhdcheijnegnaaGreatDoorProg
set_option linter.all false
set_option maxHeartbeats 0
namespace Go.Sx
def leB (m N:Nat):List Nat:=(List.range m).map λj=>N/256^j%256
theorem fj (m N:Nat):(leB m N).length=m:=by simp[leB]
theorem LI (m N:Nat):∀x∈leB m N,x<256:=by
 intro x hx;obtain⟨j,_,rfl⟩:=Xw.1 hx;exact Um _ ae
theorem nX {m N j:Nat}(h:j<m):(leB m N)[j]? =some (N/256^j%256):=by
 rw[leB,Xd,X3 h];all_goals rfl
theorem Fu {m j N y:Nat}(h:j<m):(N+256^m*y)/256^j%256=N/256^j%256:=by
 obtain⟨d,rfl⟩:∃d,m=j+1+d:=⟨m-(j+1),a8⟩;have e:256^(j+1+d)*y=256^j*(256*(256^d*y)):=by
  rw[Ud,T9,Un,Un]
 rw[e,Nat.add_mul_div_left _ _ (Nat.pow_pos ae),Nat.add_mul_mod_self_left]
theorem nT (T:Nat):2^T=256^(T/8)*2^(T%8):=by
 have:(256:Nat)=2^8:=rfl;rw[this,←Nat.pow_mul,←Ud];congr 1;omega
def gI (w:Nat):List Nat→Nat
 | []=>0
 |x::l=>x+2^w*gI w l
theorem sY (w x:Nat):∀l:List Nat,gI w (l++ [x])=gI w l+2^(w*l.length)*x
 | []=>by simp[gI]
 |y::l=>by
  rw[Yd,gI,sY w x l,gI,Yb,X0,X0,R6,Ud,←Un,Ug (2^w) (2^(w*l.length)),Vz]
theorem xO {w:Nat}:∀{l:List Nat},(∀x∈l,x<2^w)→gI w l<2^(w*l.length)
 | [],_=>by simp[gI]
 |y::l,h=>by
  have h1:=xO (l:=l) λx hx=>h x (Xa _ hx);have h2:=h y Yz;rw[gI,Yb,X0,R6,Ud,Ug (2^(w*l.length))];have h3:2^w*(gI w l+1)≤2^w*2^(w*l.length):=V8 _ h1;rw[X0]at h3;omega
theorem zJ {w:Nat}{l:List Nat}{i x:Nat}(h:l[i]? =some x):gI w (l.take (i+1))=gI w (l.take i)+2^(w*i)*x:=by
 have hi:=(Yk.1 h).1;rw[Ua,h,S7,sY,Yg,Vk a8]
def B9 (w:Nat) (l:List Nat):List Nat:=leB ((l.length*w+7)/8) (gI w l)
theorem DP {N T:Nat}(hN:N<2^T):N/256^(T/8)<2^(T%8):=by
 rw[Nat.div_lt_iff_lt_mul (Nat.pow_pos ae),Ug,←nT];exact hN
open Go Go.Proofs
set_option maxRecDepth 100000
theorem SC.less {G:cJ}{P:Program}{f:FuncId}{args:List Value}{K:Value→cG→Prop}{H H':cG}(hs:cH H H') (h:SC G P f args H' K):SC G P f args H K:=h.heap λw a=>hs.sat a
open Tryz
section
variable {i:Nat}{v:Int}{x:Operand}
section
variable {G:cJ}{P:Program}{t:Tm}{H:cG}{dst:Option Tmp}{ty:TypeId}{pos:String}{after:Array Edge}{g:Option (Nat×Bool)}
theorem yg {T E:TypeId}{b n sz bb:Nat}{z:Value}(hx:evo t x=some (pA b)) [hT:Und P T (.array n E)] [hE:Inf P E sz bb z] (hn:0<n):
 Ev G P ⟨dst,.slice T x none none none,ty,pos,after,g⟩ t H (SV.mk (some ⟨b,0,none⟩) n n).val:=
 fun ρ hρ w _=>by
  have h0:¬(n=0):=a8;simp[execOp,hρ _ _ hx,Instr.sliceAt,cS (T:=T),Instr.sureAddr,dA (T:=E) (s:=sz),Instr.sliceBounds,gu,SV.val]
theorem MI {b:Nat}{l:List Value}{α:Type}{e:Enc α}{xs:List α}{n:Nat} [h:cY H b l] (hl:l=e.all xs) (a:n=xs.length):Sl H ⟨some ⟨b,0,none⟩,n,n⟩ e xs:=
 ⟨λL hL=>by
  obtain⟨E,fz,hm⟩:=h.mem L hL;refine⟨a,Xj _,.inr ⟨b,0,l.toArray,E,fz,rfl,hm,?_,?_⟩⟩
  ·rw[hl];simp only[List.size_toArray,e.all_length];rw[a];omega
  ·intro j v hv;rw[Vf,hl];simpa using hv⟩
def x7 (v:Int):Nat:=(v%18446744073709551616).toNat
theorem yo {S D:TypeId}{ds:TypeDesc}{i:Int} [hs:Und P S ds] [hd:Und P D (.int .u64)] (hx:evo t x=some (.int .i64 i)):
 Ev G P ⟨dst,.convert S D x,ty,pos,after,g⟩ t H (uN (x7 i)):=
 fun ρ hρ w _=>by
  have e:(underlying S).run P w=.ok ds w:=by simp[underlying,hs.out]
  have b:(underlying D).run P w=.ok (.int .u64) w:=by simp[underlying,hd.out]
  have a:IntKind.wrap .u64 i=((x7 i:Nat):Int):=by
   have h1:0≤i%18446744073709551616:=Int.emod_nonneg _ ae;rw[x7,Int.toNat_of_nonneg h1];all_goals rfl
  simp only[execOp,convert,hρ _ _ hx,Sem.run_bind,e,b,Result.andThen_ok];cases ds <;> simp[Conv.intToInt,a]
end
theorem MN {x:Nat}(h:x<18446744073709551616):x ^^^ 9223372036854775808=(x+9223372036854775808)%18446744073709551616:=by
 have a:∀y:Nat,y<9223372036854775808→y ^^^ 9223372036854775808=y+9223372036854775808:=by
  intro y hy;have h1:2^63*1+y=2^63*1 |||y:=S1 (i:=63) hy 1;have h2:y ^^^ 9223372036854775808=2^63*1 |||y:=by
   apply Nat.eq_of_testBit_eq;intro i;rw[Nat.testBit_xor,Nat.testBit_or,show(9223372036854775808:Nat)=2^63 from rfl,R6,Nat.testBit_two_pow]
   by_cases hi:63=i
   ·subst hi;rw[Nat.testBit_lt_two_pow hy];all_goals rfl
   ·rw[Yr hi];simp
  rw[h2,←h1];omega
 by_cases hx:x<9223372036854775808
 ·rw[a x hx];omega
 ·have h1:=a (x-9223372036854775808) a8;have h2:x=(x-9223372036854775808) ^^^ 9223372036854775808:=by rw[h1];omega
  have h3:x ^^^ 9223372036854775808=x-9223372036854775808:=by
   conv=>lhs;rw[h2]
   rw[P0,Nat.xor_self,Nat.xor_zero]
  rw[h3];omega
theorem Kk (v:Int):x7 v<18446744073709551616:=by
 have h1:0≤v%18446744073709551616:=Int.emod_nonneg _ ae;have h2:v%18446744073709551616<18446744073709551616:=Int.emod_lt_of_pos _ ae;rw[x7];omega
def tf (v:Int):Nat:=(x7 v+9223372036854775808)%18446744073709551616
def xT (v:Int) (i:Nat):Nat:=tf v/2^(56-8*i)%256
def jf (v:Int):List Nat:=(List.range 8).map (xT v)
def qA (v:Int) (i:Nat):List Nat:=(jf v).take i++List.replicate (8-i) 0
theorem lI (v:Int):(jf v).length=8:=by simp[jf]
theorem Fm (v:Int) (h:i≤8):(qA v i).length=8:=by simp[qA,lI];omega
theorem Fk (v:Int) (h:i<8):(jf v)[i]? =some (xT v i):=by
 rw[jf,Xd,X3 h];all_goals rfl
theorem uR (v:Int) (h:i<8):(jf v).take (i+1)=(jf v).take i++ [xT v i]:=by
 rw[Ua,Fk v h];all_goals rfl
theorem Fl (v:Int) (h:i<8):(qA v i).set i (xT v i)=qA v (i+1):=by
 have hl:((jf v).take i).length=i:=by rw[Yg,lI];omega
 rw[qA,T7,if_neg cm,hl,Vw,show 8-i=(8-(i+1))+1 from a8,Uy,S6,qA,uR v h,Yf];all_goals rfl
theorem Bd (v:Int):∀x∈jf v,x<256:=by
 intro x hx;obtain⟨i,_,rfl⟩:=Xw.1 hx;exact Um _ ae
def u8s (l:List Nat):List Value:=l.map fun(n:Nat)=>Value.int .u8 (n:Int)
theorem Hu (l:List Nat):u8s l=eB.all l:=by
 rw[Ac,u8s,Ut];all_goals rfl
theorem Spl.at_ {l:List Nat}{x:Nat}(h:i<l.length):Spl (u8s l) (0+i*1) [.int .u8 (x:Int)] (u8s (l.set i x)):=
 rW (by simp[u8s];omega) (by
  rw[Vf,R6,u8s,u8s,Q6,U1,if_pos bM];simp)
theorem CE (v:Int):u8s (qA v 0)= [.int .u8 0,.int .u8 0,.int .u8 0,.int .u8 0,.int .u8 0,.int .u8 0,.int .u8 0,.int .u8 0]:=by
 rw[qA,S8,Ye];all_goals rfl
theorem MT {G:cJ}{H:cG}(hv: -9223372036854775808≤v∧v≤9223372036854775807):SC G prog 292 [.int .i64 v] H (λu e=>u=.string (dQ (jf v))∧e=H):=by
 have a:=Kk v;have hx:=MN a;refine sWk func292 ?_;refine ws_ (wr_ (e_ asn (on_ (qn_ (ws_ (wr_ (e_ mv ?_)))))));refine e_ (yo rfl) ?_;refine e_ (lf 18446744073709551616 rfl rfl rfl rfl (x7 v) 9223372036854775808 rfl rfl a ae) ?_;refine e_ (asv (v:=uN (tf v)) rfl (by rw[hx];all_goals rfl)) ?_;refine gk (k:=alc (k:=λc=>?_));rw[←CE v];refine gk (k:=wl2_ Nat (λy=>y≤8) (λy=>[(9,iN y)]) [(3,_),(4,_)] (λy=>[Vr c (u8s (qA v y))]) _ (λy=>8-y) (0) (h0:=?_) (k:=?_))
 ·exact Yl _
 rintro i hi
 try dsimp only[Yd,Ye]at*
 refine gW (λh1=>?_) λh1=>?_
 ·have b:i<8:=by omega
  haveI hSp:Spl (u8s (qA v i)) (0+i*1) [.int .u8 ((xT v i:Nat):Int)] (u8s ((qA v i).set i (xT v i))):=Spl.at_ (by rw[Fm v a8];exact b);refine wk_ (qn_ (ws_ (wb_ (ws_ (wr_ (e_ mv (e_ asn (on_ (qn_ (wr_ (e_ mv (e_ mv (e_ mv ?_)))))))))))));refine e_ iml (e_ isb ?_);refine e_ (du rfl rfl (tf v) (56-8*i) rfl a8 (by show _≤64;omega)) ?_;refine e_ (dk 256 rfl rfl rfl (tf v/2^(56-8*i)) rfl) ?_;refine e_ (gM rfl rfl _ rfl a8) ?_;refine s_ (db (v:=.int .u8 ((xT v i:Nat):Int)) rfl rfl rfl) ?_;rintro _ _ ⟨rfl,rfl⟩;rw[Fl v b];refine go ?_;refine lN (i+1) ?_
  try dsimp only
  omega
 obtain rfl:i=8:=a8;have d:qA v 8=jf v:=by rw[qA,Xq (by rw[lI];omega)];simp
 rw[d];haveI hSl:Sl (Vr c (u8s (jf v))::H) ⟨some ⟨c,0,none⟩,8,8⟩ eB (jf v):=MI (Hu _) (by rw[lI]);refine we_ (qe_ (le_ (bh_ (qn_ (ws_ (wr_ ?_))))));refine e_ (yg rfl ae) ?_;refine e_ (dX rfl) ?_;exact gZ
theorem NT {G:cJ}{H:cG}(hv: -9223372036854775808≤v∧v≤9223372036854775807):SC G prog 105 [.int .i64 v] H (λu d=>u=.string (dQ (jf v))∧d=H):=by
 refine sWk func105 ?_;refine ws_ (wr_ (e_ asn (on_ (qn_ (ws_ (wr_ (e_ mv ?_)))))));refine e_ (yo rfl) ?_;refine e_ (iE 18446744073709551616 rfl rfl rfl rfl (x7 v) 9223372036854775808 rfl rfl) ?_;refine e_ (asv (v:=uN (tf v)) rfl rfl) (go ?_);refine s_ (fK eB rfl) ?_;rintro _ _ ⟨c,rfl,rfl⟩;refine gk (k:=wl2_ (SV×Nat) (λy=>y.2≤8) (λy=>[(4,y.1.val),(5,iN y.2)]) [(3,_)] (λy=>[Row y.1 eB ((jf v).take y.2)]) _ (λy=>8-y.2) ((c,0)) (h0:=?_) (k:=?_))
 ·exact Yl _
 rintro⟨s,i⟩ hi
 try dsimp only[Yd,Ye]at*
 refine gW (λh1=>?_) λh1=>?_
 ·have b:i<8:=by omega
  have hlen:((jf v).take i).length≤8:=ar;refine wk_ (qn_ (ws_ (wb_ (wr_ (e_ mv (e_ mv (e_ mv (e_ iml (e_ isb ?_)))))))));refine e_ (du rfl rfl (tf v) (56-8*i) rfl a8 (by show _≤64;omega)) ?_;refine e_ (kO rfl rfl (tf v/2^(56-8*i)) 256 rfl rfl ae) ?_;refine e_ (cR 256 rfl rfl rfl (xT v i) rfl (Um _ ae)) ?_;refine fX eB (k:=λs22=>?_);refine app (k:=λa=>?_);rw[←uR v b];refine go ?_;refine lN ((a,i+1)) ?_
  try dsimp only
  omega
 obtain rfl:i=8:=a8;rw[Xq (show(jf v).length≤8 by rw[lI];omega)];refine we_ (qe_ (le_ (bh_ (qn_ (ws_ (wr_ (e_ mv ?_)))))));refine e_ (dX rfl) ?_;exact gZ
end
theorem EU {m N T y:Nat}(hm:T/8<m) (hN:N<2^T):(leB m N).set (T/8) (N/256^(T/8)+y%2^(8-T%8)*2^(T%8))=leB m (N+2^T*(y%2^(8-T%8)))∧N/256^(T/8)+y%2^(8-T%8)*2^(T%8)<256∧(leB m N)[T/8]? =some (N/256^(T/8))∧N+2^T*(y%2^(8-T%8))<2^(T+(8-T%8)):=by
 have hp:0<256^(T/8):=Nat.pow_pos ae;have h1:=DP hN;have hr:T%8<8:=Um _ ae;have h2:y%2^(8-T%8)<2^(8-T%8):=Um _ (U5 _);have h3:2^(8-T%8)*2^(T%8)=256:=by rw[←Ud,show 8-T%8+T%8=8 from a8]
 have h4:N/256^(T/8)+y%2^(8-T%8)*2^(T%8)<256:=by
  have c:(y%2^(8-T%8)+1)*2^(T%8)≤2^(8-T%8)*2^(T%8):=Vc _ h2;rw[Vg,h3]at c;omega
 have h256:2^(T%8)≤2^7:=Vx ae a8;have a:(N+2^T*(y%2^(8-T%8)))/256^(T/8)=N/256^(T/8)+y%2^(8-T%8)*2^(T%8):=by
  rw[nT T,Un,Nat.add_mul_div_left _ _ hp,Ug (2^(T%8))]
 refine⟨?_,h4,?_,?_⟩
 ·apply Vu;intro j;rw[U2,fj]
  by_cases hj:T/8=j
  ·subst hj;rw[if_pos rfl,if_pos hm,nX hm,a,Xt h4]
  ·rw[if_neg hj]
   by_cases hjm:j<m
   ·rw[nX hjm,nX hjm];rcases U9 j (T/8)with hlt|hge
    ·rw[nT T,Un,Fu hlt]
    ·obtain⟨d,rfl⟩:∃d,j=T/8+1+d:=⟨j-(T/8+1),a8⟩;rw[Vz,Ud,←S2,←S2,a];have h6:256≤256^(1+d):=by rw[Ud,Nat.pow_one];exact Nat.le_mul_of_pos_right _ (Nat.pow_pos ae)
     rw[Nat.div_eq_of_lt (show N/256^(T/8)<256^(1+d)from a8),Nat.div_eq_of_lt (show N/256^(T/8)+y%2^(8-T%8)*2^(T%8)<256^(1+d)from a8)]
   ·rw[Ve (by rw[fj];omega),Ve (by rw[fj];omega)]
 ·rw[nX hm,Xt (show N/256^(T/8)<256 from a8)]
 ·rw[Ud];have b:2^T*(y%2^(8-T%8)+1)≤2^T*2^(8-T%8):=V8 _ h2;rw[X0]at b;omega
theorem EW {a y k:Nat}(ha:a<2^k) (hk:k<8):a |||(y*2^k%256)=a+y%2^(8-k)*2^k:=by
 have h3:(256:Nat)=2^(8-k)*2^k:=by rw[←Ud,show 8-k+k=8 from a8]
 have h4:y*2^k%256=y%2^(8-k)*2^k:=by
  conv=>lhs;rw[h3]
  rw[Nat.mul_mod_mul_right]
 rw[h4,Nat.or_comm,Ug,←S1 ha,Q5]
theorem xK (x d e:Nat):x%2^d+2^d*(x/2^d%2^e)=x%2^(d+e):=by
 rw[Ud,Nat.mod_mul]
def mk1 (i j:Nat):Nat:=((i+1)*11400714819323198485%18446744073709551616+(j+1)*13787848793156543929%18446744073709551616)%18446744073709551616
def mk2 (i j:Nat):Nat:=(mk1 i j ^^^ (mk1 i j/2^29))*10723151780598845931%18446744073709551616
def mkN (i j:Nat):Nat:=mk2 i j/2^33+1
theorem LH (i j:Nat):mk2 i j/2^33<2147483648:=by
 have:mk2 i j<18446744073709551616:=Um _ ae;omega
theorem zM {G:cJ}{H:cG}{i j:Nat}(hi:i≤1000000000000) (hj:j≤1000000000000):SC G prog 33 [iN i,iN j] H (λv a=>v=iN (mkN i j)∧a=H):=by
 refine sWk func33 ?_;refine ws_ (wr_ (e_ asn (on_ (qn_ (ws_ (wr_ (e_ mv ?_)))))));refine e_ (wE rfl rfl a8) ?_;refine e_ (cR 18446744073709551616 rfl rfl rfl (i+1) a8 a8) ?_;refine e_ (eh 18446744073709551616 rfl rfl rfl rfl (i+1) 11400714819323198485 rfl rfl) ?_;refine e_ mv ?_;refine e_ (wE rfl rfl a8) ?_;refine e_ (cR 18446744073709551616 rfl rfl rfl (j+1) a8 a8) ?_;refine e_ (eh 18446744073709551616 rfl rfl rfl rfl (j+1) 13787848793156543929 rfl rfl) ?_;refine e_ (iE 18446744073709551616 rfl rfl rfl rfl _ _ rfl rfl) ?_;refine e_ asn (on_ (qn_ (ws_ (wr_ ?_))));have h1:mk1 i j<18446744073709551616:=Um _ ae;have h2:mk1 i j/2^29<18446744073709551616:=a8;have h3:=LH i j;have h4:mk1 i j ^^^ (mk1 i j/2^29)<18446744073709551616:=Q0 (n:=64) h1 h2;refine e_ mv (e_ mv ?_);refine e_ (du rfl rfl (mk1 i j) 29 rfl rfl ae) ?_;refine e_ (lf 18446744073709551616 rfl rfl rfl rfl (mk1 i j) (mk1 i j/2^29) rfl rfl h1 h2) ?_;refine e_ asn (on_ (qn_ (ws_ (wr_ (e_ mv ?_)))));refine e_ (eh 18446744073709551616 rfl rfl rfl rfl (mk1 i j ^^^ (mk1 i j/2^29)) 10723151780598845931 rfl rfl) ?_;refine e_ asn (on_ (qn_ (ws_ (wr_ (e_ mv ?_)))));refine e_ (du rfl rfl (mk2 i j) 33 rfl rfl ae) ?_;refine e_ (dL rfl a8) ?_;refine e_ (wE rfl rfl a8) ?_;refine gR ?_;exact⟨_,cH.refl,by show Value.int .i64 _=_;simp[mkN],rfl⟩
def mI (i k:Nat):List Int:=(List.range k).map λj=>((mkN i j:Nat):Int)
theorem w8 (i k:Nat):(mI i k).length=k:=by simp[mI]
theorem IF (i k:Nat):mI i (k+1)=mI i k++ [((mkN i k:Nat):Int)]:=by simp[mI,U6]
theorem w9 {i k j:Nat}(h:j<k):(mI i k)[j]? =some ((mkN i j:Nat):Int):=by simp[mI,h]
theorem Oa {i n:Nat}{ws:List Int}(hl:ws.length=n) (h:∀j,j<n→ws[j]? =some ((mkN i j:Nat):Int)):ws=mI i n:=by
 apply Vu;intro j
 by_cases hj:j<n
 ·rw[h j hj,w9 hj]
 ·rw[Ve a8,Ve (by rw[w8];omega)]
theorem Ln {α:Type}{f:Nat→α}{ws:List α}{j n:Nat}(hl:ws.length=n) (hj:j<n) (h:∀k,k<j→ws[k]? =some (f k)):∀k,k<j+1→(ws.set j (f j))[k]? =some (f k):=by
 intro k hk;rcases Uq (X9 hk)with h2|rfl
 ·rw[V2 a8];exact h k h2
 ·rw[Uz a8]
def rwI (x:SV×List Int):cG:= [Row x.1 eI x.2]
def IN (x:SV×List Int):GSt Int:=⟨x.1,x.2,x.1,x.2⟩
def gwI (x:GSt Int):cG:= [Gw eI x]
theorem PS {G:cJ}{H:cG}{sl:SV}{zs:List (SV×List Int)} [Sl H sl eSV (zs.map (·.1))] (hn:zs.length≤1000000000) (hl:∀x∈zs,x.2.length≤100000000000):
 SC G prog 14 [sl.val] (Cl rwI zs::H) (λv H'=>v=.bool true∧∃A,A.length=zs.length∧(∀j x,zs[j]? =some x→A[j]? =some (x.1,mI j x.2.length))∧H'=Cl rwI A::H):=by
 have hml:(zs.map (·.1)).length=zs.length:=Yh ..;refine sWk func14 ?_;refine go ?_;refine wl_ (List (SV×List Int)×Nat) (λy=>y.2≤zs.length∧y.1.length=zs.length∧(∀j x,j<y.2→zs[j]? =some x→y.1[j]? =some (x.1,mI j x.2.length))∧∀j,y.2≤j→y.1[j]? =zs[j]?) (λy=>[(0,sl.val),(13,sl.val),(14,iN ((zs.map (·.1)).length)),(15,iN y.2)]) (λy=>Cl rwI y.1::H) (λy=>zs.length-y.2) ((zs,0)) (h0:=?_) (k:=?_)
 ·exact⟨Yl _,rfl,λj x h=>absurd h (Up _),λ_ _=>rfl⟩
 rintro⟨p,i⟩ ⟨hi,L,N,M⟩
 try dsimp only at*
 refine gW (λh1=>?_) λh1=>?_
 ·obtain⟨x,hx⟩:=gE zs i;have t:(zs.map (·.1))[i]? =some x.1:=by rw[Xd,hx];all_goals rfl
  have Y:p[i]? =some x:=(M i (Xj _)).trans hx;have S:=hl x (Yj hx);refine w_hsub (H':=Row x.1 eI x.2::Cl rwI (p.take i)::Cl rwI (p.drop (i+1))::H) (lg (f:=rwI) Y) ?_;refine wk_ (qn_ (ws_ (wb_ (ws_ (wr_ (e_ mv ?_))))));refine e_ (cV rfl rfl i rfl a8) ?_;refine e_ (dS rfl bA bA x.1 t) ?_;refine gk (k:=wl_ (List Int×Nat) (λy=>y.2≤x.2.length∧y.1.length=x.2.length∧∀j,j<y.2→y.1[j]? =some (((mkN i j:Nat):Int))) (λy=>[(0,sl.val),(3,iN i),(4,x.1.val),(13,sl.val),(14,iN ((zs.map (·.1)).length)),(15,iN i),(21,iN x.2.length),(22,iN y.2)]) (λy=>Row x.1 eI y.1::Cl rwI (p.take i)::Cl rwI (p.drop (i+1))::H) (λy=>x.2.length-y.2) ((x.2,0)) (h0:=?_) (k:=?_))
  ·exact⟨Yl _,rfl,λj h=>absurd h (Up _)⟩
  rintro⟨ws,j⟩ ⟨hj,B,T⟩
  try dsimp only at*
  refine gW (λh2=>?_) λh2=>?_
  ·refine go ?_;refine d2_ rfl (zM (i:=i) (j:=j) a8 a8) ?_;refine e_ (cV rfl rfl j rfl a8) ?_;refine s_ (dc (a:=((mkN i j:Nat):Int)) rfl rfl bA a8) ?_;rintro _ _ ⟨rfl,rfl⟩;refine go ?_;refine lN ((ws.set j (((mkN i j:Nat):Int)),j+1)) ?_
   try dsimp only
   exact⟨a8,by rw[T6];exact B,Ln B a8 T⟩
  obtain rfl:ws=mI i x.2.length:=Oa B (λk hk=>T k a8);refine go ?_;refine ln_ ((p.set i (x.1,mI i x.2.length),i+1)) (h4:=?_) (k:=?_)
  ·exact cH.trans hsb (nG (f:=rwI) (x.1,mI i x.2.length) a8)
  try dsimp only
  refine⟨a8,by rw[T6];exact L,λk y hk F=>?_,λk hk=>by rw[V2 a8];exact M k a8⟩;rcases Uq (X9 hk)with h|rfl
  ·rw[V2 a8];exact N k y h F
  ·rw[hx]at F;cases F;rw[Uz a8]
 have K:∀j x,zs[j]? =some x→p[j]? =some (x.1,mI j x.2.length):=λj x hx=>N j x (by have:=(Yk.1 hx).1;omega) hx;have X:p.map (·.1)=zs.map (·.1):=by
  apply Vu;intro j;rw[Xd,Xd];cases hj:zs[j]? with
  |none=>rw[Ve (by have:=List.getElem?_eq_none_iff.1 hj;omega)]
  |some x=>rw[K j x hj];all_goals rfl
 refine go ?_;refine s_ (fK eSV rfl) ?_;rintro _ _ ⟨s0,rfl,rfl⟩;refine go ?_;refine app (hlim:=by simp only[Yc];omega) (hlim2:=by simp only[Yc];omega) (k:=λd=>?_);rw[Ye];refine eN (H':=Row d eSV ((p.map IN).map (·.g))::Cl gwI (p.map IN)::H) (by rw[Ut,show((·.g)∘IN)=(·.1)from rfl,X];exact cH.keep (GJ λx _=>G0)) ?_;refine gk (k:=wl_ (List (GSt Int)×Nat) (λy=>y.2≤80∧y.1.length=zs.length∧∀j x,zs[j]? =some x→∃s,y.1[j]? =some (GSt.mk x.1 (mI j x.2.length) s (mI j (x.2.length+y.2)))) (λy=>[(0,sl.val),(6,d.val),(7,iN y.2)]) (λy=>Row d eSV (y.1.map (·.g))::Cl gwI y.1::H) (λy=>80-y.2) ((p.map IN,0)) (h0:=?_) (k:=?_))
 ·try dsimp only
  refine⟨Yl _,by rw[Yh];exact L,λj x hx=>⟨x.1,?_⟩⟩;rw[Xd,K j x hx];all_goals rfl
 rintro⟨l,k⟩ ⟨hk,w,Z⟩
 try dsimp only at*
 refine gW (λh3=>?_) λh3=>?_
 ·refine gk (k:=wl_ (List (GSt Int)×Nat) (λy=>y.2≤zs.length∧y.1.length=zs.length∧∀j x,zs[j]? =some x→∃s,y.1[j]? =some (GSt.mk x.1 (mI j x.2.length) s (mI j (x.2.length+(if j<y.2 then k+1 else k))))) (λy=>[(0,sl.val),(6,d.val),(7,iN k),(41,iN zs.length),(42,iN y.2)]) (λy=>Row d eSV (y.1.map (·.g))::Cl gwI y.1::H) (λy=>zs.length-y.2) ((l,0)) (hs:=?_) (h0:=?_) (k:=?_))
  ·rw[Yh,w];repeat (first|exact Sub.nil|refine Sub.cons rfl ?_)
  ·try dsimp only
   exact⟨Yl _,w,λj x hx=>by rw[if_neg (Up _)];exact Z j x hx⟩
  rintro⟨vs,b⟩ ⟨hi2,C,hv⟩
  try dsimp only at*
  refine gW (λh4=>?_) λh4=>?_
  ·obtain⟨x,hx⟩:=gE zs b;obtain⟨n,m⟩:=hv b x hx;rw[if_neg (R7 _)]at m;have S:=hl x (Yj hx);have U:(vs.map (·.g)).length=zs.length:=by rw[Yh];exact C
   have z:(vs.map (·.g))[b]? =some n:=by rw[Xd,m];all_goals rfl
   refine w_hsub (H':=Gw eI ⟨x.1,mI b x.2.length,n,mI b (x.2.length+k)⟩::Cl gwI (vs.take b)::Cl gwI (vs.drop (b+1))::Row d eSV (vs.map (·.g))::H) (cH.trans (H':=Cl gwI vs::Row d eSV (vs.map (·.g))::H) hsb (lg (f:=gwI) m)) ?_;haveI hsl:Sl (Gw eI ⟨x.1,mI b x.2.length,n,mI b (x.2.length+k)⟩::Cl gwI (vs.take b)::Cl gwI (vs.drop (b+1))::Row d eSV (vs.map (·.g))::H) n eI (mI b (x.2.length+k)):=K9;have E:=w8 b (x.2.length+k);refine wk_ (qn_ (ws_ (wb_ (ws_ (wr_ (e_ mv (e_ asn (on_ (qn_ (ws_ (wr_ (e_ mv (e_ mv ?_)))))))))))));refine e_ (cV rfl rfl b rfl a8) ?_;refine e_ (dS rfl bA bA n z) ?_;refine e_ lnn ?_;rw[E];refine go ?_;refine wD [9,10,12] (λk H=>(k=4→Sl H d eSV (vs.map (·.g)))∧(k=5→Sl H d eSV (vs.map (·.g)))∧(k=11→Sl H d eSV (vs.map (·.g)))) (aF 0 (k:=aF 1 (k:=aF 2 (k:=aF 3 (k:=?_)))));refine aN 4 rfl (λH hH=>by have hN:=hH.1 rfl;exact cV rfl rfl b rfl a8) ?_;refine aN 5 rfl (λH hH=>by have hN:=hH.2.1 rfl;exact dS rfl bA bA n z) ?_;refine aF 6 (k:=aF 7 (k:=?_));refine cO 8 rfl rfl aa rfl (λH' _=>dy (vs:= [_,_]) rfl (zM (i:=b) (j:=x.2.length+k) a8 a8)) ?_;refine aS 9 rfl (eC eI rfl rfl) ?_;rintro _ _ ⟨s3,rfl,rfl⟩;refine aS 10 rfl (vS (e:=eI) (u:=⟨x.1,mI b x.2.length,n,mI b (x.2.length+k)⟩) rfl rfl rfl rfl (by simp only[E,Yb,Yc];omega) (by simp only[E,Yb,Yc];omega)) ?_;rintro _ _ ⟨J,rfl,rfl⟩;refine aN 11 rfl (λH hH=>by have hN:=hH.2.2 rfl;exact cV rfl rfl b rfl a8) ?_;refine aS 12 rfl (dc (a:=J) rfl rfl bA a8) ?_;rintro _ _ ⟨rfl,rfl⟩;refine aZ (go ?_);refine ln_ ((vs.set b ⟨x.1,mI b x.2.length,J,mI b (x.2.length+k)++ [((mkN b (x.2.length+k):Nat):Int)]⟩,b+1)) (h4:=?_) (k:=?_)
   ·try dsimp only
    rw[Q6];exact cH.trans (H':=Gw eI ⟨x.1,mI b x.2.length,J,mI b (x.2.length+k)++ [((mkN b (x.2.length+k):Nat):Int)]⟩::Cl gwI (vs.take b)::Cl gwI (vs.drop (b+1))::Row d eSV ((vs.map (·.g)).set b J)::H) hsb (cH.trans (nG (f:=gwI) _ a8) hsb)
   try dsimp only
   refine⟨a8,by rw[T6];exact C,λj y hy=>?_⟩
   by_cases hj:j=b
   ·subst hj;rw[hx]at hy;cases hy;exact⟨J,by rw[Uz a8,if_pos (Nat.lt_succ_self _),←IF];all_goals rfl⟩
   ·obtain⟨s,hs⟩:=hv j y hy;refine⟨s,?_⟩;rw[V2 a8,hs]
    by_cases hj2:j<b
    ·rw[if_pos hj2,if_pos a8]
    ·rw[if_neg hj2,if_neg a8]
  obtain rfl:b=zs.length:=a8;refine go ?_;refine lN ((vs,k+1)) ?_
  try dsimp only
  refine⟨a8,C,λj y hy=>?_⟩;obtain⟨s,hs⟩:=hv j y hy;rw[if_pos (Yk.1 hy).1]at hs;exact⟨s,hs⟩
 obtain rfl:k=80:=a8;have U:(l.map (·.g)).length=zs.length:=by rw[Yh];exact w
 refine go ?_;refine wl_ Nat (λi=>i≤zs.length) (λi=>[(0,sl.val),(63,d.val),(64,iN zs.length),(65,iN i)]) (λ_=>Row d eSV (l.map (·.g))::Cl gwI l::H) (λi=>zs.length-i) (0) (hs:=?_) (h0:=?_) (k:=?_)
 ·rw[U];repeat (first|exact Sub.nil|refine Sub.cons rfl ?_)
 ·exact Yl _
 rintro c hi3
 try dsimp only at*
 refine gW (λh5=>?_) λh5=>?_
 ·obtain⟨x,hx⟩:=gE zs c;obtain⟨n,m⟩:=Z c x hx;have S:=hl x (Yj hx);have t:(zs.map (·.1))[c]? =some x.1:=by rw[Xd,hx];all_goals rfl
  have z:(l.map (·.g))[c]? =some n:=by rw[Xd,m];all_goals rfl
  have c1:Sl (Cl gwI l::H) n eI (mI c (x.2.length+80)):=Kb (f:=gwI) m (λR=>K9 (R:=R));have c2:Sl (Cl gwI l::H) x.1 eI (mI c x.2.length):=Kb (f:=gwI) m (λR=>Me (R:=R));haveI d1:Sl (Row d eSV (l.map (·.g))::Cl gwI l::H) n eI (mI c (x.2.length+80)):=Sl.tail;haveI d2:Sl (Row d eSV (l.map (·.g))::Cl gwI l::H) x.1 eI (mI c x.2.length):=Sl.tail;have a0:=w8 c (x.2.length+80);have hm2:=w8 c x.2.length;refine wk_ (qn_ (ws_ (wb_ (ws_ (wr_ (e_ mv ?_))))));refine e_ (cV rfl rfl c rfl a8) ?_;refine e_ (dS rfl bA bA n z) ?_;refine gk (k:=wl_ Nat (λj=>j≤x.2.length+80) (λj=>[(0,sl.val),(10,iN c),(11,n.val),(63,d.val),(64,iN zs.length),(65,iN c),(71,iN (x.2.length+80)),(72,iN j)]) (λ_=>Row d eSV (l.map (·.g))::Cl gwI l::H) (λj=>x.2.length+80-j) (0) (hs:=?_) (h0:=?_) (k:=?_))
  ·rw[a0];repeat (first|exact Sub.nil|refine Sub.cons rfl ?_)
  ·exact Yl _
  rintro r hj3
  try dsimp only at*
  refine gW (λh6=>?_) λh6=>?_
  ·refine go ?_;refine cZ cN (as_ 0 (q:=mv) (k:=as_ 1 (q:=mv) (k:=?_)));refine cO 2 rfl rfl aa rfl (df (cV rfl rfl r rfl a8)) ?_;refine cO 3 rfl rfl aa rfl (df (dS rfl bA bA (((mkN c r:Nat):Int)) (w9 a8))) ?_;refine as_ 4 (q:=mv) (k:=as_ 5 (q:=mv) (k:=?_));refine cO 6 rfl rfl aa rfl (gi (vs:= [_,_]) rfl (zM (i:=c) (j:=r) a8 a8)) ?_;refine gW (λh7=>?_) λh7=>?_
   ·exact absurd h7 ak
   refine go ?_;refine cZ cN (as_ 0 (q:=mv) (k:=as_ 1 (q:=mv) (k:=as_ 2 (q:=mv) (k:=?_))));refine cO 3 rfl rfl aa rfl (df (cV rfl rfl c rfl a8)) ?_;refine cO 4 rfl rfl aa rfl (df (dS rfl bA bA x.1 t)) ?_;refine as_ 5 (q:=lnn) (k:=as_ 6 (q:=ilt) (k:=?_));refine fU 7 rfl rfl aa rfl (df mv) (λV=>?_) (λV=>?_)
   ·replace V:=nrm V;refine at2 8 (q:=mv) (k:=at2 9 (q:=mv) (k:=?_));refine fg 10 rfl rfl rfl rfl aa rfl (df (cV rfl rfl c rfl a8)) ?_;refine fg 11 rfl rfl rfl rfl aa rfl (df (dS rfl bA bA x.1 t)) ?_;refine at2 12 (q:=mv) (k:=?_);refine fg 13 rfl rfl rfl rfl aa rfl (df (cV rfl rfl r rfl a8)) ?_;refine fg 14 rfl rfl rfl rfl aa rfl (df (dS rfl bA bA (((mkN c r:Nat):Int)) (w9 a8))) ?_;refine at2 15 (q:=mv) (k:=at2 16 (q:=mv) (k:=?_));refine fg 17 rfl rfl rfl rfl aa rfl (df (cV rfl rfl r rfl a8)) ?_;refine fg 18 rfl rfl rfl rfl aa rfl (df (dS rfl bA bA (((mkN c r:Nat):Int)) (w9 a8))) ?_;refine gW (λh9=>?_) λh9=>?_
    ·exact absurd h9 ak
    refine go ?_;refine lN (r+1) ?_
    try dsimp only
    omega
   replace V:=nrm V;refine go ?_;refine gk (k:=iff_ (k:=go ?_));refine lN (r+1) ?_
   try dsimp only
   omega
  refine go ?_;refine lN (c+1) ?_
  try dsimp only
  omega
 refine gR ?_;refine⟨Cl rwI (l.map λu=>(u.s,u.xs))::H,cH.trans (H':=Cl gwI l::H) hsb (GJ (f:=gwI) (g:=rwI) (u:=λu=>(u.s,u.xs)) λu _=>G1 (x:=u)),rfl,_,by rw[Yh];exact w,λj x hx=>?_,rfl⟩;obtain⟨s,hs⟩:=Z j x hx;rw[Xd,hs];all_goals rfl
end Go.Sx
namespace Go.Proofs
open Go.Sx
open Go.Shelf Tryz
def lays190_ren:Go.Shelf.Ren:=⟨fun| 190=>236| 125=>143| 258=>295| 128=>224| 129=>225| 302=>337| 303=>338| 304=>339| 305=>340| 306=>341| 307=>342| 308=>343| 309=>344| 310=>345| 333=>366| 329=>367| 330=>368| 334=>369| 335=>370| 336=>371| 344=>384|n=>n,fun| 31=>304| 9=>9| 3=>3| 46=>95| 0=>0| 51=>236| 53=>45| 4=>4| 183=>423| 182=>422| 131=>72| 5=>5| 218=>449| 222=>366| 228=>469| 229=>470|n=>n,fun|n=>n⟩
theorem qd:Go.Proofs.Lays.n190 prog lays190_ren:={
 mixed:=aa
 f125:=func143.trans (congrArg some aa)
 f128:=func224.trans (congrArg some aa)
 f129:=func225.trans (congrArg some aa)
 f190:=func236.trans (congrArg some aa)
 f258:=func295.trans (congrArg some aa)
 f302:=func337.trans (congrArg some aa)
 f303:=func338.trans (congrArg some aa)
 f304:=func339.trans (congrArg some aa)
 f305:=func340.trans (congrArg some aa)
 f306:=func341.trans (congrArg some aa)
 f307:=func342.trans (congrArg some aa)
 f308:=func343.trans (congrArg some aa)
 f309:=func344.trans (congrArg some aa)
 f310:=func345.trans (congrArg some aa)
 f329:=func367.trans (congrArg some aa)
 f330:=func368.trans (congrArg some aa)
 f333:=func366.trans (congrArg some aa)
 f334:=func369.trans (congrArg some aa)
 f335:=func370.trans (congrArg some aa)
 f336:=func371.trans (congrArg some aa)
 f344:=func384.trans (congrArg some aa)
 t0:=underlying0
 a0:=isAgg0
 z0:=sizeOf0
 v0:=zeroValue0
 t3:=underlying3
 a3:=isAgg3
 z3:=sizeOf3
 v3:=zeroValue3
 t4:=underlying4
 a4:=isAgg4
 z4:=sizeOf4
 v4:=zeroValue4
 t5:=underlying5
 a5:=isAgg5
 z5:=sizeOf5
 v5:=zeroValue5
 t9:=underlying9
 a9:=isAgg9
 z9:=sizeOf9
 v9:=zeroValue9
 t31:=underlying304
 a31:=isAgg304
 z31:=sizeOf304
 v31:=zeroValue304
 t46:=underlying95
 a46:=isAgg95
 z46:=sizeOf95
 v46:=zeroValue95
 t51:=underlying236
 a51:=isAgg236
 z51:=sizeOf236
 v51:=zeroValue236
 t53:=underlying45
 a53:=isAgg45
 z53:=sizeOf45
 v53:=zeroValue45
 t131:=underlying72
 a131:=isAgg72
 z131:=sizeOf72
 v131:=zeroValue72
 t182:=underlying422
 a182:=isAgg422
 z182:=sizeOf422
 v182:=zeroValue422
 t183:=underlying423
 a183:=isAgg423
 z183:=sizeOf423
 v183:=zeroValue423
 t218:=underlying449
 a218:=isAgg449
 z218:=sizeOf449
 v218:=zeroValue449
 t222:=underlying366
 a222:=isAgg366
 z222:=sizeOf366
 v222:=zeroValue366
 t228:=underlying469
 a228:=isAgg469
 z228:=sizeOf469
 v228:=zeroValue469
 t229:=underlying470
 a229:=isAgg470
 z229:=sizeOf470
 v229:=zeroValue470}
open Go.Sort Go.RowKit in
theorem slices_Sort_string (a off d:Nat) (b:List (List UInt8)) (w:World) (hH:Holds encStr w a off b.toArray) (c:a<w.heap.size) (f:b.length<4611686018427387904):
 Calls prog 236 #[.slice (some ⟨a,off,none⟩) b.length d] w λe g=>
  e=.returned (.tuple #[])∧∃n h,g=grow (putRow encStr (Sort.ahead w n) a off (b.mergeSort λx y=>decide (x≤y)).toArray) h:=Any.slices_Sort_string qd a off d b w hH c f
def lays157_ren:Go.Shelf.Ren:=⟨fun| 157=>365| 229=>382| 199=>383| 261=>392| 311=>400| 312=>401|n=>n,fun| 9=>9| 31=>304| 3=>3| 5=>5| 4=>4| 119=>466| 0=>0| 40=>468| 152=>481| 21=>21| 154=>483| 51=>236| 141=>485| 196=>499| 193=>496| 198=>502| 49=>500| 194=>497| 201=>505| 226=>512| 46=>95| 227=>513|n=>n,fun| 0=>42| 6=>44|n=>n⟩
theorem wP:Go.Proofs.Lays.n157 prog lays157_ren:={
 mixed:=aa
 f157:=func365.trans (congrArg some aa)
 f199:=func383.trans (congrArg some aa)
 f229:=func382.trans (congrArg some aa)
 f261:=func392.trans (congrArg some aa)
 f311:=func400.trans (congrArg some aa)
 f312:=func401.trans (congrArg some aa)
 t0:=underlying0
 a0:=isAgg0
 z0:=sizeOf0
 v0:=zeroValue0
 t3:=underlying3
 a3:=isAgg3
 z3:=sizeOf3
 v3:=zeroValue3
 t4:=underlying4
 a4:=isAgg4
 z4:=sizeOf4
 v4:=zeroValue4
 t5:=underlying5
 a5:=isAgg5
 z5:=sizeOf5
 v5:=zeroValue5
 t9:=underlying9
 a9:=isAgg9
 z9:=sizeOf9
 v9:=zeroValue9
 t21:=underlying21
 a21:=isAgg21
 z21:=sizeOf21
 v21:=zeroValue21
 t31:=underlying304
 a31:=isAgg304
 z31:=sizeOf304
 v31:=zeroValue304
 t40:=underlying468
 a40:=isAgg468
 z40:=sizeOf468
 v40:=zeroValue468
 t46:=underlying95
 a46:=isAgg95
 z46:=sizeOf95
 v46:=zeroValue95
 t49:=underlying500
 a49:=isAgg500
 z49:=sizeOf500
 v49:=zeroValue500
 t51:=underlying236
 a51:=isAgg236
 z51:=sizeOf236
 v51:=zeroValue236
 t119:=underlying466
 a119:=isAgg466
 z119:=sizeOf466
 t141:=underlying485
 a141:=isAgg485
 z141:=sizeOf485
 v141:=zeroValue485
 t152:=underlying481
 a152:=isAgg481
 z152:=sizeOf481
 v152:=zeroValue481
 t154:=underlying483
 a154:=isAgg483
 z154:=sizeOf483
 v154:=zeroValue483
 t193:=underlying496
 a193:=isAgg496
 z193:=sizeOf496
 v193:=zeroValue496
 t194:=underlying497
 a194:=isAgg497
 z194:=sizeOf497
 v194:=zeroValue497
 t196:=underlying499
 a196:=isAgg499
 z196:=sizeOf499
 v196:=zeroValue499
 t198:=underlying502
 a198:=isAgg502
 z198:=sizeOf502
 v198:=zeroValue502
 t201:=underlying505
 a201:=isAgg505
 z201:=sizeOf505
 v201:=zeroValue505
 t226:=underlying512
 a226:=isAgg512
 z226:=sizeOf512
 v226:=zeroValue512
 t227:=underlying513
 a227:=isAgg513
 z227:=sizeOf513
 v227:=zeroValue513
 g0:=aa
 g6:=aa}
open Go.RowKit Go.Lib in
theorem strings_Fields (s:ByteArray) (w:World) (hs:s.size<4294967281) (a:∀(j:Nat) b,s.data.toList[j]? =some b→b.toNat<128) (c:Lib.TabIs prog w "strings.asciiSpace" .u8 Lib.asciiSpaceTab):
 Calls prog 365 #[.string s] w λe d=>
  e=.returned (.slice (some ⟨w.heap.size,0,none⟩) (Lib.fields s.data.toList).length (Lib.fields s.data.toList).length)∧d=w.alloc (.cells ((Lib.fields s.data.toList).map λl=>Value.string ⟨l.toArray⟩).toArray 9):=Any.strings_Fields wP aa aa s w hs a c
open Go.RowKit Go.Sort in
theorem slices_Sort_string_none (p:Option Addr) (a:Nat) (w:World):
 Calls prog 236 #[.slice p 0 a] w λe b=>e=.returned (.tuple #[])∧b=w:=Any.slices_Sort_string_none qd p a w
end Go.Proofs
