import Derived.Test.YtjhdcheijnegnaaGreatDoorQ17
set_option linter.all false
set_option maxHeartbeats 0
namespace Go.Sx
open Go Go.Proofs Tryz
set_option maxRecDepth 100000
section
variable {pre:List Nat}{s:SV}
theorem BC {lo hi j:Nat}(h:lo<s.c):(s.cut 1 lo hi).elt 1 j 0=s.elt 1 (lo+j) 0:=by
 have h2:¬s.c=lo:=a8;simp only[SV.cut,SV.elt,if_neg h2,Option.map_map];cases s.a with
 |none=>rfl
 |some a=>
  by_cases h0:lo=0
  ·subst h0;simp[Addr.add]
  ·simp[Addr.add,h0,Vz]
theorem Mw {H:cG}{l:List Nat}{lo hi:Nat} [h:Sl H s eB (pre++l)] (h1:pre.length=lo) (h2:hi=lo+l.length):Sl H (s.cut 1 lo hi) eB l:=by
 have:=Sl.cut h (lo:=lo) (hi:=hi) a8 aC;rw[Xq aC,←h1,Xy]at this;rw[←h1];exact this
theorem Ik (pre l:List Nat) (j v:Nat):(pre++l).set (pre.length+j) v=pre++l.set j v:=by
 rw[T7,if_neg a8,V0]
theorem Qp {G:cJ}{H R:cG}{m N a w x:Nat} [hr:gV H s eB (pre++leB m N) R] (hN:N<2^a) (hm:a+w≤8*m) (hx:x<2^w) (hx40:x<1099511627776) (hm9:m≤10000000000) (hp9:pre.length≤10000000000) (hw:w≤40) (hc:pre.length<s.c∨w=0):SC G prog 242 [(s.cut 1 pre.length (pre.length+m)).val,iN a,iN w,iN x] H (λv B=>v=.tuple #[]∧B=Row s eB (pre++leB m (N+2^a*x))::R):=by
 refine SC.less (dH hr cH.refl) ?_;refine sWk func242 ?_;refine gk (k:=wl2_ (Nat×(List Nat)) (λy=>N+2^a*(x%2^y.1)<2^(a+y.1)∧y.1≤w+8∧y.2=leB m (N+2^a*(x%2^y.1))) (λy=>[(8,iN y.1)]) [(0,_),(1,_),(2,_),(3,_)] (λy=>[Row s eB (pre++y.2)]) _ (λy=>w-y.1) ((0,leB m N)) (h0:=?_) (k:=?_))
 ·try dsimp only
  exact⟨by simp[Nat.mod_one];exact hN,a8,by simp[Nat.mod_one]⟩
 rintro⟨d,o⟩ ⟨hd,hdw,l⟩
 try dsimp only[Yd,Ye]at*
 refine gW (λh1=>?_) λh1=>?_
 ·have hdw2:d<w:=by omega
  have A:(a+d)/8<m:=a8;have p:=EU (m:=m) (y:=x/2^d) A hd;obtain⟨h,hp2,g,r⟩:=p;rw[←l]at h g;have t:o.length=m:=by rw[l,fj]
  have f:pre.length<s.c:=a8;haveI hcs:Sl (Row s eB (pre++o)::R) (s.cut 1 pre.length (pre.length+m)) eB o:=Mw rfl a8;have j:(pre++o)[pre.length+(a+d)/8]? =some ((N+2^a*(x%2^d))/256^((a+d)/8)):=by
   rw[Yu a8,V0];exact g
  have u:(a+d)%8<8:=Um _ ae;have z:2^((a+d)%8)≤2^7:=Vx ae a8;have c:x/2^d≤x:=Vs _ _;have hsh:x/2^d*2^((a+d)%8)≤x*2^7:=Nat.mul_le_mul c z;have e:=DP hd;have q:=EW (y:=x/2^d) e u;have hplen:(pre++o).length=pre.length+m:=by rw[Ya,t]
  refine wk_ (qn_ (wb_ (ws_ (wr_ (e_ mv (e_ mv (e_ iad ?_)))))));refine e_ (kO rfl rfl (a+d) 8 a8 rfl ae) (go ?_);refine wD [15] (λk H=>(k=5→Sl H (s.cut 1 pre.length (pre.length+m)) eB o)∧(k=6→Sl H s eB (pre++o))∧(k=14→Sl H (s.cut 1 pre.length (pre.length+m)) eB o)) (aF 0 (k:=aF 1 (k:=aF 2 (k:=aF 3 (k:=?_)))));refine aN 4 rfl (λH hH=>fH rfl rfl (a+d) 8 a8 rfl ae an) ?_;refine aN 5 rfl (λH hH=>by have hN:=hH.1 rfl;exact evq (cV rfl rfl ((a+d)/8) rfl a8) (congrArg Value.pointer (BC f))) ?_;refine aN 6 rfl (λH hH=>by have hN:=hH.2.1 rfl;exact lel (hy:=j)) ?_;refine aF 7 (k:=aF 8 (k:=?_));refine aN 9 rfl (λH hH=>du rfl rfl x d rfl rfl (by show _≤64;omega)) ?_;refine aF 10 (k:=?_);refine aN 11 rfl (λH hH=>tF rfl rfl (x/2^d) ((a+d)%8) rfl rfl a8 a8) ?_;refine aN 12 rfl (λH hH=>dk 256 rfl rfl rfl _ rfl) ?_;refine aN 13 rfl (λH hH=>evq (fI 256 rfl rfl rfl rfl _ _ rfl rfl a8 (Um _ ae)) (congrArg (λn:Nat=>Value.int .u8 (n:Int)) q)) ?_;refine aN 14 rfl (λH hH=>by have hN:=hH.2.2 rfl;exact evq (cV rfl rfl ((a+d)/8) rfl a8) (congrArg Value.pointer (BC f))) ?_;refine aS 15 rfl (dc (s:=s) (i:=pre.length+(a+d)/8) rfl rfl rfl a8) ?_;rintro _ _ ⟨rfl,rfl⟩;refine aZ (qn_ (wr_ ?_));rw[Ik,h];have b:N+2^a*(x%2^d)+2^(a+d)*(x/2^d%2^(8-(a+d)%8))=N+2^a*(x%2^(d+(8-(a+d)%8))):=by
   rw[←xK x d,X0,Vz,Ud,Un]
  refine e_ mv (e_ mv (e_ isb ?_));refine e_ (evq iad (congrArg (Value.int .i64) (show _=((d+(8-(a+d)%8):Nat):Int)from a8))) (go ?_);refine lN ((d+(8-(a+d)%8),leB m (N+2^a*(x%2^d)+2^(a+d)*(x/2^d%2^(8-(a+d)%8))))) ?_
  try dsimp only
  exact⟨by rw[←b,←Vz];exact r,a8,by rw[b]⟩
 have c:x%2^d=x:=Xt (S5 hx (Vx ae a8));rw[c]at l;rw[l];exact gZ
end
end Go.Sx
