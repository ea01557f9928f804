import Derived.Test.YtjhdcheijnegnaaGreatDoorQ19
import Derived.Recover
set_option linter.all false
set_option maxHeartbeats 0
namespace Go.Sx
open Go Go.Proofs Tryz
set_option maxRecDepth 100000
section
variable {G:cJ}{H:cG}
theorem PI {P:Program}{t:Tm}{dst:Option Tmp}{ty:TypeId}{pos:String}{after:Array Edge}{g:Option (Nat×Bool)}{T U:TypeId}{x y:Operand}{a b:ByteArray}(hx:evo t x=some (.string a):=by exact rfl) (hy:evo t y=some (.string b):=by exact rfl):Ev G P ⟨dst,.binOp .gtr T x y U,ty,pos,after,g⟩ t H (.bool (decide (cF b<cF a))):=
 fun ρ hρ w _=>by
  have e:(!(Op.bytesLess a.toList b.toList ||a.toList==b.toList))=decide (cF b<cF a):=by
   rw[kU,wO,U4];simp only[Vq,Ue,Xx,Xs];rw[←not_or,←List.le_iff_lt_or_eq,List.not_le]
  simp only[execOp,hρ _ _ hx,hρ _ _ hy,eqGuard,binOp_string_gtr,e];all_goals rfl
theorem E9 {R:cG}{b k:Nat}{xs:List Nat} [hr:Rem H Rd b (xs,k) R] (hk:k≤xs.length) (hn:xs.length≤1000000000000):SC G prog 246 [pA b] H (λv a=>v=iN (xs.length-k)∧a=Rd b (xs,k)::R):=
 SC.out (xB hr λs=>SC.mono (left (k:=(k:Int)) (n:=(xs.length:Int)) (r:= [s.val]) a8) λv a ⟨h1,h2⟩=>⟨Rd b (xs,k)::R,by rw[h2];exact hsb,by rw[h1];exact congrArg (Value.int .i64) a8,rfl⟩)
theorem zn {R:cG}{b:Nat}{l:List En} [hg:Glb G R] [hr:Rem H Rd b (fT l,0) R] (V:ru l) (hl:l.length≤100000000) (hn:(fT l).length≤1000000000):SC G prog 173 [pA b] H (λv H'=>∃s:SV,v=s.val∧H'=Row s eEn l::R):=by
 have hb:=yH l;have b0:=GC l;have hend:=Db l;have b2:16*fm l≤l.length+15∧l.length≤16*fm l:=cq;obtain⟨c,g⟩:=ex (fT l);rw[←g]at hb b0 hend hn;obtain⟨A,hA⟩:=ex ((uv l.length).length);obtain⟨B,hB⟩:=ex (fm l);obtain⟨Z,hZ⟩:=ex (A+(dx l B).1.length);rw[←hB]at b2 hend;have h0:fZ (c.length-0) (c.drop 0)=.ok (l.length,A):=by
  rw[Vi,S0,g,fT,Yf,hA];exact eO _ (a8) (by rw[←Yf,←fT,←g];omega)
 have b3:∀j,j<B→(dx l j).1.length≤(dx l B).1.length:=λj hj=>by
  obtain⟨r,r',h1,_⟩:=jn l j B (a8);rw[h1,Ya];omega
 have a0:∀j,j≤B→(dx l j).2.length≤(dx l B).2.length:=λj hj=>by
  obtain⟨r,r',_,h1⟩:=jn l j B (a8);rw[h1,Ya];omega
 have hr':Rem H Rd b (c,0) R:=by rw[g];exact hr
 clear hr;refine SC.rem (h:=hr') ?_;refine sWk func173 ?_;refine go ?_;refine d1_ rfl (E9 (a8) (a8)) ?_;refine d2_ rfl (rE (most:=c.length-0) (a8) (a8) hb (a8) h0) ?_;refine eN (cH.nilRow (e:=eI) cH.refl) ?_;rw[show Row SV.nil eI ([]:List Int)=Row SV.nil eI (kC l 0)from rfl,Vf];refine go ?_;refine gk (k:=wl2_ (Nat×Nat×SV×Nat) (λy=>y.1=16*y.2.1∧y.2.1≤B∧y.2.2.2=A+(dx l y.2.1).1.length) (λy=>[(4,y.2.2.1.val),(5,iN y.1)]) [(0,_),(3,_)] (λy=>[Row y.2.2.1 eI (kC l y.2.1),Rd b (c,y.2.2.2)]) _ (λy=>B-y.2.1) ((0,0,SV.nil,A)) (h0:=?_) (k:=?_))
 ·try dsimp only
  exact⟨rfl,Yl _,rfl⟩
 rintro⟨i,j,u,m⟩ ⟨hi,hj,f⟩
 try dsimp only[Yd,Ye]at*
 refine gW (λh1=>?_) (λh1=>?_)
 ·have M:j<B:=by omega
  obtain⟨r,t,hdl⟩:=D9 (l:=l) (j:=j) (a8);have hs1:=b3 j M;have hsl:=sP l j;have n:m≤c.length:=a8;have E:c.drop m=uv (dM [] (eY l j)).length++r:=by rw[g,f,hA];exact t
  have a7:=congrArg List.length E;rw[Yo,Ya]at a7;have a4:fZ (c.length-m) (c.drop m)=.ok ((dM [] (eY l j)).length,(uv (dM [] (eY l j)).length).length):=by
   rw[E];exact eO _ (a8) (a8)
  refine go ?_;refine d1_ rfl (E9 n (a8)) ?_;refine d2_ rfl (rE (most:=c.length-m) n (a8) hb (a8) a4) (fX eI (k:=λs31=>?_));refine app (k:=λa2=>?_);rw[←xu];refine go ?_;refine lN ((i+16,j+1,a2,m+(uv (dM [] (eY l j)).length).length)) ?_
  try dsimp only
  exact⟨a8,a8,by rw[dx];simp only[Ya];omega⟩
 have L:j=B:=a8;rw[L]at f⊢;have hsl:=sP l B;rw[←hZ]at f;refine we_ (qe_ (le_ (bh_ (qn_ (ws_ (wr_ (e_ asn (on_ (qn_ (ws_ (ws_ (wr_ (?_)))))))))))));refine eN (cH.nilRow (e:=eEn) cH.refl) ?_;rw[show Row SV.nil eEn ([]:List En)=Row SV.nil eEn (l.take (16*0))from rfl];refine gk (k:=wl2_ (Nat×SV×Nat) (λy=>y.1≤B∧y.2.2=Z+(dx l y.1).2.length) (λy=>[(6,y.2.1.val),(35,iN y.1)]) [(0,_),(3,_),(33,_),(34,_)] (λy=>[Row y.2.1 eEn (l.take (16*y.1)),Rd b (c,y.2.2)]) (Row u eI (kC l B)::R) (λy=>B-y.1) ((0,SV.nil,m)) (h0:=?_) (k:=?_))
 ·try dsimp only
  exact⟨Yl _,f⟩
 rintro⟨j,w,m⟩ ⟨hj,f⟩
 try dsimp only[Yd,Ye]at*
 refine gW (λh2=>?_) (λh2=>?_)
 ·have M:j<B:=by omega
  have hgt:=zx (l:=l) M;have hs2:=a0 j (a8);have U:=a0 (j+1) (a8);rw[dx]at U;simp only[Ya]at U;have n:m≤c.length:=a8;obtain⟨r,t⟩:=GB (l:=l) (j:=j) (a8);rw[←g,←hB,←hA,←hZ,←f]at t;have Y:=nH l j;refine go ?_;refine go ?_;refine d1_ rfl (sM) (go ?_);refine d1_ rfl (E9 n (a8)) ?_;refine e_ (evq ile (congrArg Value.bool (Ys (a8)))) ?_;refine d1_ rfl (qX) (go ?_);refine gk (k:=wl2_ (Nat×SV×ByteArray×Nat) (λy=>y.1≤16∧(16*j+y.1≤l.length)∧cF y.2.2.1=kJ [] ((eY l j).take y.1)∧y.2.2.1.size≤65∧y.2.2.2=m+(dM [] ((eY l j).take y.1)).length) (λy=>[(6,y.2.1.val),(10,.string y.2.2.1),(11,iN y.1)]) [(0,_),(3,_),(9,_),(33,_),(34,_),(35,_)] (λy=>[Row y.2.1 eEn (l.take (16*j+y.1)),Rd b (c,y.2.2.2)]) (Row u eI (kC l B)::R) (λy=>16-y.1) ((0,w,ByteArray.empty,m)) (h0:=?_) (k:=?_))
  ·try dsimp only
   exact⟨a8,a8,rfl,ae,rfl⟩
  rintro⟨a,S,C,kq⟩ ⟨hk,hkl,K,a6,p⟩
  try dsimp only[Yd,Ye]at*
  have a3:(l.take (16*j+a)).length=16*j+a:=ar;refine gk (k:=cQ 5 59 (k:=λh3=>gk (k:=edq)) (q:=gW (λh4=>?_) (λh4=>?_)))
  ·obtain⟨e,he⟩:=gE l (16*j+a);obtain⟨r',N⟩:=Jq t (a8) he;rw[←p,←K]at N;obtain⟨e1,e2,e3,e4,e5,e6⟩:=V.1 e (Yj he);have z:(eY l j)[a]? =some e:=by rw[yR l j a (a8)];exact he
   have a9:=congrArg List.length N;rw[Yo,Ya]at a9;have X:kq≤c.length:=by
    have h9:=congrArg List.length (show eY l j=(eY l j).take a++(eY l j).drop a from(Xv ..).symm);have h8:dM [] (eY l j)=dM [] ((eY l j).take a)++dM (kJ [] ((eY l j).take a)) ((eY l j).drop a):=by
     conv=>lhs;rw[show eY l j=(eY l j).take a++(eY l j).drop a from(Xv ..).symm]
     exact o6 _ _ _
    have h7:=congrArg List.length h8;rw[Ya]at h7;omega
   have T:=cL he;refine go ?_;refine d3_ rfl (Ea (e:=e) X (a8) hb N ⟨e1,e2⟩ a6 (λx hx=>by simp only[ij,Xr,S4,or_false]at hx;rcases hx with rfl|rfl|rfl|rfl <;> omega)) (alc (k:=λb4=>?_));refine go ?_;refine wD [15] (λk H=>(k=1→Sl H S eEn (l.take (16*j+a)))∧(k=5→cY H b4 [.string e.key,iN e.docs,iN e.tot,iN e.at_,iN e.size])∧(k=8→Sl H S eEn (l.take (16*j+a)))∧(k=10→Sl H S eEn (l.take (16*j+a)))∧(k=11→Sl H S eEn (l.take (16*j+a)))∧(k=12→Sl H S eEn (l.take (16*j+a)))) (aF 0 (k:=?_));refine aN 1 rfl (λH hH=>by have hN:=hH.1 rfl;exact lnn) (?_);refine aF 2 (k:=?_);refine fU 3 rfl rfl (aa) rfl (cU λH hH=>mv) (λh5=>?_) (λh5=>?_)
   ·replace h5:=nrm h5;refine ao_ 4 (k:=ao_ 5 (k:=ao_ 6 (k:=ao_ 7 (k:=ao_ 8 (k:=ao_ 9 (k:=ao_ 10 (k:=ao_ 11 (k:=ao_ 12 (k:=ao_ 13 (k:=aF 14 (k:=?_)))))))))));refine aS 15 rfl (v1_ (qX)) ?_;rintro _ _ ⟨rfl,rfl⟩;refine aZ (gk (k:=fX eEn (k:=λa1=>?_)));refine app (k:=λF=>?_);rw[show l.take (16*j+a)++ [(⟨e.key,e.docs,e.tot,e.at_,e.size⟩:En)]=l.take (16*j+(a+1))from T.symm];refine go ?_;refine go ?_;refine lN ((a+1,F,e.key,kq+(lY (cF C) e).length)) ?_
    try dsimp only
    exact⟨a8,a8,(oN z []).symm,e2,by rw[p,mR z,K,Ya];omega⟩
   replace h5:=nrm h5;obtain⟨d,hd⟩:=gE l (16*j+a-1);have a5:=V.2 (16*j+a-1) d e hd (by rw[Q4 (a8)];exact he);have hd2:(l.take (16*j+a))[(l.take (16*j+a)).length-1]? =some d:=by rw[a3,Xz (a8)];exact hd
   refine ag_ 4 (q:=cU λH hH=>fla) (k:=?_);refine fg 5 rfl rfl rfl rfl (aa) rfl (cU λH hH=>aE) (?_);refine ag_ 6 (q:=cU λH hH=>mv) (k:=ag_ 7 (q:=cU λH hH=>mv) (k:=?_));refine fg 8 rfl rfl rfl rfl (aa) rfl (cU λH hH=>by have hN:=hH.2.2.1 rfl;exact lnn) (?_);refine ag_ 9 (q:=cU λH hH=>isb) (k:=?_);refine fg 10 rfl rfl rfl rfl (aa) rfl (cU λH hH=>by have hN:=hH.2.2.2.1 rfl;exact ixa) (?_);refine fg 11 rfl rfl rfl rfl (aa) rfl (cU λH hH=>by have hN:=hH.2.2.2.2.1 rfl;exact fle) (?_);refine fg 12 rfl rfl rfl rfl (aa) rfl (cU λH hH=>by have hN:=hH.2.2.2.2.2 rfl;exact lfl) (?_);refine fg 13 rfl rfl rfl rfl (aa) rfl (cU λH hH=>evq PI (congrArg Value.bool (Ys a5))) (?_);refine go ?_;refine aS 15 rfl (v1_ (qX)) ?_;rintro _ _ ⟨rfl,rfl⟩;refine aZ (gk (k:=fX eEn (k:=λa1=>?_)));refine app (k:=λF=>?_);rw[show l.take (16*j+a)++ [(⟨e.key,e.docs,e.tot,e.at_,e.size⟩:En)]=l.take (16*j+(a+1))from T.symm];refine go ?_;refine go ?_;refine lN ((a+1,F,e.key,kq+(lY (cF C) e).length)) ?_
   try dsimp only
   exact⟨a8,a8,(oN z []).symm,e2,by rw[p,mR z,K,Ya];omega⟩
  have b1:(eY l j).take a=eY l j:=Xq (by rw[Y];omega);rw[b1]at p;have J:l.take (16*j+a)=l.take (16*(j+1)):=by
   by_cases h9:a=16
   ·rw[h9];all_goals rfl
   ·rw[Xq (a8),Xq (a8)]
  rw[J];refine go ?_;refine d1_ rfl (sM) (e_ mv ?_);refine e_ (evq ieq (congrArg Value.bool (Ys (a8)))) ?_;refine d1_ rfl (qX) (go ?_);refine lN ((j+1,S,kq)) ?_
  try dsimp only
  exact⟨a8,by rw[dx];simp only[Ya];omega⟩
 have L:j=B:=a8;rw[L]at f⊢;rw[show l.take (16*B)=l from Xq (a8)];have n:m=c.length:=a8;refine go ?_;refine d1_ rfl (SC.mono (pn (a8)) (λv H' h=>(by
  rcases h with⟨h1,(⟨h2,_⟩|⟨_,h3⟩)⟩
  ·omega
  ·exact⟨h3,h1⟩:v=.nilIface∧H'=_))) ?_
 refine e_ (iu rfl) ?_;refine d1_ rfl (qX) (gR ?_);exact⟨_,hsb,w,rfl,rfl⟩
end
theorem jg (a:Act) (ds:List Deferred) (dst:Option Tmp) (v:Value):({a with defers:=a.defers++ds}:Act).put dst v={a.put dst v with defers:=(a.put dst v).defers++ds}:=by cases dst <;> rfl
theorem qS {P:Program}{ops:Array Oper}{Q:Exit→Act→World→Prop}(ds:List Deferred):∀(l:List Oper) (a:Act) (w:World),wpList P ops (λe a' w'=>Q e {a' with defers:=a'.defers++ds} w') l a w→wpList P ops Q l {a with defers:=a.defers++ds} w
 | [],_,_,h=>h
 |o::l,a,w,h=>by
  have ih:=qS (P:=P) (ops:=ops) (Q:=Q) ds l;unfold wpList at h⊢
  by_cases hw:Region.wanted o (yielded ops a.tmps)=true
  ·rw[if_pos hw]at h;rw[if_pos (by exact hw)];rcases h with h|⟨h,a0,w0,hq⟩
   ·left;change o.upon P a _ _ ((execOp a.eval o).run P w)at h;show o.upon P {a with defers:=a.defers++ds} _ _ ((execOp a.eval o).run P w);generalize (execOp a.eval o).run P w=r at h⊢;unfold Oper.upon at h⊢
    split at h
    ·rw[jg];exact ih _ _ h
    ·rw[jg];exact ih _ _ h
    ·rename_i d w';have:=jg {a with defers:=d::a.defers} ds o.dst undef;simp only at this⊢;rw[show(d::(a.defers++ds))=(d::a.defers)++ds from rfl,this];exact ih _ _ h
    ·exact Calls.mono h λe w' he=>by
       cases e with
       |returned v=>simp only at he⊢;rw[jg];exact ih _ _ he
       |panicked chain=>exact he
       |outgrown=>obtain⟨a0,w0,hq⟩:=he;exact⟨_,w0,hq⟩
    ·exact Rows.mono h λv w' he=>by rw[jg];exact ih _ _ he
    ·exact h
    ·exact h.elim
   ·exact .inr ⟨h,_,w0,hq⟩
  ·rw[if_neg hw]at h;rw[if_neg (by exact hw),jg];exact ih _ _ h
theorem qT {P:Program}{ops:Array Oper}{Q Q':Exit→Act→World→Prop}(hq:∀e a w,Q e a w→Q' e a w):∀(l:List Oper) (a:Act) (w:World),wpList P ops Q l a w→wpList P ops Q' l a w
 | [],_,_,h=>hq _ _ _ h
 |o::l,a,w,h=>by
  have ih:=qT (P:=P) (ops:=ops) hq l;unfold wpList at h⊢
  by_cases hw:Region.wanted o (yielded ops a.tmps)=true
  ·rw[if_pos hw]at h⊢;rcases h with h|⟨h,a0,w0,hq0⟩
   ·left;change o.upon P a _ _ ((execOp a.eval o).run P w)at h;show o.upon P a _ _ ((execOp a.eval o).run P w);generalize (execOp a.eval o).run P w=r at h⊢;unfold Oper.upon at h⊢
    split at h
    ·exact ih _ _ h
    ·exact ih _ _ h
    ·exact ih _ _ h
    ·exact Calls.mono h λe w' he=>by
       cases e with
       |returned v=>exact ih _ _ he
       |panicked chain=>exact hq _ _ _ he
       |outgrown=>obtain⟨a0,w0,hq0⟩:=he;exact⟨_,w0,hq _ _ _ hq0⟩
    ·exact Rows.mono h λv w' he=>ih _ _ he
    ·exact hq _ _ _ h
    ·exact h.elim
   ·exact .inr ⟨h,_,w0,hq _ _ _ hq0⟩
  ·rw[if_neg hw]at h⊢;exact ih _ _ h
theorem ET (h g:Value) (w:World):CallsD prog 172 #[h,g] .returning w λe c b=>e=.returned (.tuple #[])∧c=.returning∧b=w:=by
 have a:∀w:World,(binOp BinOp.neq 20 .nilIface .nilIface).run prog w=.ok (.bool false) w:=λ_=>aa;refine callsD_of_wpS func172 rfl λf cs d=>?_;apply wpS_seq;apply wpS_region;simp[wpOpsS,go_sem,recoverD,d,ntmps172,Exit.thenS];apply wpS_seq;apply wpS_region;simp[wpOpsS,go_sem,a,Exit.thenS];refine wpS_cond (t:=false) (by simp[Act.eval,Array.replicate]) ?_;simp only[Xp,if_false];refine wpS_of_wp (wp_skip ?_);cases f
 simp_all [bodyPostS,results,results172]
theorem px {P:Program}{f:FuncId}{a:Func}{c:Code}(hf:P.funcs[f]? =some a) (d:a.body=some c) (b:(a.name== "runtime.NumGoroutine")=false) (xs:Array Value) (w:World):(callFunc f xs).run P w=.ok (.enter f xs) w:=by
 have hn':¬a.name= "runtime.NumGoroutine" :=by simpa using b
 simp[callFunc,hf,d,hn']
theorem Ca {G:cJ}{H:cG}{s:SV}{l:List En} [hg:Glb G H] [hs:Sl H s eB (fT l)] (B:ru l) (hl:l.length≤100000000) (N:(fT l).length≤1000000000):SC G prog 97 [s.val] H (λv p=>∃(b:Nat) (i:SV),v=.tuple #[pA b,.nilIface]∧p=Vr b [i.val]::Row i eEn l::H):=by
 refine⟨px func97 rfl aa,λw L=>?_⟩;refine calls_of_wp_defers func97 rfl ?_;have hN:f97.ntmps=10:=rfl;have E:Fr 10 (nE 0 [s.val]) {tmps:= #[s.val]++Array.replicate (f97.ntmps - #[s.val].size) undef,defers:= []}:=by
  refine⟨by simp[hN],rfl,λn v hv=>?_⟩;obtain⟨_,h2⟩:=oL [s.val] 0 n v hv;have C:=(Yk.1 h2).1;rw[Uw (by simpa using C)]
  simpa using h2
 have F:W G prog 10 (Code.region 0 #[(⟨some 2,.alloc 121,0, "dict.go:79", #[],none⟩:Oper),⟨some 3,.alloc 47,0, "dict.go:79", #[],none⟩] false) (λe t p=>e=.normal∧∃g c:Nat,t=put (put (nE 0 [s.val]) (some 2) (pA g)) (some 3) (pA c)∧p=Vr c [.nilIface]::Vr g [.pointer none]::H) (nE 0 [s.val]) H:=
  wr_ (alc (k:=λg=>alc (k:=λc=>on_ ⟨rfl,g,c,rfl,rfl⟩)))
 refine wp_seq (wp_mono (F.go _ w E L) ?_);rintro e q m ⟨t1,H1,a,z,rfl,g,c,rfl,rfl⟩;simp only[Exit.then];have hL0:=a.look 0 s.val rfl;have hL2:=a.look 2 _ rfl;have hL3:=a.look 3 _ rfl;refine wp_seq (wp_region_lit (l:= [(⟨some 4,.makeFunc (.func 172) #[] #[.tmp 2,.tmp 3],1, "dict.go:80", #[],none⟩:Oper),⟨none,.defer ⟨.value (.tmp 4), #[], #[]⟩,0, "dict.go:80", #[⟨0,.data⟩],none⟩]) ?_);have U:q.eval (.tmp 2)=pA g:=a.agree _ _ rfl;have T:q.eval (.tmp 3)=pA c:=a.agree _ _ rfl;unfold wpList;rw[if_pos bn];left;show Oper.upon _ _ _ _ _ ((execOp q.eval _).run _ _);have hx:(execOp q.eval ⟨some 4,.makeFunc (.func 172) #[] #[.tmp 2,.tmp 3],1, "dict.go:80", #[],none⟩).run prog m=.ok (.value (.func (.func 172) #[] #[pA g,pA c])) m:=by
  simp[execOp,Instr.makeFunc,U,T,Sem.run_bind,Sem.run_pure,Result.andThen_ok]
 rw[hx,Oper.upon_value];have j:=a.put (d:=some 4) rfl (.func (.func 172) #[] #[pA g,pA c]);obtain⟨h,y⟩:=ex (q.put (some 4) (.func (.func 172) #[] #[pA g,pA c]));rw[←y]at j;show wpList _ _ _ _ (q.put (some 4) _) m;rw[←y];have S:h.eval (.tmp 4)=.func (.func 172) #[] #[pA g,pA c]:=j.agree _ _ rfl;unfold wpList;rw[if_pos bn];left;show Oper.upon _ _ _ _ _ ((execOp h.eval _).run _ _);have hy:(execOp h.eval ⟨none,.defer ⟨.value (.tmp 4), #[], #[]⟩,0, "dict.go:80", #[⟨0,.data⟩],none⟩).run prog m=.ok (.defer ⟨.fn (.func 172) #[pA g,pA c], #[]⟩) m:=by
  simp[execOp,resolve,S,Deferred.ofValue,Sem.run_bind,Sem.run_pure,Result.andThen_ok]
 rw[hy,Oper.upon_defer];refine wpList_nil ?_;simp only[Exit.then];have R:h.defers= []:=j.defers;obtain⟨d,hd⟩:∃d:Deferred,d=⟨.fn (.func 172) #[pA g,pA c], #[]⟩:=⟨_,rfl⟩;rw[←hd,show Act.put {h with defers:=d::h.defers} none undef={h with defers:=h.defers++ [d]}from by rw[R];all_goals rfl];refine wp_seq (wp_region_lit (l:= [(⟨some 5,.move (.tmp 0),110, "dict.go:85", #[],none⟩:Oper),⟨some 6,.call ⟨.value (.func 164), #[.tmp 5], #[110]⟩,238, "dict.go:85", #[⟨0,.data⟩],none⟩,⟨some 7,.call ⟨.value (.func 173), #[.tmp 6], #[238]⟩,184, "dict.go:85", #[⟨1,.data⟩,⟨1,.chain⟩],none⟩,⟨some 8,.build 186 #[(0,.tmp 7)],186, "dict.go:85", #[⟨2,.data⟩],none⟩,⟨some 9,.box 186 (.tmp 8),121, "dict.go:85", #[⟨3,.data⟩],none⟩,⟨none,.store 121 (.tmp 2) (.tmp 9),0, "dict.go:85", #[⟨4,.data⟩,⟨2,.chain⟩,⟨0,.phase⟩,⟨1,.phase⟩,⟨2,.phase⟩,⟨3,.phase⟩,⟨4,.phase⟩],none⟩,⟨none,.store 47 (.tmp 3) (.const .nilIface),0, "dict.go:85", #[⟨5,.chain⟩,⟨0,.phase⟩,⟨1,.phase⟩,⟨2,.phase⟩,⟨3,.phase⟩,⟨4,.phase⟩,⟨5,.phase⟩],none⟩]) (qS [d] _ h m ?_));refine qT (Q:=up G 10 (λe t p=>e=.normal∧∃(b:Nat) (i:SV),cH p (Vr b [i.val]::Row i eEn l::H)∧As prog f97 (λv _=>v=.tuple #[pA b,.nilIface]) .ret t p)) (λe J K M=>?_) _ _ _ (O.go ?_ h m j z)
 ·obtain⟨t',p,x,r,rfl,b,i,A,he,v,rfl,u⟩:=M;simp only[Exit.then];refine wp_ret ?_;show Leaves _ _ J.tmps _ (J.defers++ [d]) .returning K;rw[x.defers,Ye,hd];refine leaves_cons (f:=172) (args:= #[pA g,pA c]) ak ?_ ?_
  ·show(callFunc 172 (#[]++ #[_,_])).run _ _=_;exact px func172 rfl aa _ _
  ·refine(ET _ _ K).mono ?_;rintro e u' w'' ⟨rfl,rfl,rfl⟩;exact⟨_,u G 10 J _ x r,_,A.sat r,b,i,rfl,rfl⟩
 ·refine e_ mv (k:=c1_ rfl (jB (xs:=fT l) a8) (k:=?_));rintro _ _ ⟨br,rfl,rfl⟩;refine c1_ rfl (zn B hl N) (k:=?_);rintro _ _ ⟨i,rfl,rfl⟩;refine e_ (bld [(0,_)]) (k:=bxx (k:=λV=>sto (k:=sto (k:=on_ ⟨rfl,V,i,hsb,?_⟩))));exact rt_ results97 (k:=rfl)
end Go.Sx
