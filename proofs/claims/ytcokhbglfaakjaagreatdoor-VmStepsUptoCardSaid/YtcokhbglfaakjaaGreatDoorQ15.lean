import Derived.Test.YtcokhbglfaakjaaGreatDoorQ13
import Derived.Test.YtcokhbglfaakjaaGreatDoorQ14
import Derived.Recover
import Derived.Test.YtcokhbglfaakjaaGreatDoorQ12
import Derived.Test.YtcokhbglfaakjaaGreatDoorQ11
set_option linter.all false
set_option maxHeartbeats 0
namespace Go.Sx
open Go Go.Proofs Tryz
set_option maxRecDepth 100000
section
variable {G:dJ}{H:dD}
theorem Zu {P:Program}{t:Tm}{dst:Option Tmp}{ty:TypeId}{pos:String}{after:Array Edge}{g:Option (Nat×Bool)}{T U:TypeId}{x y:Operand}{a b:ByteArray}(hx:evo t x=some (.string a):=by exact rfl) (hy:evo t y=some (.string b):=by exact rfl):Ev G P ⟨dst,.binOp .gtr T x y U,ty,pos,after,g⟩ t H (.bool (decide (dC b<dC a))):=
 fun ρ hρ w _=>by
  have e:(!(Op.bytesLess a.toList b.toList ||a.toList==b.toList))=decide (dC b<dC a):=by
   rw[ly,Bv,U2];simp only[Uf,Ut,Xy,Xq];rw[←not_or,←List.le_iff_lt_or_eq,List.not_le]
  simp only[execOp,hρ _ _ hx,hρ _ _ hy,eqGuard,binOp_string_gtr,e];all_goals rfl
theorem G4 {R:dD}{b k:Nat}{xs:List Nat} [hr:Rem H Rd b (xs,k) R] (hk:k≤xs.length) (hn:xs.length≤1000000000000):SC G prog 82 [pA b] H (λv a=>v=iN (xs.length-k)∧a=Rd b (xs,k)::R):=
 SC.out (Cn hr λs=>SC.mono (left (k:=(k:Int)) (n:=(xs.length:Int)) (r:= [s.val]) a8) λv a ⟨h1,h2⟩=>⟨Rd b (xs,k)::R,by rw[h2];exact hsb,by rw[h1];exact congrArg (Value.int .i64) a8,rfl⟩)
theorem Eh {R:dD}{b:Nat}{l:List En} [hg:Glb G R] [hr:Rem H Rd b (iC l,0) R] (V:w9 l) (hl:l.length≤100000000) (hn:(iC l).length≤1000000000):SC G prog 179 [pA b] H (λv H'=>∃s:SV,v=s.val∧H'=Row s eEn l::R):=by
 have hb:=Dx l;have b1:=MH l;have hend:=IW l;have hbk:16*gO l≤l.length+15∧l.length≤16*gO l:=cS;obtain⟨c,g⟩:=ex (iC l);rw[←g]at hb b1 hend hn;obtain⟨A,hA⟩:=ex ((uv l.length).length);obtain⟨B,hB⟩:=ex (gO l);obtain⟨Z,hZ⟩:=ex (A+(eH l B).1.length);rw[←hB]at hbk hend;have h0:iH (c.length-0) (c.drop 0)=.ok (l.length,A):=by
  rw[Va,R8,g,iC,Yf,hA];exact gw _ (a8) (by rw[←Yf,←iC,←g];omega)
 have b3:∀j,j<B→(eH l j).1.length≤(eH l B).1.length:=λj hj=>by
  obtain⟨r,r',h1,_⟩:=lr l j B (a8);rw[h1,Ya];omega
 have a0:∀j,j≤B→(eH l j).2.length≤(eH l B).2.length:=λj hj=>by
  obtain⟨r,r',_,h1⟩:=lr l j B (a8);rw[h1,Ya];omega
 have hr':Rem H Rd b (c,0) R:=by rw[g];exact hr
 clear hr;refine SC.rem (h:=hr') ?_;refine sWk func179 ?_;refine go ?_;refine d1_ rfl (G4 (a8) (a8)) ?_;refine d2_ rfl (wi (most:=c.length-0) (a8) (a8) hb (a8) h0) ?_;refine eu (dH.nilRow (e:=eI) dH.refl) ?_;rw[show Row SV.nil eI ([]:List Int)=Row SV.nil eI (n5 l 0)from rfl,Vw];refine go ?_;refine gk (k:=e8 (Nat×Nat×SV×Nat) (λy=>y.1=16*y.2.1∧y.2.1≤B∧y.2.2.2=A+(eH l y.2.1).1.length) (λy=>[(4,y.2.2.1.val),(5,iN y.1)]) [(0,_),(3,_)] (λy=>[Row y.2.2.1 eI (n5 l y.2.1),Rd b (c,y.2.2.2)]) _ (λy=>B-y.2.1) ((0,0,SV.nil,A)) (h0:=?_) (k:=?_))
 ·try dsimp only
  exact⟨rfl,Yl _,rfl⟩
 rintro⟨i,j,u,m⟩ ⟨hi,hj,f⟩
 try dsimp only[Yd,Ye]at*
 refine gW (λh1=>?_) (λh1=>?_)
 ·have M:j<B:=by omega
  obtain⟨r,t,hdl⟩:=IU (l:=l) (j:=j) (a8);have hs1:=b3 j M;have a4:=xd l j;have n:m≤c.length:=a8;have E:c.drop m=uv (fe [] (gB l j)).length++r:=by rw[g,f,hA];exact t
  have a9:=congrArg List.length E;rw[Yo,Ya]at a9;have a5:iH (c.length-m) (c.drop m)=.ok ((fe [] (gB l j)).length,(uv (fe [] (gB l j)).length).length):=by
   rw[E];exact gw _ (a8) (a8)
  refine go ?_;refine d1_ rfl (G4 n (a8)) ?_;refine d2_ rfl (wi (most:=c.length-m) n (a8) hb (a8) a5) (fS eI (k:=λs31=>?_));refine app (k:=λa2=>?_);rw[←Cg];refine go ?_;refine lN ((i+16,j+1,a2,m+(uv (fe [] (gB l j)).length).length)) ?_
  try dsimp only
  exact⟨a8,a8,by rw[eH];simp only[Ya];omega⟩
 have L:j=B:=a8;rw[L]at f⊢;have a4:=xd l B;rw[←hZ]at f;refine we_ (qe_ (le_ (bh_ (qn_ (ws_ (wr_ (e_ asn (on_ (qn_ (ws_ (ws_ (wr_ (?_)))))))))))));refine eu (dH.nilRow (e:=eEn) dH.refl) ?_;rw[show Row SV.nil eEn ([]:List En)=Row SV.nil eEn (l.take (16*0))from rfl];refine gk (k:=e8 (Nat×SV×Nat) (λy=>y.1≤B∧y.2.2=Z+(eH l y.1).2.length) (λy=>[(6,y.2.1.val),(35,iN y.1)]) [(0,_),(3,_),(33,_),(34,_)] (λy=>[Row y.2.1 eEn (l.take (16*y.1)),Rd b (c,y.2.2)]) (Row u eI (n5 l B)::R) (λy=>B-y.1) ((0,SV.nil,m)) (h0:=?_) (k:=?_))
 ·try dsimp only
  exact⟨Yl _,f⟩
 rintro⟨j,w,m⟩ ⟨hj,f⟩
 try dsimp only[Yd,Ye]at*
 refine gW (λh2=>?_) (λh2=>?_)
 ·have M:j<B:=by omega
  have hgt:=Eo (l:=l) M;have hs2:=a0 j (a8);have U:=a0 (j+1) (a8);rw[eH]at U;simp only[Ya]at U;have n:m≤c.length:=a8;obtain⟨r,t⟩:=MG (l:=l) (j:=j) (a8);rw[←g,←hB,←hA,←hZ,←f]at t;have Y:=ri l j;refine go ?_;refine go ?_;refine d1_ rfl (xb) (go ?_);refine d1_ rfl (G4 n (a8)) ?_;refine e_ (evq ile (congrArg Value.bool (Ys (a8)))) ?_;refine d1_ rfl (vJ) (go ?_);refine gk (k:=e8 (Nat×SV×ByteArray×Nat) (λy=>y.1≤16∧(16*j+y.1≤l.length)∧dC y.2.2.1=nk [] ((gB l j).take y.1)∧y.2.2.1.size≤65∧y.2.2.2=m+(fe [] ((gB l j).take y.1)).length) (λy=>[(6,y.2.1.val),(10,.string y.2.2.1),(11,iN y.1)]) [(0,_),(3,_),(9,_),(33,_),(34,_),(35,_)] (λy=>[Row y.2.1 eEn (l.take (16*j+y.1)),Rd b (c,y.2.2.2)]) (Row u eI (n5 l B)::R) (λy=>16-y.1) ((0,w,ByteArray.empty,m)) (h0:=?_) (k:=?_))
  ·try dsimp only
   exact⟨a8,a8,rfl,ae,rfl⟩
  rintro⟨a,S,C,kq⟩ ⟨hk,hkl,K,a7,p⟩
  try dsimp only[Yd,Ye]at*
  have a3:(l.take (16*j+a)).length=16*j+a:=az;refine gk (k:=dV 5 59 (k:=λh3=>gk (k:=edq)) (q:=gW (λh4=>?_) (λh4=>?_)))
  ·obtain⟨e,he⟩:=gE l (16*j+a);obtain⟨r',N⟩:=Ql t (a8) he;rw[←p,←K]at N;obtain⟨e1,e2,e3,e4,e5,e6⟩:=V.1 e (Yj he);have z:(gB l j)[a]? =some e:=by rw[DL l j a (a8)];exact he
   have b0:=congrArg List.length N;rw[Yo,Ya]at b0;have X:kq≤c.length:=by
    have h9:=congrArg List.length (show gB l j=(gB l j).take a++(gB l j).drop a from(Vd ..).symm);have h8:fe [] (gB l j)=fe [] ((gB l j).take a)++fe (nk [] ((gB l j).take a)) ((gB l j).drop a):=by
     conv=>lhs;rw[show gB l j=(gB l j).take a++(gB l j).drop a from(Vd ..).symm]
     exact rN _ _ _
    have h7:=congrArg List.length h8;rw[Ya]at h7;omega
   have T:=dK he;refine go ?_;refine d3_ rfl (JU (e:=e) X (a8) hb N ⟨e1,e2⟩ a7 (λx hx=>by simp only[jG,Xo,S9,or_false]at hx;rcases hx with rfl|rfl|rfl|rfl <;> omega)) (alc (k:=λb4=>?_));refine go ?_;refine wD [15] (λk H=>(k=1→Sl H S eEn (l.take (16*j+a)))∧(k=5→dQ H b4 [.string e.key,iN e.docs,iN e.tot,iN e.at_,iN e.size])∧(k=8→Sl H S eEn (l.take (16*j+a)))∧(k=10→Sl H S eEn (l.take (16*j+a)))∧(k=11→Sl H S eEn (l.take (16*j+a)))∧(k=12→Sl H S eEn (l.take (16*j+a)))) (aF 0 (k:=?_));refine aN 1 rfl (λH hH=>by have hN:=hH.1 rfl;exact lnn) (?_);refine aF 2 (k:=?_);refine fH 3 rfl rfl (aa) rfl (ea λH hH=>mv) (λh5=>?_) (λh5=>?_)
   ·replace h5:=nrm h5;refine ao_ 4 (k:=ao_ 5 (k:=ao_ 6 (k:=ao_ 7 (k:=ao_ 8 (k:=ao_ 9 (k:=ao_ 10 (k:=ao_ 11 (k:=ao_ 12 (k:=ao_ 13 (k:=aF 14 (k:=?_)))))))))));refine aS 15 rfl (v1_ (vJ)) ?_;rintro _ _ ⟨rfl,rfl⟩;refine aZ (gk (k:=fS eEn (k:=λa1=>?_)));refine app (k:=λF=>?_);rw[show l.take (16*j+a)++ [(⟨e.key,e.docs,e.tot,e.at_,e.size⟩:En)]=l.take (16*j+(a+1))from T.symm];refine go ?_;refine go ?_;refine lN ((a+1,F,e.key,kq+(oX (dC C) e).length)) ?_
    try dsimp only
    exact⟨a8,a8,(sW z []).symm,e2,by rw[p,qe z,K,Ya];omega⟩
   replace h5:=nrm h5;obtain⟨d,hd⟩:=gE l (16*j+a-1);have a6:=V.2 (16*j+a-1) d e hd (by rw[Q7 (a8)];exact he);have hd2:(l.take (16*j+a))[(l.take (16*j+a)).length-1]? =some d:=by rw[a3,Vp (a8)];exact hd
   refine ag_ 4 (q:=ea λH hH=>fla) (k:=?_);refine lH 5 rfl rfl rfl rfl (aa) rfl (ea λH hH=>ar) (?_);refine ag_ 6 (q:=ea λH hH=>mv) (k:=ag_ 7 (q:=ea λH hH=>mv) (k:=?_));refine lH 8 rfl rfl rfl rfl (aa) rfl (ea λH hH=>by have hN:=hH.2.2.1 rfl;exact lnn) (?_);refine ag_ 9 (q:=ea λH hH=>isb) (k:=?_);refine lH 10 rfl rfl rfl rfl (aa) rfl (ea λH hH=>bu) (?_);refine lH 11 rfl rfl rfl rfl (aa) rfl (ea λH hH=>by have hN:=hH.2.2.2.2.1 rfl;exact fle) (?_);refine lH 12 rfl rfl rfl rfl (aa) rfl (ea λH hH=>by have hN:=hH.2.2.2.2.2 rfl;exact lfl) (?_);refine lH 13 rfl rfl rfl rfl (aa) rfl (ea λH hH=>evq Zu (congrArg Value.bool (Ys a6))) (?_);refine go ?_;refine aS 15 rfl (v1_ (vJ)) ?_;rintro _ _ ⟨rfl,rfl⟩;refine aZ (gk (k:=fS eEn (k:=λa1=>?_)));refine app (k:=λF=>?_);rw[show l.take (16*j+a)++ [(⟨e.key,e.docs,e.tot,e.at_,e.size⟩:En)]=l.take (16*j+(a+1))from T.symm];refine go ?_;refine go ?_;refine lN ((a+1,F,e.key,kq+(oX (dC C) e).length)) ?_
   try dsimp only
   exact⟨a8,a8,(sW z []).symm,e2,by rw[p,qe z,K,Ya];omega⟩
  have b2:(gB l j).take a=gB l j:=Xr (by rw[Y];omega);rw[b2]at p;have J:l.take (16*j+a)=l.take (16*(j+1)):=by
   by_cases h9:a=16
   ·rw[h9];all_goals rfl
   ·rw[Xr (a8),Xr (a8)]
  rw[J];refine go ?_;refine d1_ rfl (xb) (e_ mv ?_);refine e_ (evq ieq (congrArg Value.bool (Ys (a8)))) ?_;refine d1_ rfl (vJ) (go ?_);refine lN ((j+1,S,kq)) ?_
  try dsimp only
  exact⟨a8,by rw[eH];simp only[Ya];omega⟩
 have L:j=B:=a8;rw[L]at f⊢;rw[show l.take (16*B)=l from Xr (a8)];have n:m=c.length:=a8;refine go ?_;refine d1_ rfl (SC.mono (tC (a8)) (λv H' h=>(by
  rcases h with⟨h1,(⟨h2,_⟩|⟨_,h3⟩)⟩
  ·omega
  ·exact⟨h3,h1⟩:v=.nilIface∧H'=_))) ?_
 refine e_ (iB rfl) ?_;refine d1_ rfl (vJ) (gR ?_);exact⟨_,hsb,w,rfl,rfl⟩
end
theorem l6 (a:Act) (ds:List Deferred) (dst:Option Tmp) (v:Value):({a with defers:=a.defers++ds}:Act).put dst v={a.put dst v with defers:=(a.put dst v).defers++ds}:=by cases dst <;> rfl
theorem vF {P:Program}{ops:Array Oper}{Q:Exit→Act→World→Prop}(ds:List Deferred):∀(l:List Oper) (a:Act) (w:World),wpList P ops (λe a' w'=>Q e {a' with defers:=a'.defers++ds} w') l a w→wpList P ops Q l {a with defers:=a.defers++ds} w
 | [],_,_,h=>h
 |o::l,a,w,h=>by
  have ih:=vF (P:=P) (ops:=ops) (Q:=Q) ds l;unfold wpList at h⊢
  by_cases hw:Region.wanted o (yielded ops a.tmps)=true
  ·rw[if_pos hw]at h;rw[if_pos (by exact hw)];rcases h with h|⟨h,a0,w0,hq⟩
   ·left;change o.upon P a _ _ ((execOp a.eval o).run P w)at h;show o.upon P {a with defers:=a.defers++ds} _ _ ((execOp a.eval o).run P w);generalize (execOp a.eval o).run P w=r at h⊢;unfold Oper.upon at h⊢
    split at h
    ·rw[l6];exact ih _ _ h
    ·rw[l6];exact ih _ _ h
    ·rename_i d w';have:=l6 {a with defers:=d::a.defers} ds o.dst undef;simp only at this⊢;rw[show(d::(a.defers++ds))=(d::a.defers)++ds from rfl,this];exact ih _ _ h
    ·exact Calls.mono h λe w' he=>by
       cases e with
       |returned v=>simp only at he⊢;rw[l6];exact ih _ _ he
       |panicked chain=>exact he
       |outgrown=>obtain⟨a0,w0,hq⟩:=he;exact⟨_,w0,hq⟩
    ·exact Rows.mono h λv w' he=>by rw[l6];exact ih _ _ he
    ·exact h
    ·exact h.elim
   ·exact .inr ⟨h,_,w0,hq⟩
  ·rw[if_neg hw]at h;rw[if_neg (by exact hw),l6];exact ih _ _ h
theorem vG {P:Program}{ops:Array Oper}{Q Q':Exit→Act→World→Prop}(hq:∀e a w,Q e a w→Q' e a w):∀(l:List Oper) (a:Act) (w:World),wpList P ops Q l a w→wpList P ops Q' l a w
 | [],_,_,h=>hq _ _ _ h
 |o::l,a,w,h=>by
  have ih:=vG (P:=P) (ops:=ops) hq l;unfold wpList at h⊢
  by_cases hw:Region.wanted o (yielded ops a.tmps)=true
  ·rw[if_pos hw]at h⊢;rcases h with h|⟨h,a0,w0,hq0⟩
   ·left;change o.upon P a _ _ ((execOp a.eval o).run P w)at h;show o.upon P a _ _ ((execOp a.eval o).run P w);generalize (execOp a.eval o).run P w=r at h⊢;unfold Oper.upon at h⊢
    split at h
    ·exact ih _ _ h
    ·exact ih _ _ h
    ·exact ih _ _ h
    ·exact Calls.mono h λe w' he=>by
       cases e with
       |returned v=>exact ih _ _ he
       |panicked chain=>exact hq _ _ _ he
       |outgrown=>obtain⟨a0,w0,hq0⟩:=he;exact⟨_,w0,hq _ _ _ hq0⟩
    ·exact Rows.mono h λv w' he=>ih _ _ he
    ·exact hq _ _ _ h
    ·exact h.elim
   ·exact .inr ⟨h,_,w0,hq _ _ _ hq0⟩
  ·rw[if_neg hw]at h⊢;exact ih _ _ h
theorem KG (h g:Value) (w:World):CallsD prog 178 #[h,g] .returning w λe c b=>e=.returned (.tuple #[])∧c=.returning∧b=w:=by
 have a:∀w:World,(binOp BinOp.neq 20 .nilIface .nilIface).run prog w=.ok (.bool false) w:=λ_=>aa;refine callsD_of_wpS func178 rfl λf cs d=>?_;apply wpS_seq;apply wpS_region;simp[wpOpsS,go_sem,recoverD,d,ntmps178,Exit.thenS];apply wpS_seq;apply wpS_region;simp[wpOpsS,go_sem,a,Exit.thenS];refine wpS_cond (t:=false) (by simp[Act.eval,Array.replicate]) ?_;simp only[Xx,if_false];refine wpS_of_wp (wp_skip ?_);cases f
 simp_all [bodyPostS,results,results178]
theorem n7 {P:Program}{f:FuncId}{a:Func}{c:Code}(hf:P.funcs[f]? =some a) (b:a.body=some c) (hn:(a.name== "runtime.NumGoroutine")=false) (xs:Array Value) (w:World):(callFunc f xs).run P w=.ok (.enter f xs) w:=by
 have hn':¬a.name= "runtime.NumGoroutine" :=by simpa using hn
 simp[callFunc,hf,b,hn']
theorem HR {G:dJ}{H:dD}{s:SV}{l:List En} [hg:Glb G H] [hs:Sl H s eB (iC l)] (B:w9 l) (hl:l.length≤100000000) (hn:(iC l).length≤1000000000):SC G prog 119 [s.val] H (λv p=>∃(b:Nat) (i:SV),v=.tuple #[pA b,.nilIface]∧p=Vr b [i.val]::Row i eEn l::H):=by
 refine⟨n7 func119 rfl aa,λw L=>?_⟩;refine calls_of_wp_defers func119 rfl ?_;have hN:f119.ntmps=10:=rfl;have E:Fr 10 (w3 0 [s.val]) {tmps:= #[s.val]++Array.replicate (f119.ntmps - #[s.val].size) undef,defers:= []}:=by
  refine⟨by simp[hN],rfl,λn v hv=>?_⟩;obtain⟨_,h2⟩:=xN [s.val] 0 n v hv;have C:=(Yk.1 h2).1;rw[Uu (by simpa using C)]
  simpa using h2
 have F:W G prog 10 (Code.region 0 #[(⟨some 2,.alloc 158,0, "dict.go:79", #[],none⟩:Oper),⟨some 3,.alloc 47,0, "dict.go:79", #[],none⟩] false) (λe t p=>e=.normal∧∃g c:Nat,t=put (put (w3 0 [s.val]) (some 2) (pA g)) (some 3) (pA c)∧p=Vr c [.nilIface]::Vr g [.pointer none]::H) (w3 0 [s.val]) H:=
  wr_ (alc (k:=λg=>alc (k:=λc=>on_ ⟨rfl,g,c,rfl,rfl⟩)))
 refine wp_seq (wp_mono (F.go _ w E L) ?_);rintro e q m ⟨t1,H1,a,z,rfl,g,c,rfl,rfl⟩;simp only[Exit.then];have hL0:=a.look 0 s.val rfl;have hL2:=a.look 2 _ rfl;have hL3:=a.look 3 _ rfl;refine wp_seq (wp_region_lit (l:= [(⟨some 4,.makeFunc (.func 178) #[] #[.tmp 2,.tmp 3],1, "dict.go:80", #[],none⟩:Oper),⟨none,.defer ⟨.value (.tmp 4), #[], #[]⟩,0, "dict.go:80", #[⟨0,.data⟩],none⟩]) ?_);have T:q.eval (.tmp 2)=pA g:=a.agree _ _ rfl;have S:q.eval (.tmp 3)=pA c:=a.agree _ _ rfl;unfold wpList;rw[if_pos cM];left;show Oper.upon _ _ _ _ _ ((execOp q.eval _).run _ _);have hx:(execOp q.eval ⟨some 4,.makeFunc (.func 178) #[] #[.tmp 2,.tmp 3],1, "dict.go:80", #[],none⟩).run prog m=.ok (.value (.func (.func 178) #[] #[pA g,pA c])) m:=by
  simp[execOp,Instr.makeFunc,T,S,Sem.run_bind,Sem.run_pure,Result.andThen_ok]
 rw[hx,Oper.upon_value];have j:=a.put (d:=some 4) rfl (.func (.func 178) #[] #[pA g,pA c]);obtain⟨h,y⟩:=ex (q.put (some 4) (.func (.func 178) #[] #[pA g,pA c]));rw[←y]at j;show wpList _ _ _ _ (q.put (some 4) _) m;rw[←y];have R:h.eval (.tmp 4)=.func (.func 178) #[] #[pA g,pA c]:=j.agree _ _ rfl;unfold wpList;rw[if_pos cM];left;show Oper.upon _ _ _ _ _ ((execOp h.eval _).run _ _);have hy:(execOp h.eval ⟨none,.defer ⟨.value (.tmp 4), #[], #[]⟩,0, "dict.go:80", #[⟨0,.data⟩],none⟩).run prog m=.ok (.defer ⟨.fn (.func 178) #[pA g,pA c], #[]⟩) m:=by
  simp[execOp,resolve,R,Deferred.ofValue,Sem.run_bind,Sem.run_pure,Result.andThen_ok]
 rw[hy,Oper.upon_defer];refine wpList_nil ?_;simp only[Exit.then];have N:h.defers= []:=j.defers;obtain⟨d,hd⟩:∃d:Deferred,d=⟨.fn (.func 178) #[pA g,pA c], #[]⟩:=⟨_,rfl⟩;rw[←hd,show Act.put {h with defers:=d::h.defers} none undef={h with defers:=h.defers++ [d]}from by rw[N];all_goals rfl];refine wp_seq (wp_region_lit (l:= [(⟨some 5,.move (.tmp 0),31, "dict.go:85", #[],none⟩:Oper),⟨some 6,.call ⟨.value (.func 81), #[.tmp 5], #[31]⟩,170, "dict.go:85", #[⟨0,.data⟩],none⟩,⟨some 7,.call ⟨.value (.func 179), #[.tmp 6], #[170]⟩,261, "dict.go:85", #[⟨1,.data⟩,⟨1,.chain⟩],none⟩,⟨some 8,.build 263 #[(0,.tmp 7)],263, "dict.go:85", #[⟨2,.data⟩],none⟩,⟨some 9,.box 263 (.tmp 8),158, "dict.go:85", #[⟨3,.data⟩],none⟩,⟨none,.store 158 (.tmp 2) (.tmp 9),0, "dict.go:85", #[⟨4,.data⟩,⟨2,.chain⟩,⟨0,.phase⟩,⟨1,.phase⟩,⟨2,.phase⟩,⟨3,.phase⟩,⟨4,.phase⟩],none⟩,⟨none,.store 47 (.tmp 3) (.const .nilIface),0, "dict.go:85", #[⟨5,.chain⟩,⟨0,.phase⟩,⟨1,.phase⟩,⟨2,.phase⟩,⟨3,.phase⟩,⟨4,.phase⟩,⟨5,.phase⟩],none⟩]) (vF [d] _ h m ?_));refine vG (Q:=up G 10 (λe t p=>e=.normal∧∃(b:Nat) (i:SV),dH p (Vr b [i.val]::Row i eEn l::H)∧N9 prog f119 (λv _=>v=.tuple #[pA b,.nilIface]) .ret t p)) (λe J K M=>?_) _ _ _ (O.go ?_ h m j z)
 ·obtain⟨t',p,x,r,rfl,b,i,A,he,v,rfl,u⟩:=M;simp only[Exit.then];refine wp_ret ?_;show Leaves _ _ J.tmps _ (J.defers++ [d]) .returning K;rw[x.defers,Ye,hd];refine leaves_cons (f:=178) (args:= #[pA g,pA c]) aq ?_ ?_
  ·show(callFunc 178 (#[]++ #[_,_])).run _ _=_;exact n7 func178 rfl aa _ _
  ·refine(KG _ _ K).mono ?_;rintro e u' w'' ⟨rfl,rfl,rfl⟩;exact⟨_,u G 10 J _ x r,_,A.sat r,b,i,rfl,rfl⟩
 ·refine e_ mv (k:=c1_ rfl (l3 (xs:=iC l) a8) (k:=?_));rintro _ _ ⟨br,rfl,rfl⟩;refine c1_ rfl (Eh B hl hn) (k:=?_);rintro _ _ ⟨i,rfl,rfl⟩;refine e_ (bld [(0,_)]) (k:=bxx (k:=λU=>sto (k:=sto (k:=on_ ⟨rfl,U,i,hsb,?_⟩))));exact rt_ results119 (k:=rfl)
section
variable {G:dJ}{H:dD}{b q:Nat}{blk:Int}{c:CuS}{im sk:SV}{lp:Option Nat}{ps:List Po}{v0 v1 v3 v6:Value}{zs:List PG}
theorem DX {P:Program}{f:FuncId}{args:List Value}{H':dD}{K:Value→dD→Prop}(hs:dH H H') (h:SC G P f args H' K):SC G P f args H K:=h.heap λw a=>hs.sat a
theorem RK {n:Int}{a:Value} [dQ H b [v0,.int .i64 n,a,v3]]:SC G prog 201 [pA b] H (λv c=>v=.int .i64 n∧c=H):=by
 refine sWk func201 ?_;refine go ?_;exact gZ
class DZ (H:dD) (lp:Option Nat) (im sk:outParam SV) (ps:outParam (List Po)):Prop where
 at_:∀p,lp=some p→dQ H p [im.val,.int .i64 ((ps.length:Nat):Int),.int .i64 ((ec ps:Nat):Int),sk.val]∧Sl H im eB (eO ps)∧Sl H sk eSk (ic ps)
instance {H:dD}{lp:Option Nat}{im sk:SV}{ps:List Po}:DZ (LPh lp im sk ps::H) lp im sk ps:=⟨λp hp=>by subst hp;exact⟨inferInstance,inferInstance,inferInstance⟩⟩
instance DZ.tail {A:Hp}{H:dD}{lp:Option Nat}{im sk:SV}{ps:List Po} [h:DZ H lp im sk ps]:DZ (A::H) lp im sk ps:=⟨λp hp=>by
 obtain⟨h1,h2,h3⟩:=h.at_ p hp
 exact⟨inferInstance,inferInstance,inferInstance⟩⟩
theorem Ax {e d:Value} [dQ H b [v0,v1,lpV lp,v3,e,d,v6]] [hl:DZ H lp im sk ps] (hn:lp=none→ps= []):SC G prog 149 [pA b] H (λv f=>v=iN ps.length∧f=H):=by
 refine sWk func149 ?_;refine ws_ (wr_ (e_ asn (on_ (qn_ (ws_ (ws_ (wr_ (e_ mv (e_ nck (e_ fla (e_ ldv ?_)))))))))));refine e_ (gu rfl) ?_;refine gW (λh1=>?_) λh1=>?_
 ·have c:lp=none:=by have h9:=h1;cases lp with|none=>rfl|some p=>simp at h9
  have a:=hn c;refine gR ?_;exact⟨_,hsb,by rw[a];all_goals rfl,rfl⟩
 obtain⟨p,rfl⟩:∃p,lp=some p:=by have h9:=h1;cases lp with|none=>simp at h9|some p=>exact⟨p,rfl⟩
 obtain⟨hv1,hv2,hv3⟩:=hl.at_ p rfl;refine go ?_;refine d1_ rfl (RK (b:=p)) (gR ?_);exact⟨_,hsb,rfl,rfl⟩
theorem MO (h:q<ps.length):q/16<eC ps∧q%16<(ei ps (q/16)).length∧(ei ps (q/16))[q%16]? =ps[q]? :=by
 have h1:q/16<eC ps:=cR;refine⟨h1,by rw[(nG h1).2];omega,?_⟩;rw[A5 (V2 _ ae)];congr 1;omega
theorem Qx {k i:Nat}(h:zs.map pgP=ei ps k) (hi:(ei ps k)[i]? =ps[q]?) (a:q<ps.length):∃z:PG,zs[i]? =some z∧ps[q]? =some (pgP z):=by
 have hp:ps[q]? =some ps[q]:=Yi a;rw[←h,Xd]at hi;cases hz:zs[i]? with
 |none=>rw[hz,hp]at hi;cases hi
 |some z=>exact⟨z,rfl,by rw[hz]at hi;exact hi.symm⟩
theorem BZ {R1 R2 R:dD}{rd:SV} [hg:Glb G R] [hr:Rem H Vr b [v0,v1,lpV lp,v3,.int .i64 blk,rd.val,v6] R1] [i:mh R1 rd ePo (zs.map pgV) R2] [h:nR R2 (Cl pgH zs) R] [hl:DZ R lp im sk ps] (hn:lp=none→ps= []) (hbk:yI ps zs blk) (n:j5 0 ps) (hsm:fL ps) (htt:ec ps≤100000000) (f:q<ps.length):
 SC G prog 183 [pA b,iN q] H (λv u=>∃(rd':SV) (zs':List PG) (blk':Int) (z:PG),yI ps zs' blk'∧ps[q]? =some (pgP z)∧(∀s:dD,Sl (Cl pgH zs'::s) z.s eI (dT z.pos))∧v=.agg #[iN z.d,z.s.val]∧u=Vr b [v0,v1,lpV lp,v3,.int .i64 blk',rd'.val,v6]::Row rd' ePo (zs'.map pgV)::Cl pgH zs'::R):=by
 have j:ps≠ []:=λe=>by rw[e]at f;simp at f
 obtain⟨p,rfl⟩:∃p,lp=some p:=by cases lp with|none=>exact absurd (hn rfl) j|some p=>exact⟨p,rfl⟩
 obtain⟨hv1,hv2,hv3⟩:=hl.at_ p rfl;obtain⟨r,hb2,g⟩:=MO f;have hen:=zO hsm a8;have hpl:=hsm.1;refine DX (dH.rem hr (dH.keep (gi i (dH.keep (gJ h dH.refl))))) ?_;refine sWk func183 ?_;refine gk (k:=alc (k:=λb4=>?_));refine on_ (qn_ (ws_ (wr_ (e_ mv ?_))));refine e_ (fX rfl rfl q 16 rfl rfl ae ai) (go ?_);refine wi_ (k:=λh1=>?_) (m:=λh1=>?_)
 ·refine go ?_;refine c2_ rfl (NZ (l:=ps) n hsm a8 r) ?_;rintro _ _ ⟨t,zs2,hzs,rfl,rfl⟩;obtain⟨z,d,c⟩:=Qx hzs g f;have hzl:(zs2.map pgV).length=(ei ps (q/16)).length:=by rw[←hzs,Yh,Yh]
  have a:(zs2.map pgV)[q%16]? =some (z.d,z.s):=by rw[Xd,d];all_goals rfl
  refine e_ nck (e_ fla (sto (k:=e_ nck (e_ fla (sto (k:=on_ (qn_ (ws_ (wr_ (e_ mv (e_ nck (e_ fla (e_ ldv ?_)))))))))))));refine e_ mv ?_;refine e_ (mw rfl rfl q 16 rfl rfl ae) ?_;refine e_ ixa (e_ (gr (hy:=a)) (gR ?_));exact⟨_,hsb,t,zs2,((q/16:Nat):Int),z,.inr ⟨_,rfl,hzs⟩,c,λs=>ee (rD d) inferInstance,rfl,rfl⟩
 have hbe:blk=((q/16:Nat):Int):=ao;have hzs:zs.map pgP=ei ps (q/16):=by
  rcases hbk with h1|⟨k,h1,h2⟩
  ·omega
  ·have:k=q/16:=by omega
   rw[←this];exact h2
 obtain⟨z,d,c⟩:=Qx hzs g f;have hzl:(zs.map pgV).length=(ei ps (q/16)).length:=by rw[←hzs,Yh,Yh]
 have a:(zs.map pgV)[q%16]? =some (z.d,z.s):=by rw[Xd,d];all_goals rfl
 refine wk_ (qn_ (ws_ (wr_ (e_ mv (e_ nck (e_ fla (e_ ldv (e_ mv ?_))))))));refine e_ (mw rfl rfl q 16 rfl rfl ae) ?_;refine e_ ixa (e_ (gr (hy:=a)) (gR ?_));exact⟨_,hsb,rd,zs,blk,z,hbk,c,λs=>ee (rD d) inferInstance,rfl,rfl⟩
theorem JT {R1 R2 R:dD}{rd:SV} [hg:Glb G R] [hr:Rem H Vr b [v0,v1,lpV lp,.int .i64 (((c.u:Nat):Int)-1),.int .i64 blk,rd.val,v6] R1] [h:mh R1 rd ePo (zs.map pgV) R2] [g:nR R2 (Cl pgH zs) R] [hl:DZ R lp im sk c.ps] (hn:lp=none→c.ps= []) (hbk:yI c.ps zs blk) (hc:jU c):
 SC G prog 133 [pA b] H (λv j=>v=iN ((fj c).length)∧∃(rd':SV) (zs':List PG) (blk':Int),yI c.ps zs' blk'∧j=Vr b [v0,v1,lpV lp,.int .i64 (((c.u:Nat):Int)-1),.int .i64 blk',rd'.val,v6]::Row rd' ePo (zs'.map pgV)::Cl pgH zs'::R):=by
 have hat:=hc.at_;have hpl:=hc.small.1;refine DX (dH.rem hr (dH.keep (gi h (dH.keep (gJ g dH.refl))))) ?_;refine sWk func133 ?_;refine go ?_;refine dX dN (as_ 0 (q:=mv) (k:=as_ 1 (q:=nck) (k:=as_ 2 (q:=fla) (k:=as_ 3 (q:=ldv) (k:=as_ 4 (q:=ilt) (k:=?_))))));refine fH 5 rfl rfl aa rfl (ey mv) (λh1=>?_) (λh1=>?_)
 ·replace h1:=nrm h1;have i:fj c= []:=pW (.inl ao);refine gk (k:=ift (k:=go ?_));refine gR ?_;exact⟨_,hsb,by rw[i];all_goals rfl,rd,zs,blk,hbk,rfl⟩
 replace h1:=nrm h1;have hu:¬c.u=0:=ao;refine go ?_;refine lH 11 rfl rfl rfl rfl aa rfl (iR (vs:= [_]) rfl (Ax hn)) ?_;refine gW (λh2=>?_) λh2=>?_
 ·refine gR ?_;exact⟨_,hsb,by rw[show fj c= []from pW (.inr a8)];all_goals rfl,rd,zs,blk,hbk,rfl⟩
 obtain⟨u,f⟩:∃u,c.u=u+1:=⟨c.u-1,a8⟩;have e:u<c.ps.length:=aw;refine wk_ (qn_ (ws_ (wr_ (e_ mv (e_ mv (e_ nck (e_ fla ?_)))))));refine e_ (evq ldv (congrArg (Value.int .i64) (show(((c.u:Nat):Int)-1)=((u:Nat):Int)from a8))) ?_;refine c2_ rfl (BZ hn hbk hc.ok hc.small hc.tot e) ?_;rintro _ _ ⟨rd2,zs2,blk2,z,hbk2,a,hzs,rfl,rfl⟩;have d:=eJ z.pos;have i:fj c=z.pos:=r8 f a;refine e_ (jz (ft:=28) (off:=1) underlying203 rfl rfl rfl) ?_;refine gR ?_;exact⟨_,hsb,congrArg (λn:Nat=>iN n) (d.trans (by rw[i])),rd2,zs2,blk2,hbk2,rfl⟩
theorem QL {R:dD} [hg:Glb G R] [hr:Rem H CuH b c R]:SC G prog 133 [pA b] H (λv H'=>v=iN ((fj c).length)∧H'=CuH b c::R):=by
 refine⟨n7 func133 rfl aa,λw i=>?_⟩;obtain⟨x,⟨h1,h2,h3⟩,h4⟩:=AE hr i;have j:=(JT (G:=G) (H:=Vr b [.int .i64 (gz c.ps c.u),iN c.mv,lpV x.lp,.int .i64 (((c.u:Nat):Int)-1),.int .i64 x.blk,x.rd.val,.bool c.told]::LPh x.lp x.im x.sk c.ps::Row x.rd ePo (x.zs.map pgV)::Cl pgH x.zs::R) (R1:=LPh x.lp x.im x.sk c.ps::Row x.rd ePo (x.zs.map pgV)::Cl pgH x.zs::R) (R2:=LPh x.lp x.im x.sk c.ps::Cl pgH x.zs::R) (R:=LPh x.lp x.im x.sk c.ps::R) (b:=b) (im:=x.im) (sk:=x.sk) (rd:=x.rd) (zs:=x.zs) (c:=c) h2 h3 h1).call w h4;refine j.mono λe w' he=>?_;cases e with
 |returned v=>
  obtain⟨H',g,rfl,f,d,a,h,rfl⟩:=he;refine⟨_,(oZ (c:=c) (x:=⟨x.lp,x.im,x.sk,f,d,a⟩) (R:=R) ⟨h1,h2,h⟩).sat ?_,rfl,rfl⟩;exact(dH.trans (H':=Vr b [.int .i64 (gz c.ps c.u),iN c.mv,lpV x.lp,.int .i64 (((c.u:Nat):Int)-1),.int .i64 a,f.val,.bool c.told]::LPh x.lp x.im x.sk c.ps::Row f ePo (d.map pgV)::Cl pgH d::R) hsb dH.refl).sat g
 |panicked ch=>exact he
 |outgrown=>exact he
end
section
variable {G:dJ}{H:dD}{f n op x:Nat}{l rs:List Nat}
def CX:List Value:= [.string (eG [101,110,100]),.int .i64 0,.string (eG [110,111,110,101]),.int .i64 0,.string (eG [97,108,108]),.int .i64 0,.string (eG [104,97,115]),.int .i64 1,.string (eG [116,101,114,109]),.int .i64 2,.string (eG [112,104,114,97,115,101]),.int .i64 2,.string (eG [97,110,100]),.int .i64 0,.string (eG [111,114]),.int .i64 0,.string (eG [109,97,120]),.int .i64 0,.string (eG [111,112,116]),.int .i64 0,.string (eG [101,120,99,101,112,116]),.int .i64 0,.string (eG [110,111,116]),.int .i64 0,.string (eG [115,99,97,108,101]),.int .i64 1,.string (eG [102,105,120]),.int .i64 1,.string (eG [108,101,97,115,116]),.int .i64 2,.string (eG [109,105,115,115]),.int .i64 1,.string (eG [104,105,116]),.int .i64 1]
class Isa (H:dD):Prop where
 at_:dQ H 24 CX
instance Isa.tail {A:Hp}{H:dD} [h:Isa H]:Isa (A::H):=⟨@dQ.tail _ _ _ _ h.at_⟩
instance {H:dD} [h:Isa H]:dQ H 24 CX:=h.at_
theorem Tp:∀i:Fin 17,CX[i.val*2+1]? =(nI i.val).map (λk:Nat=>iN k):=by
 intro⟨i,h⟩
 match i,h with
 | 0,_=>rfl
 | 1,_=>rfl
 | 2,_=>rfl
 | 3,_=>rfl
 | 4,_=>rfl
 | 5,_=>rfl
 | 6,_=>rfl
 | 7,_=>rfl
 | 8,_=>rfl
 | 9,_=>rfl
 | 10,_=>rfl
 | 11,_=>rfl
 | 12,_=>rfl
 | 13,_=>rfl
 | 14,_=>rfl
 | 15,_=>rfl
 | 16,_=>rfl
 |n+17,h=>exact absurd h a8
theorem A9 (h:op<17):∃k,nI op=some k∧k≤2∧CX[op*2+1]? =some (iN k):=by
 have h1:∀i:Fin 17,∃k,nI i.val=some k∧k≤2:=ae;obtain⟨k,h2,h3⟩:=h1 ⟨op,h⟩;have h4:=Tp ⟨op,h⟩;simp only at h2 h4;rw[h2]at h4;exact⟨k,h2,h3,h4⟩
theorem Aa (h:17≤op):nI op=none:=Xz h
theorem Wk [hi:Isa H]:SC G prog 84 [iN op] H (λv d=>((∃k,nI op=some k∧k≤2∧v=.tuple #[iN k,.bool true])∨(nI op=none∧v=.tuple #[.int .i64 0,.bool false]))∧d=H):=by
 refine sWk func84 ?_;refine ws_ (wr_ (e_ asn (e_ asn (on_ (qn_ (ws_ (ws_ (wr_ (e_ mv (e_ ilt (e_ mv (ep 3 9 (k:=λh1=>eg_ mv (eg_ ige (e_ pkf (on_ edq)))) (q:=on_ ?_)))))))))))));refine qn_ (wi_ (k:=λh2=>?_) (m:=λh2=>?_))
 ·have hno:=Aa (op:=op) aw;refine ws_ (wr_ (e_ asn (e_ asn (on_ (qn_ (wt_ (qr_ (rT (k:=?_)))))))));exact⟨_,hsb,.inr ⟨hno,rfl⟩,rfl⟩
 have a:op<17:=aw;obtain⟨k,c,hk2,b⟩:=A9 a;refine wk_ (qn_ (ws_ (wr_ (e_ mv ?_))));refine e_ (gI rfl rfl op rfl a) ?_;refine e_ fla ?_;refine e_ (nx rfl (v:=iN k) (by rw[show 0+op*2+1=op*2+1 from a8];exact b)) ?_;refine e_ asn (e_ asn (on_ (qn_ (wt_ (rT (k:=?_))))));exact⟨_,hsb,.inl ⟨k,c,hk2,rfl⟩,rfl⟩
def r9 (rs:List Nat) (o:Option (List Nat×List Nat)):Option (List Nat×List Nat):=o.map λp=>(rs++p.1,p.2)
theorem Ab {j v m:Nat}(h:iz 0 l=.ok (v,m)) (hj:j<n):r9 rs (mO (n-j) l)=r9 (rs++ [v]) (mO (n-(j+1)) (l.drop m)):=by
 obtain⟨d,hd⟩:∃d,n-j=d+1:=⟨n-j-1,a8⟩;rw[hd,show n-(j+1)=d from a8,mO,h];simp only[];cases mO d (l.drop m)with
 |none=>rfl
 |some p=>simp[r9]
theorem DN {j e:Nat}(h:iz 0 l=.error e) (hj:j<n):r9 rs (mO (n-j) l)=none:=by
 obtain⟨d,hd⟩:∃d,n-j=d+1:=⟨n-j-1,a8⟩;rw[hd,mO,h];all_goals rfl
theorem DA (f:Nat):lA f []=some []:=by cases f <;> rfl
theorem A0 (h:nI x=none):lA (f+1) (x::l)=none:=by rw[lA,h]
theorem zZ (h:nI x=some n) (h2:mO n l=none):lA (f+1) (x::l)=none:=by rw[lA,h];simp only[];rw[h2]
theorem Bp {vs r:List Nat}(h:nI x=some n) (h2:mO n l=some (vs,r)):lA (f+1) (x::l)=(lA f r).map (LD x vs:: ·):=by
 rw[lA,h];simp only[];rw[h2];simp only[];all_goals (cases lA f r <;> rfl)
def u7 (rs:List Ins) (o:Option (List Ins)):Option (List Ins):=o.map λp=>rs++p
theorem sZ {rs:List Ins}{x:Ins}{o:Option (List Ins)}:u7 rs (o.map (x:: ·))=u7 (rs++ [x]) o:=by cases o <;> simp[u7]
theorem KQ {b vb:Nat}(hn:n≤2) (h0:n<1→b=0) (a:n<2→vb=0) (x:Nat):LD x (([b,vb]:List Nat).take n)=(x,b,vb):=by
 match n,hn,h0,a with
 | 0,_,h0,a=>rw[h0 ae,a ae];all_goals rfl
 | 1,_,_,a=>rw[a ae];all_goals rfl
 | 2,_,_,_=>rfl
theorem G6 {s:SV}{xs:List Nat} [hg:Glb G H] [hi:Isa H] [hs:Sl H s eB xs] (hn:xs.length≤100000000) (N:∀x∈xs,x<256):SC G prog 30 [s.val] H (λv S=>(lA xs.length xs=none∧v=.tuple #[.slice none 0 0,G.err 20]∧S=H)∨(∃(s':SV) (l:List Ins),lA xs.length xs=some l∧v=.tuple #[s'.val,.nilIface]∧S=Row s' l7 l::H)):=by
 refine sWk func30 ?_;refine go ?_;refine c1_ rfl (l3 (xs:=xs) a8) ?_;rintro _ _ ⟨R,rfl,rfl⟩;refine eu (dH.nilRow (e:=l7) dH.refl) ?_;refine gk (k:=e8 (Nat×Nat×SV×(List Ins)) (λy=>y.1≤xs.length∧xs.length-y.1≤y.2.1∧lA xs.length xs=u7 y.2.2.2 (lA y.2.1 (xs.drop y.1))∧y.2.2.2.length≤y.1) (λy=>[(4,y.2.2.1.val)]) [(5,_)] (λy=>[Row y.2.2.1 l7 y.2.2.2,Rd R (xs,y.1)]) _ (λy=>xs.length-y.1) ((0,xs.length,SV.nil, [])) (h0:=?_) (k:=?_))
 ·try dsimp only
  exact⟨Yl _,a8,by rw[Va];cases lA xs.length xs <;> simp[u7],Yl _⟩
 rintro⟨k,f,u,out⟩ ⟨hk,hf,a,hol⟩
 try dsimp only[Yd,Ye]at*
 refine go ?_;refine d1_ rfl (G4 a8 a8) (gW (λh1=>?_) (λh1=>?_))
 ·obtain⟨x,hx⟩:∃x,xs[k]? =some x:=⟨_,Yi ao⟩;have hxb:=N x (Yj hx);have M:xs.drop k=x::xs.drop (k+1):=eh hx;have hkl:=(Yk.1 hx).1;obtain⟨f,rfl⟩:∃g,f=g+1:=⟨f-1,a8⟩;rw[M]at a;refine go ?_;refine d1_ rfl (G7 hx a8) (e_ mv (e_ exr (e_ exr (e_ asn (e_ asn (on_ (qn_ (ws_ (wr_ (e_ mv ?_))))))))));refine e_ (ew rfl a8) ?_;refine e_ (bld [(0,_)]) (alc (k:=λh=>?_));refine go ?_;refine c1_ rfl (Wk (op:=x)) ?_;rintro _ _ ⟨(⟨n,q,A,rfl⟩|⟨hno,rfl⟩),rfl⟩
  ·refine go ?_;refine fM (k:=go ?_);refine s_ (ek ePt [(h,1),(h,2)] bH rfl ax) ?_;rintro _ _ ⟨s41,rfl,rfl⟩;refine gk (k:=e8 (Nat×Nat×Nat×Nat) (λy=>(y.1=0∨y.1=1∨y.1=2)∧y.1≤n∧k+1≤y.2.1∧y.2.1≤xs.length∧y.2.2.1<18446744073709551616∧y.2.2.2<18446744073709551616∧(y.1<1→y.2.2.1=0)∧(y.1<2→y.2.2.2=0)∧mO n (xs.drop (k+1))=r9 (([y.2.2.1,y.2.2.2]:List Nat).take y.1) (mO (n-y.1) (xs.drop y.2.1))) (λy=>[(43,iN y.1)]) [(4,_),(5,_),(8,_),(9,_),(41,_),(42,_)] (λy=>[Rd R (xs,y.2.1),Vr h [iN x,uN y.2.2.1,uN y.2.2.2]]) _ (λy=>2-y.1) ((0,k+1,0,0)) (h0:=?_) (k:=?_))
   ·try dsimp only
    exact⟨.inl rfl,Yl _,Xl _,a8,ae,ae,λ_=>rfl,λ_=>rfl,by cases mO n (xs.drop (k+1)) <;> simp[r9]⟩
   rintro⟨j,z,i,vb⟩ ⟨hj,hjn,hkk,r,K,J,hz1,F,b⟩
   try dsimp only[Yd,Ye]at*
   have hpl:([(h,1),(h,2)]:List (Nat×Nat)).length=2:=rfl;refine gW (λh2=>?_) λh2=>?_
   ·have t:j=0∨j=1:=by have h9:=h2;omega
    have hpj:([(h,1),(h,2)]:List (Nat×Nat))[j]? =some (h,j+1):=by rcases t with rfl|rfl <;> rfl
    haveI hspl:∀v:Nat,Spl [iN x,uN i,uN vb] (j+1) [uN v] [iN x,uN (if j=0 then v else i),uN (if j=0 then vb else v)]:=λv=>by
     rcases t with rfl|rfl
     ·exact rW aq rfl
     ·exact rW aq rfl
    refine go ?_;refine gW (λh3=>?_) λh3=>?_
    ·have B:j=n:=by have h9:=h3;omega
     have c:mO n (xs.drop (k+1))=some (([i,vb]:List Nat).take n,xs.drop z):=by rw[b,B,Ui];simp[mO,r9]
     rw[Bp q c,KQ A a8 a8,sZ]at a;refine gk (k:=bm_ (k:=gk (k:=fS l7 (k:=λE=>?_))));refine app (k:=λp=>?_);refine go ?_;refine lN ((z,f,p,out++ [(x,i,vb)])) ?_
     exact⟨r,a8,a,cG⟩
    have d:j<n:=aD;refine go ?_;refine c1_ rfl (oG r a8 N) ?_;rintro _ _ (⟨e,he,rfl,rfl⟩|⟨v,m,he,rfl,rfl⟩)
    ·rw[DN he d]at b;rw[zZ q b]at a;refine e_ mv (e_ exr (e_ exr (e_ asn (e_ asn (on_ (qn_ (ws_ (ws_ (wr_ (e_ mv ?_))))))))));refine e_ (eg rfl) ?_;refine gk (k:=ift (k:=go ?_));refine dX dN (go ?_);refine gR ?_;exact⟨_,hsb,.inl ⟨a,rfl,rfl⟩⟩
    obtain⟨q1,q2,q3,T,q5,q6⟩:=k7 _ 0 v m (λy hy=>N y (Yp hy)) a8 he;rw[Yo]at T;rw[Ab he d,Vt]at b;refine e_ mv (e_ exr (e_ exr (e_ asn (e_ asn (on_ (qn_ (ws_ (ws_ (wr_ (e_ mv ?_))))))))));refine e_ (dL rfl) ?_;refine gk (k:=fM (k:=go ?_));refine go ?_;refine lN ((j+1,z+m,(if j=0 then v else i),(if j=0 then vb else v))) ?_
    try dsimp only
    rcases t with rfl|rfl
    ·exact⟨.inr (.inl rfl),d,a8,a8,by simpa using (by omega:v<18446744073709551616),by simpa using J,a8,λ_=>by simpa using F ae,by simpa using b⟩
    ·exact⟨.inr (.inr rfl),d,a8,a8,by simpa using K,by simpa using (by omega:v<18446744073709551616),a8,a8,by simpa using b⟩
   have C:j=2∧n=2:=aw;have c:mO n (xs.drop (k+1))=some (([i,vb]:List Nat).take n,xs.drop z):=by rw[b,C.1,C.2];simp[mO,r9]
   rw[Bp q c,KQ A a8 a8,sZ]at a;refine gk (k:=fS l7 (k:=λE=>?_));refine app (k:=λp=>?_);refine go ?_;refine lN ((z,f,p,out++ [(x,i,vb)])) ?_
   exact⟨r,a8,a,cG⟩
  rw[A0 hno]at a;refine go ?_;refine ift (k:=go ?_);refine dX dN (gR ?_);exact⟨_,hsb,.inl ⟨a,rfl,rfl⟩⟩
 have L:k=xs.length:=ao;rw[L,Vi,DA]at a;have w:lA xs.length xs=some out:=by rw[a];simp[u7]
 refine gR ?_;exact⟨_,hsb,.inr ⟨u,out,w,rfl,rfl⟩⟩
end
section
variable {G:dJ}{H:dD}{a:PrA}{h i n op:Nat}{p:PrG}{tb:Hs}{x:Ins}
theorem Hu:∀(n:Nat) (l vs r:List Nat),(∀x∈l,x<256)→mO n l=some (vs,r)→(∀v∈vs,v<18446744073709551616)∧(∀x∈r,x<256)∧r.length≤l.length
 | 0,l,vs,r,hb,h=>by cases h;exact⟨aq,hb,Xl _⟩
 |n+1,l,vs,r,hb,h=>by
  rw[mO]at h
  split at h
  ·cases h
  ·rename_i v m hv;obtain⟨e,p2,p3,p4,p5,p6⟩:=k7 l 0 v m hb a8 hv
   split at h
   ·cases h
   ·rename_i ws r2 a;cases h;obtain⟨d,c,b⟩:=Hu n _ _ _ (λx hx=>hb x (Yp hx)) a;refine⟨λx hx=>?_,c,by rw[Yo]at b;omega⟩;rcases Xo.1 hx with rfl|hx
    ·exact e
    ·exact d x hx
theorem GX {vs:List Nat}{M:Nat}(h:∀v∈vs,v<M) (a:0<M) (i:Nat):vs.getD i 0<M:=by
 rw[Xj];cases hc:vs[i]? with
 |none=>exact a
 |some q=>exact h q (Yj hc)
theorem wG:∀(n:Nat) (l:List Nat) (xs:List Ins),(∀x∈l,x<256)→lA n l=some xs→(∀x∈xs,x.2.1<18446744073709551616∧x.2.2<18446744073709551616)∧xs.length≤l.length
 | 0,l,xs,hb,h=>by cases h;exact⟨aq,Yl _⟩
 |n+1, [],xs,hb,h=>by cases h;exact⟨aq,Yl _⟩
 |n+1,op::l,xs,hb,h=>by
  rw[lA]at h
  split at h
  ·cases h
  ·rename_i m hm
   split at h
   ·cases h
   ·rename_i vs r hv;obtain⟨a,c,q3⟩:=Hu m _ _ _ (λx hx=>hb x (by simp[hx])) hv
    split at h
    ·cases h
    ·rename_i ys hy;cases h;obtain⟨b,s2⟩:=wG n _ _ c hy;refine⟨λx hx=>?_,by simp only[Yb];omega⟩;rcases Xo.1 hx with rfl|hx
     ·exact⟨GX a ae 0,GX a ae 1⟩
     ·exact b x hx
theorem YK {a:List Ins}{f h0:Nat}(hx:a.getD i (0,0,0)=x) (hh:tb.getD i none=some h0):jr p a (f+1) i tb=(match jw x h0 with
 |none=>none
 |some h=>if decide (i+1=a.length)=decide (x.1=0)∧ng p x=true then
  if i+1=a.length then some tb else
  match kD tb (i+1) h with
  |none=>none
  |some tb1=>if sX x=true then
   if a.length-2-i<x.2.1 then none else
   match kD tb1 (i+1+x.2.1) h with
   |none=>none
   |some tb2=>jr p a f (i+1) tb2
   else jr p a f (i+1) tb1
  else none):=by rw[jr,hx,hh];all_goals rfl
theorem Hc {v:Value}(he:Qw x h v):∃(k:Int) (b:Bool),(b=true→∃a:Nat,jw x h=some a∧k=(a:Int))∧(b=false→jw x h=none)∧v=.tuple #[.int .i64 k,.bool b]:=by
 rcases he with⟨a,h1,h2⟩|⟨h1,k,h2⟩
 ·exact⟨_,true,λ_=>⟨a,h1,rfl⟩,λh=>(bx),h2⟩
 ·exact⟨k,false,λh=>(bx),λ_=>h1,h2⟩
theorem JV {A B:Nat}(hh:h≤1000000000) (hA:A<18446744073709551616):SC G prog 128 [.agg #[iN op,uN A,uN B],iN h] H (λv c=>(∃(k:Int) (b:Bool),(b=true→∃a:Nat,jw (op,A,B) h=some a∧k=(a:Int))∧(b=false→jw (op,A,B) h=none)∧v=.tuple #[.int .i64 k,.bool b])∧c=H):=
 (NR hh hA).mono (λ_ _ h=>⟨Hc h.1,h.2⟩)
theorem Hb {a:Nat}(he:jw x h=some a):a≤h+1:=by
 obtain⟨op,A,B⟩:=x
 by_cases h1:1≤op∧op≤5
 ·rw[MB h1.1 h1.2]at he;cases he;exact Xl _
 by_cases h2:6≤op∧op≤10
 ·rw[Fv h2.1 h2.2]at he;split at he;cases he;omega;cases he
 by_cases h3:op=14
 ·subst h3;simp only[jw]at he;split at he;cases he;cases he;omega
 by_cases h4:op=0
 ·subst h4;simp only[jw]at he;split at he;cases he;omega;cases he
 ·rw[UH h4 a8 h3]at he;split at he;cases he;omega;cases he
theorem tV {a:Hs}(he:kD tb i h=some a) (hi:i<tb.length):a.getD i none=some h∧∀j k,a.getD j none=some k→k=h∨tb.getD j none=some k:=by
 unfold kD at he
 split at he
 ·cases he;refine⟨uc hi,λj k hk=>?_⟩;rw[Xj,Vf]at hk
  by_cases hij:i=j
  ·subst hij;rw[if_pos rfl,if_pos hi]at hk;left;exact(Xk hk).symm
  ·rw[if_neg hij,←Xj]at hk;right;exact hk
 ·rename_i k hk
  split at he
  ·rename_i b;cases he;subst b;exact⟨hk,λj k h=>.inr h⟩
  ·cases he
theorem zt {a:Hs}{j k:Nat}(he:kD tb i h=some a) (hj:tb.getD j none=some k):a.getD j none=some k:=by
 unfold kD at he
 split at he
 ·rename_i hn;cases he;rw[Xj,Vf,if_neg (by rintro rfl;rw[hn]at hj;cases hj),←Xj];exact hj
 ·split at he
  ·cases he;exact hj
  ·cases he
theorem GR {j:Nat}(hh:(hs0 n).getD j none=some h):h=0:=by
 rw[hs0,Xj,Vf]at hh
 split at hh
 ·split at hh
  ·cases hh;rfl
  ·cases hh
 ·rw[S2]at hh
  split at hh <;> cases hh
theorem FN {ys:List Int}(hl:ys.length=n) (hy:∀j,j<n→ys[j]? =some (-1)):ys=hsI (List.replicate n none):=by
 apply Vz;intro j;rw[Xd,S2]
 by_cases hj:j<n
 ·rw[hy j hj,if_pos hj];all_goals rfl
 ·rw[Xz a8,if_neg hj];all_goals rfl
theorem GQ:(hsI (List.replicate n none)).set 0 0=hsI (hs0 n):=wy (h:=0)
theorem ET {A B:Nat}(h:op=15∨op=16):sX (op,A,B)=true:=by rcases h with rfl|rfl <;> rfl
theorem Lz {A B:Nat}(h:¬(op=15∨op=16)):sX (op,A,B)=false:=by
 rw[sX];simp only[Yr (show ¬op=15 from a8),Yr (show ¬op=16 from a8),Bool.or_self]
theorem xP (hn:i<n):(decide (((i:Nat):Int)=(n:Int)-1) !=decide (((op:Nat):Int)=0))= !decide (decide (i+1=n)=decide (op=0)):=by
 rw[show decide (((i:Nat):Int)=(n:Int)-1)=decide (i+1=n)from Vm.2 a8,show decide (((op:Nat):Int)=0)=decide (op=0)from Vm.2 a8];cases decide (i+1=n) <;> cases decide (op=0) <;> rfl
theorem JR [hg:Glb G H] [hia:Isa H] [hp:il H a p] [hpc:pk H a p] (f:Bz p):SC G prog 52 [.agg (prV a p.all).toArray] H (λv H'=>(gA p=none∧v=.tuple #[.slice none 0 0,.int .i64 0]∧H'=H)∨(∃(tb:Hs) (sl:SV) (g:Int),gA p=some tb∧0<tb.length∧v=.tuple #[sl.val,.int .i64 g]∧H'=Row sl eI (hsI tb)::H)):=by
 have hk1:=f.k;have Z:=f.a;have Y:=f.c;have X:=f.n;refine sWk func52 ?_;refine gk (k:=bxx (k:=λb1=>?_));refine go ?_;refine c1_ rfl (G6 f.k f.cb) ?_;rintro _ _ (⟨a4,rfl,rfl⟩|⟨sc,c,K,rfl,rfl⟩)
 ·have hno:gA p=none:=by rw[gA,lu,a4]
  refine e_ mv (e_ exr (e_ exr (e_ asn (e_ asn (on_ (qn_ (ws_ (ws_ (wr_ (e_ mv ?_))))))))));refine e_ (eg rfl) ?_;refine gk (k:=ift (k:=go ?_));refine gR ?_;exact⟨_,hsb,.inl ⟨hno,rfl,rfl⟩⟩
 obtain⟨a1,hcl⟩:=wG _ _ _ f.cb K;have L:gA p=if c.length=0∨iP p=false then none else jr p c c.length 0 (hs0 c.length):=by rw[gA,lu,K]
 refine e_ mv (e_ exr (e_ exr (e_ asn (e_ asn (on_ (qn_ (ws_ (ws_ (wr_ (e_ mv ?_))))))))));refine e_ (dL rfl) ?_;refine gk (k:=ep 4 32 (k:=λh1=>gk (k:=iU (vs:=[_]) (hc:=(ND f)) (k:=gk (k:=edq)))) (q:=gW (λh2=>?_) (λh2=>?_)))
 ·have hno:gA p=none:=by rw[L,if_pos aO]
  refine gR ?_;exact⟨_,hsb,.inl ⟨hno,rfl,rfl⟩⟩
 have E:gA p=jr p c c.length 0 (hs0 c.length):=by rw[L,if_neg aO]
 have F:0<c.length:=aw;have hrp:(List.replicate c.length (0:Int)).length=c.length:=Xe;refine go ?_;refine s_ (gn eI 0 rfl rfl _ _ rfl rfl rfl a8 a8 a8) ?_;rintro _ _ ⟨e,rfl,hs35n,hs35c,rfl⟩;refine alc (k:=λR=>?_);refine gk (k:=e8 (Nat×(List Int)) (λy=>y.1≤c.length∧y.2.length=c.length∧∀j,j<y.1→y.2[j]? =some (-1)) (λy=>[(38,iN y.1)]) [(1,_),(4,_),(6,_),(37,_)] (λy=>[Row e eI y.2]) _ (λy=>c.length-y.1) ((0,List.replicate c.length 0)) (h0:=?_) (k:=?_))
 ·exact⟨Yl _,Xe,λj hj=>absurd hj (Up j)⟩
 rintro⟨i,ys⟩ ⟨hi,z,C⟩
 try dsimp only[Yd,Ye]at*
 refine gW (λh3=>?_) λh3=>?_
 ·refine go ?_;refine s_ (et (a:=(-1:Int)) rfl rfl bH a8) ?_;rintro _ _ ⟨rfl,rfl⟩;refine go ?_;refine lN ((i+1,ys.set i (-1))) ?_
  try dsimp only
  exact⟨a8,by rw[Ub];exact z,λj hj=>by
   rw[Vf]
   by_cases hij:i=j
   ·subst hij;rw[if_pos rfl,if_pos a8]
   ·rw[if_neg hij];exact C j a8⟩
 obtain rfl:ys=hsI (List.replicate c.length none):=FN z (λj hj=>C j aD);refine we_ (qe_ (le_ (bh_ (qn_ (ws_ (wr_ (e_ ldv (e_ (ixa (i:=0)) ?_))))))));refine s_ (et (i:=0) (a:=(0:Int)) rfl rfl bH a8) ?_;rintro _ _ ⟨rfl,rfl⟩;rw[GQ];refine on_ (qn_ (ws_ (wr_ (e_ asn (on_ (qn_ (ws_ (wr_ (e_ mkf (go ?_))))))))));refine gk (k:=e8 (Nat×Hs×Int×Nat) (λy=>y.1<c.length∧y.2.1.length=c.length∧gA p=jr p c (c.length-y.1) y.1 y.2.1∧y.2.1.getD y.1 none=some y.2.2.2∧∀j k,y.2.1.getD j none=some k→k≤y.1) (λy=>[(8,.int .i64 y.2.2.1),(50,iN y.1)]) [(1,_),(4,_),(6,_),(9,_),(48,_),(49,_)] (λy=>[Row e eI (hsI y.2.1)]) _ (λy=>c.length-y.1) ((0,hs0 c.length,0,0)) (h0:=?_) (k:=?_))
 ·try dsimp only
  exact⟨F,by rw[hs0,Ub,Xe],by rw[R8];exact E,by rw[hs0];exact uc (by rw[Xe];exact F),λj k hk=>by rw[GR hk];exact Xl _⟩
 rintro⟨i,tb,g,h0⟩ ⟨J,V,a5,t,hkb⟩
 try dsimp only[Yd,Ye]at*
 refine gW (λh4=>?_) λh4=>?_
 ·obtain⟨x,hx⟩:=gE c i;have U:=a1 x (Yj hx);have a2:c.getD i (0,0,0)=x:=by rw[Xj,hx];all_goals rfl
  obtain⟨op,A,B⟩:=x;obtain⟨hA,hB⟩:=U;simp only at hA hB;have hh0i:=hkb i h0 t;have r:(hsI tb)[i]? =some (h0:Int):=(pV a8).trans (by rw[t,ohI]);have d:=a5;rw[show c.length-i=(c.length-(i+1))+1 from a8,YK a2 t]at d;have hrl:(hsI tb).length=c.length:=by rw[Yh];exact V
  refine wk_ (qn_ (ws_ (wb_ (ws_ (wr_ (e_ mv (e_ ixa (e_ (gr (hy:=hx)) (alc (k:=λa7=>?_))))))))));refine e_ asn (sto (k:=on_ (qn_ (ws_ (wr_ ?_)))));dsimp only;refine go ?_;refine wD [5] (λk H=>(k=0→dQ H a7 [iN op,uN A,uN B])∧(k=1→dQ H R [e.val])∧(k=3→Sl H e eI (hsI tb))∧(k=4→Sl H e eI (hsI tb))) ?_;refine aN 0 rfl (λH hH=>aX) ?_;refine aN 1 rfl (λH hH=>ar) ?_;refine aF 2 (k:=?_);refine aN 3 rfl (λH hH=>aG) ?_;refine aN 4 rfl (λH hH=>by have hN:=hH.2.2.2 rfl;exact lel (hy:=r)) ?_;refine aS 5 rfl (lU (vs:= [_,_]) rfl (JV (op:=op) (A:=A) (B:=B) (h:=h0) a8 hA)) ?_;rintro _ _ ⟨⟨kk,bb,M,a6,rfl⟩,rfl⟩;refine gk (k:=aZ (gk (k:=ep 6 77 (k:=λh5=>gk (k:=eg_ (vZ rfl rfl) (gk (k:=edq)))) (q:=?_))));refine gk (k:=ep 5 83 (k:=λh6=>gk (k:=iU (vs:=[_,_]) (hc:=(HP (p:=p) hA hB ⟨Z,Y,X⟩)) (k:=gk (k:=edq)))) (q:=gW (λh7=>?_) (λh7=>?_)))
  ·have hno:gA p=none:=by
    have h9:=h7;cases hb9:bb with
    |false=>rw[a6 hb9]at d;exact d
    |true=>
     obtain⟨u,he,rfl⟩:=M hb9;rw[he]at d;simp only at d;rw[if_neg]at d
     ·exact d
     ·rintro⟨c1,c2⟩;rw[xP J,Ys c1,c2,hb9]at h9;rcases h9 with(h9|h9)|h9
      ·exact absurd h9 ae
      ·exact absurd h9 ae
      ·exact absurd h9 ae
   refine gR ?_;exact⟨_,hsb,.inl ⟨hno,rfl,rfl⟩⟩
  have S:=h7;obtain rfl:bb=true:=by
   cases hb9:bb with
   |false=>rw[hb9]at S;exact absurd S.1.1 ae
   |true=>rfl
  obtain⟨u,he,rfl⟩:=M rfl;have hle:=Hb he;rw[he]at d;simp only at d;rw[if_pos ⟨by have h9:=S.1.2;rw[xP J]at h9;simpa using h9,S.2⟩]at d;refine wk_ (qn_ (ws_ (wr_ (e_ mv (e_ ldv (e_ mv (e_ ixa (e_ (lel (hy:=r)) (e_ mv ?_)))))))));refine e_ (PM rfl rfl rfl) ?_;refine gW (λh8=>?_) λh8=>?_
  ·have s:i+1=c.length:=by have h9:=h8;omega
   rw[if_pos s]at d;refine gk (k:=bm_ (k:=go ?_));refine gR ?_;exact⟨_,hsb,.inr ⟨tb,e,_,d,a8,rfl,rfl⟩⟩
  have a0:¬i+1=c.length:=by have h9:=h8;omega
  rw[if_neg a0]at d;refine go ?_;refine s_ (qM (fi:= []) (ca:= [pA R]) (vs:= [_,_]) rfl rfl (QI (sl:=e) (b:=R) (hs:=tb) (i:=i+1) (h:=u) a8)) ?_;rintro _ _ (⟨w,n,rfl,rfl⟩|⟨n,rfl,rfl⟩)
  ·rw[n]at d;simp only at d;have hl1:=tU n;obtain⟨hg1,hg2⟩:=tV n a8;refine gk (k:=fM (k:=gk (k:=ep 4 105 (k:=λh9=>gk (k:=edq)) (q:=go ?_))));refine gW (λh10=>?_) λh10=>?_
   ·rw[if_pos (ET cg)]at d;refine ws_ (wr_ (e_ fla (e_ ldv (e_ mv (e_ lnn (e_ isb (e_ mv (e_ isb ?_))))))));refine e_ (dW 18446744073709551616 rfl rfl rfl (c.length-2-i) a8 a8) ?_;refine e_ igt (sp_ mv (k:=λh11=>?_) (m:=λh11=>?_))
    ·have N:c.length-2-i<A:=by have h9:=h11;omega
     rw[if_pos N]at d;refine gk (k:=ift (k:=?_));refine gR ?_;exact⟨_,hsb,.inl ⟨d,rfl,rfl⟩⟩
    have hsm:¬c.length-2-i<A:=bE;rw[if_neg hsm]at d;refine go ?_;refine eg_ (ew rfl a8) (go ?_);refine sg_ (qM (fi:= []) (ca:= [pA R]) (vs:= [_,_]) rfl rfl (QI (sl:=e) (b:=R) (hs:=w) (i:=i+1+A) (h:=u) a8)) (k:=?_);rintro _ _ (⟨T,l,rfl,rfl⟩|⟨l,rfl,rfl⟩)
    ·rw[l]at d;simp only at d;have hl2:=tU l;obtain⟨hg3,hg4⟩:=tV l a8;have a3:=zt l hg1;refine gk (k:=fM (k:=go ?_));refine lN ((i+1,T,max (max g (h0:Int)) (u:Int),u)) ?_
     exact⟨a8,a8,d,a3,λj k hk=>cH⟩
    rw[l]at d;refine gk (k:=ift (k:=go ?_));refine gR ?_;exact⟨_,hsb,.inl ⟨d,rfl,rfl⟩⟩
   rw[if_neg (by rw[Lz cg];decide)]at d;refine go ?_;refine lN ((i+1,w,max (max g (h0:Int)) (u:Int),u)) ?_
   try dsimp only
   exact⟨a8,a8,d,hg1,λj k hk=>by rcases hg2 j k hk with h9|h9;omega;have:=hkb j k h9;omega⟩
  rw[n]at d;refine gk (k:=ift (k:=go ?_));refine gR ?_;exact⟨_,hsb,.inl ⟨d,rfl,rfl⟩⟩
 exact absurd h4 a8
theorem Sm [hg:Glb G H] [hia:Isa H] [hp:il H a p] [hpc:pk H a p] (d:Bz p):SC G prog 26 [.agg (prV a p.all).toArray] H (λv g=>((gA p=none∧v=.tuple #[.agg #[.int .i64 0,.int .i64 0],G.err 20])∨(∃(tb:Hs) (n b:Int),gA p=some tb∧v=.tuple #[.agg #[.int .i64 n,.int .i64 b],.nilIface]))∧g=H):=by
 refine sWk func26 ?_;refine gk (k:=bxx (k:=λb1=>?_));refine alc (k:=λb2=>?_);refine go ?_;refine c1_ rfl (JR d) ?_;rintro _ _ (⟨hno,rfl,rfl⟩|⟨tb,sl,b,f,c,rfl,rfl⟩)
 ·refine e_ mv (e_ exr (e_ exr (e_ asn (e_ asn (on_ (qn_ (ws_ (ws_ (wr_ (e_ mv ?_))))))))));refine e_ (yQ rfl) ?_;refine gW (λh1=>?_) λh1=>?_
  ·refine go ?_;refine wD [2] (λk H=>(k=1→dQ H 16 [G.err 20])) (af_ 0 (q:=ea λH hH=>bld []) (k:=?_));refine go ?_;refine aS 2 rfl (ej rfl rfl rfl) ?_;rintro _ _ ⟨rfl,rfl⟩;refine gk (k:=aZ (gR ?_));exact⟨_,hsb,.inl ⟨hno,rfl⟩,rfl⟩
  exact absurd h1 ae
 have e:hsI tb≠ []:=by intro h9;rw[hsI,List.map_eq_nil_iff]at h9;rw[h9]at c;exact Nat.lt_irrefl _ c
 refine e_ mv (e_ exr (e_ exr (e_ asn (e_ asn (on_ (qn_ (ws_ (ws_ (wr_ (e_ mv ?_))))))))));refine e_ (sH rfl e) ?_;refine gW (λh2=>?_) λh2=>?_
 ·exact absurd h2 ae
 refine wk_ (qn_ (ws_ (wr_ (e_ mv (e_ lnn (e_ mv (e_ (bld [(0,_),(1,_)]) (gR ?_))))))));exact⟨_,hsb,.inr ⟨tb,_,_,f,rfl⟩,rfl⟩
end
section
variable {H:dD}{ds:List Doc}{fs:List FV}
structure DW (H:dD) (a:PtA) (fs:List FV) (ds:List Doc):Prop where
 g:dQ H a.g [a.fv.val,a.dv.val,a.lv.val,.pointer (some ⟨a.w,0,none⟩),a.bl.val,a.im.val]
 w:dQ H a.w [a.ev.val]
 fv:Sl H a.fv eF fs
 dv:Sl H a.dv eD a.l
 docs:gK H a.l ds
 lv:Sl H a.lv eSV a.lvs
 lens:a.lvs.length=fs.length∧∀i s,a.lvs[i]? =some s→Sl H s eI (dT (eL fs ds i))
 ev:Sl H a.ev eEn (j8 0 (eE (fU fs ds)))
 bl:Sl H a.bl eB (eV (eE (fU fs ds)))
theorem DW.less {H':dD}{a:PtA}(hs:dH H' H) (h:DW H a fs ds):DW H' a fs ds:=⟨lM hs h.g,lM hs h.w,ee hs h.fv,ee hs h.dv,h.docs.less hs,ee hs h.lv,⟨h.lens.1,λi s hi=>ee hs (h.lens.2 i s hi)⟩,ee hs h.ev,ee hs h.bl⟩
theorem n4 {F:dD}:dH (eU F::H) F:=λL hL=>by
 obtain⟨L1,L2,rfl,h1,_⟩:=tA hL;exact⟨L1,L2,h1,List.Perm.refl _⟩
theorem GJ {R:dD}{zs:List (SV×List Nat)}(hr:nR H (Cl lnH zs) R) (h:zs.map (·.2)=(List.range fs.length).map (eL fs ds)):(zs.map (·.1)).length=fs.length∧∀i s,(zs.map (·.1))[i]? =some s→Sl H s eI (dT (eL fs ds i)):=by
 have hl:zs.length=fs.length:=by have:=congrArg List.length h;simpa using this
 refine⟨by rw[Yh,hl],λi s hi=>?_⟩;rw[Xd]at hi;cases hz:zs[i]? with
 |none=>rw[hz]at hi;cases hi
 |some z=>
  rw[hz]at hi;cases hi;have h1:=congrArg (λl=>l[i]?) h;have hil:=(Yk.1 hz).1;simp only[Xd,hz,Ur (show i<fs.length from a8),Vs]at h1;have:=Ra hr hz;rw[Xk h1]at this;exact this
theorem RL {G:dJ}{fv s:SV} [hg:Glb G H] [Tab H 27 oc] [Tab H 25 mA] [hf:Sl H fv eF fs] [hs:Sl H s eB (Ck fs ds)] [Spc H] (hT:kh G) (hS:ot) (Z:sg fs ds=0) (L:dsz ds≤30000000) (R:(fU fs ds).length≤2000000) (hn:(Ck fs ds).length≤1000000000):
 SC G prog 47 [.agg #[fv.val],s.val] H (λv H'=>∃(a:PtA) (F:dD),DW F a fs ds∧v=.tuple #[pA a.g,.nilIface]∧H'=eU F::H):=by
 have p:=qg Z L R;have hc:=p.chk;obtain⟨a1,a0⟩:=jx hc;have b1:fs≠ []:=λh=>by rw[h]at a1;simp at a1
 have t:=p.blocks;have hb:∀x∈Ck fs ds,x<256:=Pr ae (λq y=>⟨(t.1 q y).2.1,(t.1 q y).2.2⟩);have M:mC 83 (Ck fs ds)=some (oC fs ds):=Eu ae ae (by simp[oC]) (λq y=>by
  obtain⟨a,b,c⟩:=t.1 q y;have:=uj y;exact⟨a,b,c,by have:=t.2.1;omega⟩)
 have Y:=Dt p;have E:=p.few;have hsB:=kX (fs:=fs) (ds:=ds) a8 p.q;have hiB:(pU ds).length≤10*4096+6:=by
  have h7:=rB (l:=ds.map (·.1)) p.pos (λx hx=>by obtain⟨d,hd,rfl⟩:=Xt.1 hx;have:=p.ids d hd;omega);rw[Yh]at h7;have h8:=gb (n:=ds.length) (k:=6) a8 a8;rw[pU,Ya];omega
 refine sWk func47 ?_;refine gk (k:=bxx (k:=λb2=>?_));refine go ?_;refine c1_ rfl (AF (fs:=fs) a8 (λf hf=>by have:=(a0 f hf).1;omega)) ?_;rintro _ _ ⟨rfl,(⟨a2,rfl⟩|⟨a2,rfl⟩)⟩
 ·exact absurd a2 (by rw[hc];decide)
 refine e_ asn (on_ (qn_ (ws_ (wr_ (e_ mv ?_)))));refine e_ (dL rfl) ?_;refine gk (k:=fM (k:=go ?_));refine c2_ rfl (PA 83 ae a8 hb) ?_;rintro _ _ (⟨hr,rfl,e,rfl⟩|⟨bl,w,F0,j,hr,hB,rfl,rfl⟩)
 ·rw[M]at hr;cases hr
 rw[M]at hr;obtain rfl:=Xk hr;have y:=a0e hb M;have hlb:=hB.1;have A:(oC fs ds).length=6:=rfl;refine e_ mv (e_ exr (e_ exr (e_ asn (e_ asn (on_ (qn_ (ws_ (ws_ (wr_ (e_ mv ?_))))))))));refine e_ (dL rfl) ?_;refine gW (λh1=>?_) λh1=>?_
 ·exact absurd h1 a8
 obtain⟨p1,q1,hp1,V,a9⟩:=hB.at6 (i:=1) (by rw[A];decide);obtain⟨p3,q3,hp3,U,a7⟩:=hB.at6 (i:=3) (by rw[A];decide);obtain⟨p4,q4,hp4,b0,S⟩:=hB.at6 (i:=4) (by rw[A];decide);obtain⟨p5,q5,hp5,T,a6⟩:=hB.at6 (i:=5) (by rw[A];decide);obtain⟨a4,b4⟩:=y _ (Yj V);obtain⟨hb3,X⟩:=y _ (Yj U);obtain⟨a3,b3⟩:=y _ (Yj T);obtain rfl:(2,pU ds)=q1:=Xk V;obtain rfl:(4,iC (j8 0 (eE (fU fs ds))))=q3:=Xk U;obtain rfl:(5,eV (eE (fU fs ds)))=q4:=Xk b0;obtain rfl:(6,gm fs ds)=q5:=Xk T;simp only at a9 a7 S a6 a4 a3 b4 X b3;refine go ?_;refine wD [9] (λk H=>(k=0→dQ H b2 [fv.val])∧(k=2→Sl H j eK w)∧(k=3→Sl H j eK w)∧(k=4→Sl H j eK w)∧(k=6→Sl H j eK w)∧(k=7→Sl H j eK w)∧(k=8→Sl H j eK w)) ?_;refine aN 0 rfl (λH hH=>aX) ?_;refine aF 1 (k:=?_);refine aN 2 rfl (λH hH=>by have hN:=hH.2.1 rfl;exact ixa (i:=1)) ?_;refine aN 3 rfl (λH hH=>by have hN:=hH.2.2.1 rfl;exact fle) ?_;refine aN 4 rfl (λH hH=>by have hN:=hH.2.2.2.1 rfl;exact lfl) ?_;refine aF 5 (k:=?_);refine aN 6 rfl (λH hH=>by have hN:=hH.2.2.2.2.1 rfl;exact ixa (i:=5)) ?_;refine aN 7 rfl (λH hH=>by have hN:=hH.2.2.2.2.2.1 rfl;exact fle) (go ?_);refine aS 9 rfl (lU (vs:= [_,_,_]) rfl (Wi (ids:=pU ds) (body:=gm fs ds) hc a8 a8 a4 a3)) ?_;rintro _ _ (⟨hd,m,rfl,rfl⟩|⟨zs,m,hd,rfl,rfl⟩)
 ·rw[Y]at hd;cases hd
 rw[Y]at hd;obtain rfl:=Xk hd;have hzm:(zs.map dgV).length=zs.length:=Yh ..;have hk2:∀d∈zs.map dgD,d.2.length≤64∧∀v∈d.2,v.2.size≤4096:=λd hd=>by
  obtain⟨g1,g2⟩:=np (p.vals d hd);exact⟨g1,λv hv=>(g2 v hv).1⟩
 have hfew2:zs.length≤4096:=by rw[Yh]at E;exact E
 refine gk (k:=aZ (go ?_));refine fM (k:=go ?_);refine c2_ rfl (JY (ds:=zs.map dgD) hT hS (yr (zs:=zs) inferInstance) a8 (λf hf=>by have:=(a0 f hf).1;omega) a8 (λd hd=>⟨dz,λv hv=>by have:=(hk2 d hd).2 v hv;omega⟩) L R) ?_;rintro _ _ (⟨J,u,rfl,rfl⟩|⟨J,ke,hke,rfl,rfl⟩)
 ·refine e_ mv (e_ exr (e_ exr (e_ asn (e_ asn (on_ (qn_ (ws_ (ws_ (wr_ (e_ mv ?_))))))))));refine e_ (dL rfl) (go ?_);refine sg_ (v2_ (Qj hb hb)) (k:=?_);rintro _ _ ⟨rfl,rfl⟩;refine gW (λh2=>?_) λh2=>?_
  ·exact absurd h2 aq
  have hrl:=tJ (fU fs (zs.map dgD));have hdl:(iC (j8 0 (eE (fU fs (zs.map dgD))))).length≤1000000000:=Xi X hn;refine wk_ (qn_ (ws_ (wr_ (e_ mv (e_ (ixa (i:=3)) (go ?_))))));refine c1_ rfl (HR (l:=j8 0 (eE (fU fs (zs.map dgD)))) t.2.2.1 (by rw[ka];omega) hdl) ?_;rintro _ _ ⟨N,r,rfl,rfl⟩;refine e_ mv (e_ exr (e_ exr (e_ asn (e_ asn (on_ (qn_ (ws_ (ws_ (wr_ (e_ mv ?_))))))))));refine e_ (dL rfl) ?_;refine gk (k:=fM (k:=go ?_));refine c1_ rfl (MJ (fs:=fs) b1 a8) ?_;rintro _ _ ⟨g,rfl,rfl⟩;refine e_ (bld [(0,_)]) (alc (k:=λa5=>?_));refine go ?_;refine wD [4,7,15] (λk H=>(k=0→dQ H a5 [g.val])∧(k=2→dQ H a5 [g.val])∧(k=10→Sl H j eK w)∧(k=11→Sl H j eK w)∧(k=12→Sl H j eK w)) ?_;refine aN 0 rfl (λH hH=>aX) ?_;refine aF 1 (k:=?_);refine aN 2 rfl (λH hH=>by have hN:=hH.2.1 rfl;exact lds) ?_;refine aF 3 (k:=aF 8 (k:=aF 9 (k:=?_)));refine aN 10 rfl (λH hH=>by have hN:=hH.2.2.1 rfl;exact ixa (i:=4)) ?_;refine aN 11 rfl (λH hH=>by have hN:=hH.2.2.2.1 rfl;exact fle) ?_;refine aN 12 rfl (λH hH=>by have hN:=hH.2.2.2.2 rfl;exact lfl) ?_;refine aF 13 (k:=?_);refine aS 4 rfl (lU (vs:= [_,_]) rfl (G5 (ds:=zs.map dgD) hT (yr (zs:=zs) inferInstance) a8 a8 (λd hd=>⟨dz,λv hv=>by have:=(hk2 d hd).2 v hv;omega⟩) L)) ?_;rintro _ _ ⟨gg,K,rr,C,rfl,hzz,rfl⟩;haveI:=S;refine aF 5 (k:=aF 6 (k:=?_));refine aS 7 rfl (Ev.st ldv) ?_;rintro _ _ ⟨rfl,rfl⟩;refine af_ 14 (q:=ea λH hH=>bld [(0,_),(1,_),(2,_),(3,_),(4,_),(5,_)]) (k:=?_);refine aS 15 rfl (x9 rfl) ?_;rintro _ _ ⟨B,rfl,rfl⟩;refine gk (k:=aZ (gR ?_));refine⟨_,?_,⟨0,B,0,N,g,m,K,r,p4.2,u,SV.nil,0,zs.map dgV,C.map λz:SV×List Nat=>z.1⟩, [Vr B [g.val,m.val,K.val,pA N,p4.2.val,u.val],Row g eF fs,Row m eD (zs.map dgV),Cl dgH zs,Row K eSV (C.map λz:SV×List Nat=>z.1),Cl lnH C,Vr N [r.val],Row r eEn (j8 0 (eE (fU fs (zs.map dgD)))),eU F0],⟨inferInstance,inferInstance,inferInstance,inferInstance,yr (zs:=zs) inferInstance,inferInstance,GJ (zs:=C) inferInstance hzz,inferInstance,inferInstance⟩,rfl,rfl⟩;exact dH.trans (H':=Vr B [g.val,m.val,K.val,pA N,p4.2.val,u.val]::Row g eF fs::Row m eD (zs.map dgV)::Cl dgH zs::Row K eSV (C.map λz:SV×List Nat=>z.1)::Cl lnH C::Vr N [r.val]::Row r eEn (j8 0 (eE (fU fs (zs.map dgD))))::eU F0::H) hsb (dH.star (F:= [Vr B [g.val,m.val,K.val,pA N,p4.2.val,u.val],Row g eF fs,Row m eD (zs.map dgV),Cl dgH zs,Row K eSV (C.map λz:SV×List Nat=>z.1),Cl lnH C,Vr N [r.val],Row r eEn (j8 0 (eE (fU fs (zs.map dgD)))),eU F0]) dH.refl)
 exact absurd Z J
end
section
variable {a:PtA}{ds:List Doc}{fs:List FV}
theorem wZ {G:dJ}{H:dD}{s:SV} [Sl H s eF fs] (hn:fs.length≤1000000000):SC G prog 22 [.agg #[s.val]] H (λv c=>∃a:SV,v=.agg #[a.val]∧c=Row a eF fs::H):=by
 refine sWk func22 ?_;refine gk (k:=bxx (k:=λb1=>?_));refine alc (k:=λb2=>?_);refine go ?_;refine s_ (fk eF rfl) ?_;rintro _ _ ⟨s3,rfl,rfl⟩;refine gk (k:=app (k:=λb=>?_));refine e_ (bld [(0,_)]) (gR ?_);exact⟨_,hsb,b,rfl,rfl⟩
theorem JW {G:dJ}{H:dD}{dv:SV}{l:List (Int×SV)} [hd:Sl H dv eD l] (g:gK H l ds) (hn:ds.length≤1000000) (hv:∀d∈ds,d.2.length≤1000000):SC G prog 23 [dv.val] H (λv H'=>∃(s':SV) (zs:List DG),zs.map dgD=ds∧v=s'.val∧H'=Row s' eD (zs.map dgV)::Cl dgH zs::H):=by
 have hll:=g.1;refine sWk func23 ?_;refine go ?_;refine s_ (fk eD rfl) ?_;rintro _ _ ⟨m,rfl,rfl⟩;refine e_ asn (on_ (qn_ (ws_ (ws_ (wr_ ?_)))));refine eu (ga (f:=dgH) dH.refl) ?_;refine gk (k:=e8 (Nat×SV×(List DG)) (λy=>y.1≤ds.length∧y.2.2.map dgD=ds.take y.1) (λy=>[(3,y.2.1.val),(9,iN y.1)]) [(7,_),(8,_)] (λy=>[Row y.2.1 eD (y.2.2.map dgV),Cl dgH y.2.2]) _ (λy=>ds.length-y.1) ((0,m, [])) (h0:=?_) (k:=?_))
 ·exact⟨Yl _,rfl⟩
 rintro⟨i,u,zs⟩ ⟨hi,hzs⟩
 try dsimp only[Yd,Ye]at*
 refine gW (λh1=>?_) λh1=>?_
 ·obtain⟨d,h,b,hl,e,hsv⟩:=g.get (i:=i) a8;have hvl:b.length≤1000000:=hv _ (Yj e);have hzl:(zs.map dgV).length≤1000000:=cy;refine wk_ (qn_ (ws_ (wb_ (ws_ (wr_ (e_ ixa (e_ (gr (hy:=hl)) (alc (k:=λj=>?_)))))))));refine go ?_;refine wD [3,6,8,9] (λk H=>(k=2→dQ H j [.int .i64 d,h.val])∧(k=5→dQ H j [.int .i64 d,h.val])) (aF 0 (k:=aF 1 (k:=?_)));refine aN 2 rfl (λH hH=>ah) ?_;refine aF 4 (k:=?_);refine aN 5 rfl (λH hH=>aM) ?_;refine aS 3 rfl (fk eVl rfl) ?_;rintro _ _ ⟨s16,rfl,rfl⟩;refine aS 6 rfl (gf rfl rfl rfl rfl ab ab) ?_;rintro _ _ ⟨a,rfl,rfl⟩;refine af_ 7 (q:=ea λH hH=>bld [(0,_),(1,_)]) (k:=?_);refine aS 8 rfl (fK eD rfl rfl) ?_;rintro _ _ ⟨s21,rfl,rfl⟩;refine aS 9 rfl (gf rfl rfl rfl rfl ab ab) ?_;rintro _ _ ⟨c,rfl,rfl⟩;refine gk (k:=aZ (bn_ (qn_ (wr_ ?_))));refine eu (H':=Row c eD ((zs++ [(⟨d,a,b⟩:DG)]).map dgV)::Cl dgH (zs++ [(⟨d,a,b⟩:DG)])::H) (dH.trans (H':=Row a eVl b::Cl dgH zs::Row c eD ((zs++ [(⟨d,a,b⟩:DG)]).map dgV)::H) (by rw[Xp];exact hsb) ((Hg ⟨d,a,b⟩).trans hsb)) ?_;refine go ?_;refine lN ((i+1,c,zs++ [(⟨d,a,b⟩:DG)])) ?_
  try dsimp only
  exact⟨a8,by rw[Xp,hzs,dK e];all_goals rfl⟩
 obtain rfl:i=ds.length:=a8;rw[Xn]at hzs;refine gR ?_;exact⟨_,hsb,u,zs,hzs,rfl,rfl⟩
def yu (n:Nat) (dead:List Int) (ws:List Nat):Prop:=ws.length=(n+63)/64∧okW ws∧(dead= []→ws=List.replicate ((n+63)/64) 0)∧∀j:Nat,j<n→l8 ws j=decide (((j:Nat):Int)∈dead)
theorem OT {H:dD}{p d cnt:Nat}{b:SV}{ws:List Nat}(hs:DW H a fs ds) (hp:dQ H p [pA a.g,pA d]) (hd:dQ H d [iN ds.length,iN cnt,b.val]) (c:Sl H b eW ws):eN H {a with p:=p,d:=d,ws:=b,cnt:=cnt} ⟨fs,ds,ws⟩:=
 ⟨hp,hs.g,hd,hs.w,hs.fv,hs.dv,hs.docs,hs.lv,hs.lens,hs.ev,hs.bl,c⟩
theorem eN.star {F H:dD}{q:PtD}(h:eN F a q):eN (eU F::H) a q:=h.less n4
section
variable {G:dJ}{P:Program}{N:Nat}{Q:Go.Sx.Post}{t:Tm}{H:dD}{ops:Array Oper}{l:List Oper}
theorem Tc {R:dD}(b:Nat) {p:DsG} [hr:Rem H Ds b p R] (h:∀s:SV,O G P N ops l Q t (Vr b [iN p.n,iN p.c,s.val]::Row s eW p.ws::R)):O G P N ops l Q t H:=
 ⟨λa w ha c=>let ⟨s,hs⟩:=pI (K:=Ds) rfl hr c;(h s).go a w ha hs⟩
end
theorem MP {n j:Nat}:l8 (List.replicate n 0) j=false:=by
 rw[l8,Xj,S2]
 split <;> simp
theorem QE {G:dJ}{H:dD}{fv dv xv:SV}{l:List (Int×SV)}{dead:List Int} [hg:Glb G H] [Tab H 27 oc] [Tab H 25 mA] [hf:Sl H fv eF fs] [hd:Sl H dv eD l] [hx:Sl H xv eI dead] [Spc H] (hT:kh G) (Z:ot) (K:gK H l ds) (C:sg fs ds=0) (u:dsz ds≤30000000) (A:(fU fs ds).length≤2000000) (hn:(Ck fs ds).length≤1000000000) (hxl:dead.length≤1000000000):
 SC G prog 19 [.agg #[fv.val],.agg #[dv.val,xv.val]] H (λv H'=>∃(pt:PtA) (ws:List Nat) (F:dD),yu ds.length dead ws∧eN F pt ⟨fs,ds,ws⟩∧v=pA pt.p∧H'=eU F::H):=by
 have B:=qg C u A;have hc:=B.chk;obtain⟨hc1,Y⟩:=jx hc;have hfew:=B.few;have X:=K.1;have hk2:∀d∈ds,d.2.length≤64∧∀v∈d.2,v.2.size≤4096:=λd hd=>by
  obtain⟨g1,g2⟩:=np (B.vals d hd);exact⟨g1,λv hv=>(g2 v hv).1⟩
 refine sWk func19 ?_;refine ws_ (wr_ (bxx (k:=λb2=>?_)));refine bxx (k:=λb3=>?_);refine e_ asn (on_ (qn_ (ws_ ?_)));refine wD [1,4,5] (λk H=>(k=0→dQ H b2 [fv.val])∧(k=3→dQ H b3 [dv.val,xv.val])) ?_;refine aN 0 rfl (λH hH=>aX) ?_;refine aF 2 (k:=?_);refine aN 3 rfl (λH hH=>aM) ?_;refine aS 1 rfl (lU (vs:= [_]) rfl (wZ a8)) ?_;rintro _ _ ⟨s14,rfl,rfl⟩;refine aS 4 rfl (lU (vs:= [_]) rfl (JW (ds:=ds) (K.less hsb) a8 (λd hd=>dz))) ?_;rintro _ _ ⟨s17,zs,hzs,rfl,rfl⟩;refine aS 5 rfl (lU (vs:= [_,_]) rfl (JY (ds:=ds) hT Z bR a8 (λf hf=>by have:=(Y f hf).1;omega) a8 (λd hd=>⟨dz,λv hv=>by have:=(hk2 d hd).2 v hv;omega⟩) u A)) ?_;rintro _ _ (⟨t,s51,rfl,rfl⟩|⟨t,ke,hke,rfl,rfl⟩)
 ·refine aF 6 (k:=aF 7 (k:=aF 8 (k:=aF 9 (k:=aF 10 (k:=aZ (qn_ (ws_ (ws_ (wr_ (e_ mv ?_))))))))));refine e_ (dL rfl) ?_;refine on_ (qn_ (fM (k:=wk_ (qn_ (ws_ (wr_ (e_ lds ?_)))))));refine c1_ rfl (wZ a8) ?_;rintro _ _ ⟨s25,rfl,rfl⟩;refine e_ mv ?_;refine c2_ rfl (RL (ds:=ds) hT Z C u A hn) ?_;rintro _ _ ⟨g,M,h,rfl,rfl⟩;refine e_ mv (e_ exr (e_ exr (e_ asn (e_ asn (on_ (qn_ (ws_ (ws_ (wr_ (e_ mv ?_))))))))));refine e_ (dL rfl) ?_;refine e_ mv (eg_ mv ?_);refine eg_ (gu rfl) ?_;refine e_ pkf (on_ (qn_ (wi_ (k:=λh1=>?_) (m:=λh1=>?_))))
  ·exact absurd h1 aq
  refine wk_ (qn_ (ws_ (wr_ (e_ fla (e_ ldv ?_)))));refine e_ (evq lnn (congrArg (λn:Nat=>iN n) X)) ?_;refine c1_ rfl (NK (n:=ds.length) a8) ?_;rintro _ _ ⟨bs,rfl,rfl⟩;refine e_ mv (e_ exr (e_ exr (e_ asn (e_ asn (on_ (qn_ (ws_ (ws_ (wr_ (e_ mv ?_))))))))));refine e_ (dL rfl) ?_;refine e_ mv (eg_ mv ?_);refine eg_ (gu rfl) ?_;refine e_ pkf (on_ (qn_ (wi_ (k:=λh2=>?_) (m:=λh2=>?_))))
  ·exact absurd h2 aq
  refine wk_ (qn_ (ws_ (ws_ (wr_ (e_ fla (e_ ldv (e_ lnn (e_ mv (on_ (qn_ (wb_ (e8 (Nat×Nat×(List Nat)) (λy=>y.1≤dead.length∧y.2.1≤y.1∧y.2.2.length=(ds.length+63)/64∧okW y.2.2∧(y.1=0→y.2.2=List.replicate ((ds.length+63)/64) 0)∧∀j:Nat,j<ds.length→l8 y.2.2 j=decide (((j:Nat):Int)∈dead.take y.1)) (λy=>[(52,iN y.1)]) [(3,_),(7,_),(8,_),(50,_),(51,_)] (λy=>[Ds bs ⟨ds.length,y.2.1,y.2.2⟩]) _ (λy=>dead.length-y.1) ((0,0,List.replicate ((ds.length+63)/64) 0)) (h0:=?_) (k:=?_)))))))))))))
  ·try dsimp only
   exact⟨Yl _,Xl _,by rw[Xe],λx hx=>by rw[List.mem_replicate]at hx;omega,λ_=>rfl,λj _=>by rw[MP];simp⟩
  rintro⟨i,c,ws⟩ ⟨hi,hci,z,w,U,r⟩
  try dsimp only[Yd,Ye]at*
  refine ws_ (wr_ (e_ ilt (on_ (qn_ (ws_ (wi_ (k:=λh3=>?_) (m:=λh3=>?_)))))))
  ·obtain⟨e,he⟩:=gE dead i;refine wk_ (qn_ (ws_ (wb_ (ws_ (wr_ (e_ ixa (e_ (lel (hy:=he)) (e_ asn (on_ (qn_ (ws_ (wr_ (e_ mv ?_)))))))))))));refine e_ ige (e_ mv (dV 6 64 (k:=λh4=>eg_ mv (eg_ fla (eg_ ldv (eg_ lnn (eg_ ilt (e_ pkt (on_ edq))))))) (q:=on_ (qn_ (wi_ (k:=λh5=>?_) (m:=λh5=>?_))))))
   ·have hin:=h5;refine wr_ (e_ mv (e_ mv ?_));refine c2_ rfl (Zr a8 a8 z w) ?_;rintro _ _ (⟨ho,rfl,rfl⟩|⟨h01,h02,xx,c',S,rfl,rfl,hc',hwl',J,E⟩)
    ·exact absurd ho a8
    refine on_ (bn_ (qn_ (wr_ (e_ iad (e_ mv (on_ ?_))))));refine lN ((i+1,c',S)) ?_
    try dsimp only
    exact⟨a8,a8,a8,J,λh9=>a8,λj hj=>by rw[E,r j hj,dK he];simp[Bool.or_comm]⟩
   refine wk_ (bn_ (qn_ (wr_ (e_ iad (e_ mv (on_ ?_))))));refine lN ((i+1,c,ws)) ?_
   try dsimp only
   exact⟨a8,a8,z,w,λh9=>a8,λj hj=>by
   have h8:=h5;rw[r j hj,dK he];have V:¬((j:Nat):Int)=e:=λN=>by subst N;simp at h8;omega
   simp[V]⟩
  obtain rfl:i=dead.length:=a8;rw[Xn]at r;refine we_ (qe_ (le_ (bh_ (qn_ (ws_ (wr_ ?_))))));refine Tc bs (λT=>?_);haveI hq1:∀L,dQ (eU M::L) g.g [g.fv.val,g.dv.val,g.lv.val,pA g.w,g.bl.val,g.im.val]:=λL=>lM n4 h.g;haveI hq2:∀L,Sl (eU M::L) g.dv eD g.l:=λL=>ee n4 h.dv;refine e_ mv (e_ mv ?_);refine c2_ rfl (JQ (dv:=.nilIface) (n:=ds.length) (c:=c) (s:=T) (ws:=ws) a8 h.docs.1) ?_;rintro _ _ ⟨R,b,a,rfl,rfl⟩;refine e_ mv (e_ exr (e_ exr (e_ asn (e_ asn (on_ (qn_ (ws_ (ws_ (wr_ (e_ mv ?_))))))))));refine e_ (dL rfl) ?_;refine e_ mv (eg_ mv ?_);refine eg_ (gu rfl) ?_;refine e_ pkf (e_ mv (ep 6 87 (k:=λh6=>eg_ mv (eg_ nck (eg_ fla (eg_ ldv (eg_ (gu rfl) (e_ pkf (on_ edq))))))) (q:=on_ (qn_ (wi_ (k:=λN=>?_) (m:=λN=>?_))))))
  ·exact absurd N aq
  refine wk_ (qn_ (ws_ (wr_ (e_ mv (e_ asn (on_ (qn_ (wt_ (rT (k:=?_))))))))));refine⟨_,?_,{g with p:=R,d:=b,ws:=a,cnt:=c},ws, [eU M,Vr R [pA g.g,pA b],Vr b [iN ds.length,iN c,a.val],Row a eW ws],⟨z,w,λh9=>U (by rw[h9];all_goals rfl),r⟩,OT (h.less n4) inferInstance inferInstance inferInstance,rfl,rfl⟩;exact dH.trans (H':=eU M::Vr R [pA g.g,pA b]::Vr b [iN ds.length,iN c,a.val]::Row a eW ws::H) hsb (dH.star (F:= [eU M,Vr R [pA g.g,pA b],Vr b [iN ds.length,iN c,a.val],Row a eW ws]) dH.refl)
 exact absurd C t
end
section
variable {fs:List FV}
def Jw (k:Int):Nat:=(IntKind.u64.wrap k).toNat
theorem VW (k:Int):IntKind.u64.wrap k=((Jw k:Nat):Int):=by
 have h:0≤IntKind.u64.wrap k:=by
  unfold IntKind.wrap;simp[IntKind.signed,IntKind.bits];omega
 unfold Jw;omega
structure SmP (fs:List FV) (d:km):Prop where
 sm:SmD fs d.1
 z:dsz d.1≤30000000
 t:sg fs d.1=0→(fU fs d.1).length≤2000000
 x:d.2.length≤1000000000
theorem Cj {ds:List Doc}(h:mg fs ds):(Ck fs ds).length≤1000000000:=by
 have b:=h.goodT;have d:=h.toks;have c:=h.size;have hn:=h.few;have hfl:=h.flen;have h1:=uV b;have h2:=tJ (fU fs ds);have h3:=Dw (H6 b d) (by rw[ka];omega);rw[ka]at h3;have h4:=Dj h.chk;have h5:=oK (fs:=fs) c hn fs.length;have h6:=kX (fs:=fs) (ds:=ds) a8 h.q;have e:=rB (l:=ds.map (·.1)) h.pos (λx hx=>bU);rw[Yh]at e;have h8:=gb (n:=ds.length) (k:=6) a8 a8;have hI:(pU ds).length≤10*4096+6:=by rw[pU,Ya];omega
 have a:∀n,n<1099511627776→(uv n).length≤6:=λn hn=>gb hn a8;have u0:(uv 6).length≤6:=a 6 ae;show(nN 83 (oC fs ds)).length≤_;rw[xZ,show(oC fs ds).length=6 from rfl];simp only[fN,oC,Vx,List.flatMap_nil,Ya,Yc,uk];have u1:=a (Bh fs).length a8;have u2:=a (pU ds).length a8;have u3:=a (nX fs ds fs.length).length a8;have u4:=a (iC (j8 0 (eE (fU fs ds)))).length a8;have u5:=a (eV (eE (fU fs ds))).length a8;have u6:=a (gm fs ds).length a8;omega
theorem NX {G:dJ}{H:dD}{fv pv:SV}{kp:Int}{a:PrA}{all:Bool}{lp:List (SV×SV)}{ps:List km} [hg:Glb G H] [Tab H 27 oc] [Tab H 25 mA] [hf:Sl H fv eF fs] [hd:Sl H pv eP lp] [Spc H] (hT:kh G) (L:ot) (c:rm H lp ps) (hpl:ps.length≤1000000000) (hsm:∀p∈ps,SmP fs p) (z:fs.length≤1000000) (y:∀f∈fs,f.name.size≤1000000000):
 SC G prog 6 [.agg #[fv.val,pv.val,.int .i64 kp,a.av.val,a.cu.val,a.ne.val,.bool all,a.dr.val,a.co.val]] H (λv K=>
  (v=.tuple #[.pointer none,.agg #[.slice none 0 0,.slice none 0 0],.int .i64 1]∧K=H)∨
  (∃(d:km) (dv xv:SV) (t:PtA) (s:List Nat) (F:dD),vn fs ps=true∧d∈ps∧yu d.1.length d.2 s∧eN F t ⟨fs,d.1,s⟩∧XB H (dv,xv) d∧v=.tuple #[pA t.p,.agg #[dv.val,xv.val],.int .i64 0]∧K=eU F::H)):=by
 have x:=c.1;refine sWk func6 ?_;refine gk (k:=bxx (k:=λC=>?_));refine gk (k:=alc (k:=λb3=>?_));refine go ?_;refine d1_ rfl (Zp (c.less hsb) hpl (λp hp=>(hsm p hp).sm) z y) (gk (k:=ep 6 17 (k:=λh1=>gk (k:=edq)) (q:=gW (λh2=>?_) (λh2=>?_))))
 ·refine ws_ (wr_ (e_ (bld []) (gR ?_)));exact⟨_,hsb,.inl ⟨rfl,rfl⟩⟩
 have w:vn fs ps=true∧0<ps.length:=by have h9:=h2;exact⟨h9.1,a8⟩
 obtain⟨r,j⟩:=w;obtain⟨E,m⟩:=ex (Jw kp%ps.length);have hlt:E<ps.length:=by rw[m];exact V2 _ j
 obtain⟨p,d,l,hp,B,N,J,M⟩:=c.get (i:=E) a8;have e:=Yj B;have b:=H3 r e;have h:=hsm _ e;have g:=qg b h.z (h.t b);refine go ?_;refine wD [14,15] (λk H=>(k=2→dQ H C [fv.val,pv.val,.int .i64 kp,a.av.val,a.cu.val,a.ne.val,.bool all,a.dr.val,a.co.val])∧(k=4→dQ H C [fv.val,pv.val,.int .i64 kp,a.av.val,a.cu.val,a.ne.val,.bool all,a.dr.val,a.co.val])∧(k=8→dQ H C [fv.val,pv.val,.int .i64 kp,a.av.val,a.cu.val,a.ne.val,.bool all,a.dr.val,a.co.val])∧(k=9→Sl H pv eP lp)∧(k=12→Sl H pv eP lp)∧(k=13→Sl H pv eP lp)) (aF 0 (k:=aF 1 (k:=?_)));refine aN 2 rfl (λH hH=>ah) ?_;refine aF 3 (k:=?_);refine aN 4 rfl (λH hH=>ar) ?_;refine aN 5 rfl (λH hH=>Mu rfl ((Jw kp:Nat):Int) (VW kp)) ?_;refine aF 6 (k:=aF 7 (k:=?_));refine aN 8 rfl (λH hH=>aL) ?_;refine aN 9 rfl (λH hH=>by have hN:=hH.2.2.2.1 rfl;exact lnn) ?_;refine aN 10 rfl (λH hH=>dW 18446744073709551616 rfl rfl rfl ps.length (by rw[x]) a8) ?_;refine aN 11 rfl (λH hH=>evq (mw rfl rfl (Jw kp) ps.length rfl rfl j) (congrArg (λn:Nat=>uN n) m.symm)) ?_;refine aN 12 rfl (λH hH=>by have hN:=hH.2.2.2.2.1 rfl;exact ixa) ?_;refine aN 13 rfl (λH hH=>by have hN:=hH.2.2.2.2.2 rfl;exact gr (hy:=hp)) ?_;refine aS 14 rfl m9 ?_;rintro _ _ ⟨R,rfl,rfl⟩;refine aS 15 rfl (ej rfl rfl rfl) ?_;rintro _ _ ⟨rfl,rfl⟩;refine aZ (go ?_);refine c2_ rfl (QE (ds:=d.1) (dead:=d.2) hT L (J.less hsb) b h.z (h.t b) (Cj g) h.x) ?_;rintro _ _ ⟨t,s,F,A,u,rfl,rfl⟩;refine e_ asn (on_ (qn_ (ws_ (ws_ (wr_ (e_ mv ?_))))));refine e_ (gu rfl) ?_;refine gW (λh3=>?_) λh3=>?_
 ·exact absurd h3 aq
 refine go ?_;refine wD [3] (λk H=>(k=1→dQ H R [p.1.val,p.2.val])) (aF 0 (k:=?_));refine aN 1 rfl (λH hH=>by have hN:=hH rfl;exact lds) (go ?_);refine aS 3 rfl (ej rfl rfl rfl) ?_;rintro _ _ ⟨rfl,rfl⟩;refine gk (k:=aZ (gR ?_));exact⟨_,hsb,.inr ⟨d,p.1,p.2,t,s,F,r,e,A,u,⟨⟨l,N,J⟩,M⟩,rfl,rfl⟩⟩
end
section
variable {G:dJ}{H:dD}
def eRo:Enc (ByteArray×Nat):=⟨λp=>[.string p.1,.int .i64 ((p.2:Nat):Int)],2,true,λ_=>rfl,λp v h=>by simp at h;rcases h with rfl|rfl <;> rfl,ae,λh=>aK,ae⟩
abbrev roL:List (ByteArray×Nat):= [(eG [101,110,100],0),(eG [110,111,110,101],0),(eG [97,108,108],0),(eG [104,97,115],1),(eG [116,101,114,109],2),(eG [112,104,114,97,115,101],2),(eG [97,110,100],0),(eG [111,114],0),(eG [109,97,120],0),(eG [111,112,116],0),(eG [101,120,99,101,112,116],0),(eG [110,111,116],0),(eG [115,99,97,108,101],1),(eG [102,105,120],1),(eG [108,101,97,115,116],2),(eG [109,105,115,115],1),(eG [104,105,116],1)]
theorem SK:SC G prog 142 [] H (λv b=>∃s:SV,v=s.val∧b=Row s eRo roL::H):=by
 refine sWk func142 ?_;refine ws_ (wr_ (e_ asn (on_ (qn_ (ws_ (wr_ (e_ (bld [(0,_),(1,_)]) (e_ (bld [(0,_),(1,_)]) (e_ (bld [(0,_),(1,_)]) (e_ (bld [(0,_),(1,_)]) (e_ (bld [(0,_),(1,_)]) (e_ (bld [(0,_),(1,_)]) (e_ (bld [(0,_),(1,_)]) ?_)))))))))))));refine e_ (bld [(0,_),(1,_)]) (e_ (bld [(0,_),(1,_)]) (e_ (bld [(0,_),(1,_)]) (e_ (bld [(0,_),(1,_)]) (e_ (bld [(0,_),(1,_)]) (e_ (bld [(0,_),(1,_)]) (e_ (bld [(0,_),(1,_)]) (e_ (bld [(0,_),(1,_)]) (e_ (bld [(0,_),(1,_)]) (e_ (bld [(0,_),(1,_)]) ?_)))))))));refine s_ (ek eRo roL bH rfl ax) ?_;rintro _ _ ⟨a,rfl,rfl⟩;refine gR ?_;exact⟨_,hsb,a,rfl,rfl⟩
theorem WC:∀i:Fin 17,(roL.map (·.2))[i.val]? =nI i.val:=ae
theorem OM {G:dJ}{H:dD}{op:Nat}:SC G prog 92 [.int .i64 ((op:Nat):Int)] H (λv H'=>((∃k,nI op=some k∧k≤2∧v=.tuple #[.int .i64 ((k:Nat):Int),.bool true])∨(nI op=none∧v=.tuple #[.int .i64 0,.bool false]))∧H'=H):=by
 have hrl:roL.length=17:=rfl
 refine sWk func92 ?_
 refine ws_ (wr_ (e_ asn (k:=e_ asn (k:=on_ (qn_ (ws_ (wr_ (?_))))))))
 refine c0_ rfl (SK) (k:=?_)
 rintro _ _ ⟨s5,rfl,rfl⟩
 refine e_ asn (k:=on_ (qn_ (ws_ (ws_ (wr_ (e_ mv (k:=e_ ilt (k:=e_ mv (k:=ep 5 13 (k:=λh1=>eg_ mv (k:=eg_ mv (k:=eg_ lnn (k:=eg_ ige (k:=e_ pkf (k:=on_ (edq))))))) (q:=on_ (qn_ (wi_ (k:=λh2=>?_) (m:=λh2=>?_)))))))))))))
 ·have hno:=Aa (op:=op) (aw)
  refine ws_ (wr_ (e_ asn (k:=e_ asn (k:=on_ (qn_ (wt_ (qr_ (rt_ results92 (k:=?_)))))))))
  exact⟨_,hsb,.inr ⟨hno,rfl⟩,rfl⟩
 have hop:op<17:=aw
 obtain⟨k,hk1,hk2,hk3⟩:=A9 hop
 obtain⟨r,hr⟩:∃r,roL[op]? =some r:=⟨_,Yi (a8)⟩
 have hrk:r.2=k:=by
  have h8:=WC ⟨op,hop⟩
  rw[Xd,hr,hk1]at h8
  exact Xk h8
 refine wk_ (qn_ (ws_ (wr_ (e_ mv (k:=e_ mv (k:=e_ ixa (k:=e_ fle (k:=?_))))))))
 refine e_ (evq (lfl (hy:=hr)) (congrArg (λn:Nat=>Value.int .i64 (n:Int)) hrk)) (k:=?_)
 refine e_ asn (k:=e_ asn (k:=on_ (qn_ (wt_ (rt_ results92 (k:=?_))))))
 exact⟨_,hsb,.inl ⟨k,hk1,hk2,rfl⟩,rfl⟩
theorem zi {s:SV}{xs:List Nat} [hs:Sl H s eB xs] (hn:xs.length≤100000000) (Z:∀x∈xs,x<256):SC G prog 33 [s.val] H (λv F=>(lA xs.length xs=none∧v=.tuple #[.slice none 0 0,.int .i64 21]∧F=H)∨(∃(s':SV) (l:List Ins),lA xs.length xs=some l∧v=.tuple #[s'.val,.int .i64 0]∧F=Row s' l7 l::H)):=by
 refine sWk func33 ?_;refine go ?_;refine s_ (fk l7 rfl) ?_;rintro _ _ ⟨L,rfl,rfl⟩;refine gk (k:=e8 (Nat×Nat×SV×(List Ins)) (λy=>y.1≤xs.length∧xs.length-y.1≤y.2.1∧lA xs.length xs=u7 y.2.2.2 (lA y.2.1 (xs.drop y.1))∧y.2.2.2.length≤y.1) (λy=>[(4,y.2.2.1.val),(5,iN y.1)]) [(0,_)] (λy=>[Row y.2.2.1 l7 y.2.2.2]) _ (λy=>xs.length-y.1) ((0,xs.length,L, [])) (h0:=?_) (k:=?_))
 ·try dsimp only
  exact⟨Yl _,a8,by rw[Va];cases lA xs.length xs <;> simp[u7],Yl _⟩
 rintro⟨k,f,u,out⟩ ⟨hk,hf,a,hol⟩
 try dsimp only[Yd,Ye]at*
 refine gW (λh1=>?_) λh1=>?_
 ·obtain⟨x,hx⟩:∃x,xs[k]? =some x:=⟨_,Yi ao⟩;have hxb:=Z x (Yj hx);have X:xs.drop k=x::xs.drop (k+1):=eh hx;have hkl:=(Yk.1 hx).1;obtain⟨f,rfl⟩:∃g,f=g+1:=⟨f-1,a8⟩;rw[X]at a;refine wk_ (qn_ (wb_ (ws_ (wr_ (e_ mv (e_ mv (e_ ixa (e_ (lel (hy:=hx)) ?_))))))));refine e_ (ew rfl a8) ?_;refine e_ (bld [(0,_)]) (alc (k:=λb6=>?_));refine go ?_;refine c1_ rfl (OM (op:=x)) ?_;rintro _ _ ⟨(⟨n,B,U,rfl⟩|⟨hno,rfl⟩),rfl⟩
  ·refine go ?_;refine fM (k:=gk (k:=e8 (Nat×Nat×Nat×Nat) (λy=>y.1≤n∧k+1≤y.2.1∧y.2.1≤xs.length∧y.2.2.1<18446744073709551616∧y.2.2.2<18446744073709551616∧(y.1<1→y.2.2.1=0)∧(y.1<2→y.2.2.2=0)∧mO n (xs.drop (k+1))=r9 (([y.2.2.1,y.2.2.2]:List Nat).take y.1) (mO (n-y.1) (xs.drop y.2.1))) (λy=>[(5,iN y.2.1),(9,iN y.1)]) [(0,_),(4,_),(6,_),(7,_)] (λy=>[Vr b6 [iN x,uN y.2.2.1,uN y.2.2.2]]) _ (λy=>n-y.1) ((0,k+1,0,0)) (h0:=?_) (k:=?_)))
   ·try dsimp only
    exact⟨Yl _,Xl _,a8,ae,ae,λ_=>rfl,λ_=>rfl,by cases mO n (xs.drop (k+1)) <;> simp[r9]⟩
   rintro⟨j,d,J,vb⟩ ⟨hjn,hkk,C,S,R,M,A,c⟩
   try dsimp only[Yd,Ye]at*
   refine gW (λh2=>?_) λh2=>?_
   ·have hj1:j=0∨j=1:=by have h9:=h2;omega
    have Y:∀y∈xs.drop d,y<256:=λy hy=>Z y (Yp hy);obtain⟨w,N⟩:=ex (iz 0 (xs.drop d));have i:j<n:=aw;refine go ?_;refine c2_ rfl ((Kq a8 C Z).mono (K':=λv F=>((∃e,w=.error e∧v=.tuple #[.int .u64 0,iN d,.int .i64 (xJ e)])∨∃q m,w=.ok (q,m)∧v=.tuple #[uN q,iN (d+m),.int .i64 0])∧F=_) (λv F h=>⟨by rw[h.1,←N];cases w with|error e=>exact .inl ⟨e,rfl,rfl⟩|ok z=>exact .inr ⟨z.1,z.2,rfl,rfl⟩,h.2⟩)) ?_;rintro _ _ ⟨(⟨e,b,rfl⟩|⟨q,m,b,rfl⟩),rfl⟩
    ·rw[N]at b;have hno:lA xs.length xs=none:=by rw[a,zZ B (by rw[c,DN b i])];all_goals rfl
     have T:¬xJ e=0:=Pa (Ct _ _ _ b);refine go ?_;refine gW (λh3=>?_) λh3=>?_
     ·refine go ?_;refine gR ?_;exact⟨_,hsb,.inl ⟨hno,rfl,rfl⟩⟩
     exact absurd h3 T
    rw[N]at b;obtain⟨p1,p2,p3,p4,p5,p6⟩:=k7 _ 0 q m Y a8 b;rw[Yo]at p4;have p:=Ab (rs:=([J,vb]:List Nat).take j) b i;rw[Vt]at p;refine go ?_;refine gW (λh4=>?_) λh4=>?_
    ·exact absurd h4 aq
    refine go ?_;refine wi_ (k:=λh5=>?_) (m:=λh5=>?_)
    ·have r:j=0:=by have h9:=h5;omega
     subst r;refine go ?_;refine lN ((1,d+m,q,vb)) ?_
     try dsimp only
     exact⟨a8,a8,a8,p1,R,a8,λ_=>A ae,by rw[c,p];all_goals rfl⟩
    have r:j=1:=aW;subst r;refine go ?_;refine lN ((2,d+m,J,q)) ?_
    try dsimp only
    exact⟨a8,a8,a8,S,p1,a8,a8,by rw[c,p];all_goals rfl⟩
   obtain rfl:j=n:=aw;have t:mO j (xs.drop (k+1))=some (([J,vb]:List Nat).take j,xs.drop d):=by rw[c,Ui];simp[mO,r9]
   have E:=Bp (f:=f) B t;rw[KQ U M A]at E;refine gk (k:=fS l7 (k:=λs57=>?_));refine app (k:=λK=>?_);refine go ?_;refine lN ((d,f,K,out++ [(x,J,vb)])) ?_
   try dsimp only
   exact⟨C,a8,by rw[a,E,sZ],by rw[Ya];simp;omega⟩
  rw[A0 hno]at a;refine go ?_;refine ift (k:=gR ?_);exact⟨_,hsb,.inl ⟨a,rfl,rfl⟩⟩
 have V:lA xs.length xs=some out:=by
  rw[a,Vn ao,DA];simp[u7]
 refine gR ?_;exact⟨_,hsb,.inr ⟨u,out,V,rfl,rfl⟩⟩
end
theorem VU:∀x y:List UInt8,x<y↔x.map (·.toNat)<y.map (·.toNat):=by
 intro x
 induction x with
 |nil=>intro y;cases y <;> simp
 |cons a x ih=>
  intro y;cases y with
  |nil=>simp
  |cons b y=>
   simp only[Xs,U0,ih y,UInt8.lt_iff_toNat_lt,UInt8.toNat_inj]
def by8 (q:ByteArray):List UInt8:=q.data.toList
def un8 (l:List UInt8):ByteArray:=⟨l.toArray⟩
theorem Nu (q:ByteArray):un8 (by8 q)=q:=by cases q;simp[un8,by8]
theorem DI (l:List UInt8):dC (un8 l)=l.map (·.toNat):=by simp[dC,un8]
theorem El (l:List (List UInt8)):(((l.mergeSort λx y=>decide (x≤y)).map un8).map dC).Pairwise (λa b=>¬b<a):=by
 rw[Uo];refine U8.2 ?_;have h:(l.mergeSort λx y=>decide (x≤y)).Pairwise λx y=>decide (x≤y)=true:=by
  refine List.pairwise_mergeSort (le:=λx y=>decide (x≤y)) (λa b c h1 h2=>?_) (λa b=>?_) l
  ·simp only[Xq]at h1 h2⊢;exact List.le_trans h1 h2
  ·simp only[Uh,Xq];exact List.le_total a b
 refine h.imp fun{a b} hab=>?_;simp only[Function.comp,DI,←VU];exact List.not_lt.2 (Yt hab)
theorem Bl:∀ss:List ByteArray,eS.all ss=ss.map Value.string
 | []=>rfl
 |q::r=>by show Value.string q::eS.all r=_;rw[Bl r];all_goals rfl
theorem v8 {w:World}{L a:pw}(hp:a.Perm L) (h:lB w L):lB w a:=⟨((hp.map (·.1)).nodup_iff).2 h.nodup,λx hx=>h.at_ x (hp.mem_iff.1 hx)⟩
theorem K9:ot:=by
 intro G H R s a hr hn;refine⟨n7 func215 rfl aa,λw X=>?_⟩;obtain⟨z,L,hL,hl⟩:=X;obtain⟨L',hp,L1,L2,rfl,t,T⟩:=hr.out L hL;have hl':=v8 hp hl;rcases t with⟨rfl,rfl,rfl⟩|⟨b,C,E,fz,h1,h2,h3,rfl,h5,S,Y⟩
 ·refine(slices_Sort_string_none none 0 w).mono ?_;rintro e U ⟨rfl,rfl⟩;exact⟨Row SV.nil eS []::R,⟨z,L2,⟨[],L2,rfl,.inl ⟨rfl,rfl,rfl⟩,T⟩,by simpa using hl'⟩,rfl, [],.refl _,List.Pairwise.nil,rfl⟩
 ·have u:w.heap[b]? =some (.cells C E fz):=hl'.at_ (b,.cells C E fz) aq;have r:b<w.heap.size:=(Vc.1 u).1;have c:∀(j:Nat) (q:ByteArray),a[j]? =some q→C[j]? =some (.string q):=λj q K=>Y j _ (by
   have:=Bl a;rw[this,Xd,K];all_goals rfl)
  have hH:Go.Sort.Holds encStr w b 0 (a.map by8).toArray:=by
   intro j hj;have p:j<a.length:=by simpa using hj
   have M:a[j]? =some a[j]:=Yi p;have A:=c j _ M;have k:=(Vc.1 A).1
   constructor
   ·simp only[World.cell?,u,Vw];simp[A,encStr,by8,p]
   ·simp only[World.frozen?,u,Vw];have:=S.free j k;simp only[Ua,Xy];omega
  have hv: #[s.val]= #[Value.slice (some ⟨b,0,none⟩) (a.map by8).length s.c]:=by
   simp only[SV.val,h1,h2,Yh]
  rw[hv];refine(slices_Sort_string b 0 s.c (a.map by8) w hH r bV).mono ?_;rintro e U ⟨rfl,n,os,rfl⟩;obtain⟨d,i⟩:=ex ((a.map by8).mergeSort λx y=>decide (x≤y));have m:d.Perm (a.map by8):=by rw[i];exact List.mergeSort_perm _ _
  have g:d.length=a.length:=by rw[m.length_eq,Yh]
  rw[←i];refine⟨Row s eS (d.map un8)::R,?_,rfl,d.map un8,?_,?_,rfl⟩
  ·refine⟨⟨z.os,z.tape,z.output⟩, [(b,.cells (Go.Sort.putCells encStr 0 d.toArray C) E fz)]++L2,⟨_,L2,rfl,.inr ⟨b,_,E,fz,h1,by simp[h2,g],h3,rfl,by simp[Go.Sort.putCells,h5],by simpa [Go.Sort.putCells] using S,?_⟩,T⟩,?_⟩
   ·intro j v hv;have:=Bl (d.map un8);rw[this,Uo,Xd]at hv;cases hm:d[j]? with
    |none=>rw[hm]at hv;cases hv
    |some q=>
     rw[hm]at hv;obtain rfl:=Xk hv;have N:=(Yk.1 hm).1;obtain⟨V,J⟩:=gE a j;have A:=c j V J;have k:=(Vc.1 A).1;have K:=(Yk.1 hm).2;simp[Go.Sort.putCells,k,N,K,un8]
   ·have f:=hl'.nodup;simp only[Xp,Xs,Ud,Yd,Ye,U1]at f⊢;refine⟨by simpa using f,λx hx=>?_⟩;rcases Xo.1 hx with rfl|hx
    ·simp only[Go.Sort.grow,Go.Sort.putRow,Go.Sort.mapBlock,Go.Sort.ahead];rw[Uu (by simpa using r),T5,if_pos rfl,u];all_goals rfl
    ·have F:b≠x.1:=λh=>f.1 (h ▸ Vj hx);have l:=hl'.at_ x (by simp[hx]);have B:=(Vc.1 l).1;simp only[Go.Sort.grow,Go.Sort.putRow,Go.Sort.mapBlock,Go.Sort.ahead];rw[Uu (by simpa using B),T5,if_neg F,l]
  ·have h9:=m.map un8;rw[Uo,show(un8∘by8)=id from funext Nu,P0]at h9;exact h9
  ·rw[i];exact El _
section
variable {G:dJ}{H:dD}
theorem O7 [hs:Spc H]{w:World}(a:Sat G w H):Lib.TabIs prog w "strings.asciiSpace" .u8 Lib.asciiSpaceTab:=by
 obtain⟨hS,L,hL,hl⟩:=a;obtain⟨E,fz,hm⟩:=hs.out L hL;have h:=hl.at_ _ hm;have c:prog.globalNamed "strings.asciiSpace" =some 26:=aa;have b:(Lib.asciiSpaceTab.map λz=>Value.int .u8 z).toArray=((List.range 256).map λi=>Value.int .u8 (if i=9∨i=10∨i=11∨i=12∨i=13∨i=32 then 1 else 0)).toArray:=by
  have e:Lib.asciiSpaceTab=(List.range 256).map λi=>(if i=9∨i=10∨i=11∨i=12∨i=13∨i=32 then(1:Int)else 0):=ax;rw[e,Uo];all_goals rfl
 show w.var? prog "strings.asciiSpace" =_;simp only[World.var?,c,Option.bind_some,h,b]
theorem NP {q:ByteArray} [Spc H] (f:q.size<4294967281) (ha:∀b∈q.data.toList,b.toNat<128):SC G prog 300 [.string q] H (λv h=>∃s:SV,v=s.val∧h=Row s eS ((Lib.fields q.data.toList).map un8)::H):=by
 refine⟨n7 func300 rfl aa,λw d=>?_⟩;refine(strings_Fields q w f (λj b g=>ha b (Yj g)) (O7 d)).mono ?_;rintro e w' ⟨rfl,rfl⟩;obtain⟨c,L,hL,hl⟩:=d;refine⟨Row ⟨some ⟨w.heap.size,0,none⟩,(Lib.fields q.data.toList).length,(Lib.fields q.data.toList).length⟩ eS ((Lib.fields q.data.toList).map un8)::H,⟨⟨c.os,c.tape,c.output⟩, [(w.heap.size,.cells ((Lib.fields q.data.toList).map λl=>Value.string ⟨l.toArray⟩).toArray 9 (0,0))]++L,⟨_,L,rfl,.inr ⟨w.heap.size,_,9,(0,0),rfl,aq,Xl _,rfl,by simp[eS],.inl rfl,λj v hv=>?_⟩,hL⟩,?_⟩,_,rfl,rfl⟩
 ·rw[Bl,Uo]at hv
  simpa [un8,Function.comp_def] using hv
 ·have a:∀x∈L,x.1<w.heap.size:=λx hx=>(Vc.1 (hl.at_ x hx)).1;refine⟨?_,λx hx=>?_⟩
  ·simp only[Xp,Xs,Ud,Yd,Ye,U1];refine⟨λhm=>?_,hl.nodup⟩;obtain⟨x,hx,he⟩:=Xt.1 hm;have:=a x hx;omega
  ·rcases Xm.1 hx with hx|hx
   ·simp only[Vb]at hx;subst hx;exact Array.getElem?_push_size
   ·have:=a x hx;simp only[World.alloc];rw[Array.getElem?_push_lt this,←Array.getElem?_eq_getElem this];exact hl.at_ x hx
def C9:ByteArray:=⟨#[97,32,97,110,32,97,110,100,32,97,114,101,32,97,115,32,97,116,32,98,101,32,98,117,116,32,98,121,32,102,111,114,32,102,114,111,109,32,104,97,115,32,104,101,32,105,102,32,105,110,32,105,110,116,111,32,105,115,32,105,116,32,105,116,115,32,110,111,32,110,111,116,32,111,102,32,111,110,32,111,114,32,115,104,101,32,115,111,32,115,117,99,104,32,116,104,97,116,32,116,104,101,32,116,104,101,105,114,32,116,104,101,110,32,116,104,101,114,101,32,116,104,101,115,101,32,116,104,101,121,32,116,104,105,115,32,116,111,32,119,97,115,32,119,101,32,119,101,114,101,32,119,105,108,108,32,119,105,116,104,32,121,111,117]⟩
theorem Ej:∀b∈C9.data.toList,b.toNat<128:=ax
theorem HS:(((Lib.fields C9.data.toList).map λl=>l.map (·.toNat)).isPerm jA)=true:=ax
theorem C8:jA.Pairwise (λa b=>¬b<a):=ax
theorem JZ:(Lib.fields C9.data.toList).length≤1000:=ax
theorem O4 {ss:List ByteArray}(hp:ss.Perm ((Lib.fields C9.data.toList).map un8)) (hs:(ss.map dC).Pairwise (λa b=>¬b<a)):ss=jj:=by
 have h1:(ss.map dC).Perm jA:=by
  refine(hp.map dC).trans ?_;rw[Uo,show(dC∘un8)=λl:List UInt8=>l.map (·.toNat)from funext DI];exact List.isPerm_iff.1 HS
 have h2:ss.map dC=jA:=List.Perm.eq_of_pairwise (le:=λa b:List Nat=>¬b<a) (λa b _ _ h3 h4=>by
  by_cases e:a=b
  ·exact e
  ·exact absurd (v7 h4 e) h3) hs C8 h1
 have h3:ss.map dC=jj.map dC:=by rw[h2,nS]
 have h4:=congrArg (List.map eG) h3;rw[Uo,Uo,show(eG∘dC)=id from funext jW,P0,P0]at h4;exact h4
theorem O2:kh G:=by
 intro H hH;refine sWk func278 ?_;refine go ?_;refine c1_ rfl (NP (q:=C9) ax Ej) ?_;rintro _ _ ⟨b,rfl,rfl⟩;refine go ?_;refine c1_ rfl (K9 G _ _ b _ inferInstance (by rw[Yh];have:=JZ;omega)) ?_;rintro _ _ ⟨rfl,ss,hp,a,rfl⟩;rw[O4 hp a];refine gR ?_;exact⟨_,hsb,b,rfl,rfl⟩
end
end Go.Sx
