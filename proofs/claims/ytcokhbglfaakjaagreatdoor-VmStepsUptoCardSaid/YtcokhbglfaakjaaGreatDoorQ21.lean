import Derived.Test.YtcokhbglfaakjaaGreatDoorQ15
set_option linter.all false
set_option maxHeartbeats 0
namespace Go.Sx
open Go Go.Proofs Tryz
set_option maxRecDepth 100000
section
variable {C:Array Value}{E:TypeId}{b:Nat}{fz:Nat×Nat}{w:World}{ys:List Int}
theorem Ce (l:List Int):(l.mergeSort λx y=>decide (x≤y))=jO l:=by
 have h:(l.mergeSort λx y=>decide (x≤y)).Pairwise λx y=>decide (x≤y)=true:=
  List.pairwise_mergeSort (le:=λx y=>decide (x≤y)) (λa b c h1 h2=>by simp only[Xq]at h1 h2⊢;omega) (λa b=>by simp only[Uh,Xq];omega) l
 exact List.Perm.eq_of_pairwise (le:=(· ≤ ·)) (λa b _ _ h1 h2=>Int.le_antisymm h1 h2) (h.imp fun{a b} hab=>Yt hab) (tD l) ((List.mergeSort_perm _ _).trans (jN l).symm)
theorem zY (x:Int):∀l:List Int,kc (l++ [x])=if l.getLast? =some x then kc l else kc l++ [x]
 | []=>rfl
 | [a]=>by
  show kc [a,x]=if some a=some x then [a]else [a,x];rw[kc]
  by_cases h:a=x
  ·subst h;rw[if_pos rfl,if_pos rfl];all_goals rfl
  ·rw[if_neg h,if_neg bA];all_goals rfl
 |a::b::l=>by
  have c:=zY x (b::l);rw[List.getLast?_cons_cons];show kc (a::b::(l++ [x]))=_;rw[kc,show b::(l++ [x])=(b::l)++ [x]from rfl,c,kc]
  by_cases h:a=b
  ·rw[if_pos h,if_pos h]
  ·rw[if_neg h,if_neg h]
   split <;> rfl
theorem Dy (xs:List Int):∀m,m≤xs.length→Lib.compactUpTo xs.toArray m=kc (xs.take m)
 | 0,_=>rfl
 |m+1,h=>by
  have hm:xs[m]? =some xs[m]:=Yi a8;rw[Lib.compactUpTo_succ,Dy xs m a8,dK hm,zY];have a:xs.toArray[m]! =xs[m]:=by simp[getElem!_pos,show m<xs.length from a8]
  rcases m with _|k
  ·rw[if_pos (Lib.keeps_lt_one _ 0 a8),a];all_goals rfl
  ·have b:xs.toArray[k]! =xs[k]:=by simp[getElem!_pos,show k<xs.length from a8]
   have c:(xs.take (k+1)).getLast? =some xs[k]:=by
    rw[List.getLast?_eq_getElem?,Yg,show min (k+1) xs.length-1=k from a8,X3,if_pos a8,Yi a8]
   rw[c,a]
   by_cases hk:xs[k]=xs[k+1]
   ·rw[Lib.keeps_neg a8 (by rw[a,show k+1-1=k from rfl,b,hk]),if_pos (show some xs[k]=some xs[k+1]from by rw[hk])];simp
   ·rw[Lib.keeps_pos (by rw[a,show k+1-1=k from rfl,b];exact λh9=>hk h9.symm),if_neg (show ¬some xs[k]=some xs[k+1]from by simpa using hk)];simp
theorem Dz (xs:List Int):Lib.compact xs=kc xs:=by
 rw[Lib.compact,Dy xs xs.length (Xl _),Xn]
theorem Bm:∀ss:List Int,eI.all ss=ss.map (Value.int .i64)
 | []=>rfl
 |q::r=>by show Value.int .i64 q::eI.all r=_;rw[Bm r];all_goals rfl
theorem zB {xs:List Int}(d:w.heap[b]? =some (.cells C E fz)) (hf:Okf C.size fz) (f:∀(j:Nat) (v:Value),(eI.all xs)[j]? =some v→C[j]? =some v):Go.Sort.Holds (Value.int .i64) w b 0 xs.toArray:=by
 intro j hj;have a:j<xs.length:=by simpa using hj
 have e:C[j]? =some (.int .i64 xs[j]):=f j _ (by rw[Bm,Xd,Yi a];all_goals rfl);have c:=(Vc.1 e).1
 constructor
 ·simp only[World.cell?,d,Vw];simp[e,a]
 ·simp only[World.frozen?,d,Vw];have:=hf.free j c;simp only[Ua,Xy];omega
theorem Gr {n:Nat}{os:Array Obj}{L2:pw}(g:w.heap[b]? =some (.cells C E fz)) (hl:lB w ([(b,.cells C E fz)]++L2)):lB (Go.Sort.grow (Go.Sort.putRow (Value.int .i64) (Go.Sort.ahead w n) b 0 ys.toArray) os) ([(b,.cells (Go.Sort.putCells (Value.int .i64) 0 ys.toArray C) E fz)]++L2):=by
 have f:b<w.heap.size:=(Vc.1 g).1;have a:=hl.nodup;simp only[Xp,Xs,Ud,Yd,Ye,U1]at a;refine⟨by simpa using a,λx hx=>?_⟩;rcases Xo.1 hx with rfl|hx
 ·simp only[Go.Sort.grow,Go.Sort.putRow,Go.Sort.mapBlock,Go.Sort.ahead];rw[Uu (by simpa using f),T5,if_pos rfl,g];all_goals rfl
 ·have hx:x∈L2:=hx;have e:b≠x.1:=λh=>a.1 (h ▸ Vj hx);have c:=hl.at_ x (Yx _ hx);have d:=(Vc.1 c).1;simp only[Go.Sort.grow,Go.Sort.putRow,Go.Sort.mapBlock,Go.Sort.ahead];rw[Uu (by simpa using d),T5,if_neg e,c]
theorem KK {j:Nat}{v:Value}(hl:ys.length≤C.size) (h:(eI.all ys)[j]? =some v):(Go.Sort.putCells (Value.int .i64) 0 ys.toArray C)[j]? =some v:=by
 rw[Bm,Xd]at h;cases hm:ys[j]? with
 |none=>rw[hm]at h;cases h
 |some q=>
  rw[hm]at h;obtain rfl:=Xk h;have a:=(Yk.1 hm).1;have c:=(Yk.1 hm).2;have b:j<C.size:=a8;simp[Go.Sort.putCells,b,a,c]
theorem O8:ph:=by
 intro G H R s a hr hn;refine⟨n7 func184 rfl aa,λw m=>?_⟩;obtain⟨d,L,hL,hl⟩:=m;obtain⟨L',hp,L1,L2,rfl,c,k⟩:=hr.out L hL;have hl':=v8 hp hl;rcases c with⟨rfl,rfl,rfl⟩|⟨b,C,E,fz,h1,h2,h3,rfl,h5,i,p⟩
 ·refine(slices_Sort_int_none none 0 w).mono ?_;rintro e l ⟨rfl,rfl⟩;exact⟨Row SV.nil eI []::R,⟨d,L2,⟨[],L2,rfl,.inl ⟨rfl,rfl,rfl⟩,k⟩,by simpa using hl'⟩,rfl,rfl⟩
 ·have h:w.heap[b]? =some (.cells C E fz):=hl'.at_ (b,.cells C E fz) aq;have g:b<w.heap.size:=(Vc.1 h).1;have hv: #[s.val]= #[Value.slice (some ⟨b,0,none⟩) a.length s.c]:=by
   simp only[SV.val,h1,h2]
  rw[hv];refine(slices_Sort_int b 0 s.c a w (zB h i p) g a8).mono ?_;rintro e l ⟨rfl,n,os,rfl⟩;rw[Ce];have f:(jO a).length=a.length:=(jN a).length_eq;have h5':C.size=s.c:=by rw[h5];exact U5 _
  refine⟨Row s eI (jO a)::R,⟨⟨d.os,d.tape,d.output⟩, [(b,.cells (Go.Sort.putCells (Value.int .i64) 0 (jO a).toArray C) E fz)]++L2,⟨_,L2,rfl,.inr ⟨b,_,E,fz,h1,by rw[f];exact h2,h3,rfl,by simp[Go.Sort.putCells,h5],by simpa [Go.Sort.putCells] using i,λj v hv=>KK a8 hv⟩,k⟩,Gr h hl'⟩,rfl,rfl⟩
theorem FC:jf:=by
 intro G H R s a hr hn;refine⟨n7 func186 rfl aa,λw k=>?_⟩;obtain⟨d,L,hL,hl⟩:=k;obtain⟨L',hp,L1,L2,rfl,c,h⟩:=hr.out L hL;have hl':=v8 hp hl;rcases c with⟨rfl,rfl,rfl⟩|⟨b,C,E,fz,h1,h2,h3,rfl,h5,f,l⟩
 ·refine(slices_Compact_int_empty none 0 w).mono ?_;rintro e i ⟨rfl,rfl⟩;exact⟨Row SV.nil eI []::R,⟨d,L2,⟨[],L2,rfl,.inl ⟨rfl,rfl,rfl⟩,h⟩,by simpa using hl'⟩,SV.nil,rfl,rfl⟩
 ·have g:w.heap[b]? =some (.cells C E fz):=hl'.at_ (b,.cells C E fz) aq;have hv: #[s.val]= #[Value.slice (some ⟨b,0,none⟩) a.length s.c]:=by
   simp only[SV.val,h1,h2]
  rw[hv];refine(slices_Compact_int b 0 s.c a w (zB g f l) a8 a8).mono ?_;rintro e i ⟨rfl,q,rfl⟩;rw[Dz];have hdl:=um a;have h5':C.size=s.c:=by rw[h5];exact U5 _
  refine⟨Row ⟨some ⟨b,0,none⟩,(kc a).length,s.c⟩ eI (kc a)::R,⟨⟨d.os,d.tape,d.output⟩, [(b,.cells (Go.Sort.putCells (Value.int .i64) 0 (kc a++List.replicate (a.length-(kc a).length) 0).toArray C) E fz)]++L2,⟨_,L2,rfl,.inr ⟨b,_,E,fz,rfl,rfl,by show(kc a).length≤s.c;omega,rfl,by simp[Go.Sort.putCells,h5],by simpa [Go.Sort.putCells] using f,λj v hv=>KK (by rw[Ya,Xe];omega) (by
   rw[Bm,Xd]at hv⊢;cases hm:(kc a)[j]? with
   |none=>rw[hm]at hv;cases hv
   |some z=>rw[Yv (Yk.1 hm).1,hm];rw[hm]at hv;exact hv)⟩,h⟩,?_⟩,⟨some ⟨b,0,none⟩,(kc a).length,s.c⟩,rfl,rfl⟩
  have:=Gr (n:=q) (os:= #[]) (ys:=kc a++List.replicate (a.length-(kc a).length) 0) g hl';rw[Go.Sort.grow_empty]at this;exact this
end
end Go.Sx
