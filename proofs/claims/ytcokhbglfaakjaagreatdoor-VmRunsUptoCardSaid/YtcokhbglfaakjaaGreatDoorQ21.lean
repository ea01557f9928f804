import Derived.Test.YtcokhbglfaakjaaGreatDoorQ14
import Derived.Test.YtcokhbglfaakjaaGreatDoorQ16
import Derived.Test.YtcokhbglfaakjaaGreatDoorQ15
set_option linter.all false
set_option maxHeartbeats 0
namespace Go.Sx
open Go Go.Proofs Tryz
set_option maxRecDepth 100000
theorem VU:∀x y:List UInt8,x<y↔x.map (·.toNat)<y.map (·.toNat):=by
 intro x
 induction x with
 |nil=>intro y;cases y <;> simp
 |cons a x ih=>
  intro y;cases y with
  |nil=>simp
  |cons b y=>
   simp only[Xs,U0,ih y,UInt8.lt_iff_toNat_lt,UInt8.toNat_inj]
def by8 (q:ByteArray):List UInt8:=q.data.toList
def un8 (l:List UInt8):ByteArray:=⟨l.toArray⟩
theorem Nu (q:ByteArray):un8 (by8 q)=q:=by cases q;simp[un8,by8]
theorem DI (l:List UInt8):dC (un8 l)=l.map (·.toNat):=by simp[dC,un8]
theorem El (l:List (List UInt8)):(((l.mergeSort λx y=>decide (x≤y)).map un8).map dC).Pairwise (λa b=>¬b<a):=by
 rw[Uo];refine U8.2 ?_;have h:(l.mergeSort λx y=>decide (x≤y)).Pairwise λx y=>decide (x≤y)=true:=by
  refine List.pairwise_mergeSort (le:=λx y=>decide (x≤y)) (λa b c h1 h2=>?_) (λa b=>?_) l
  ·simp only[Xq]at h1 h2⊢;exact List.le_trans h1 h2
  ·simp only[Uh,Xq];exact List.le_total a b
 refine h.imp fun{a b} hab=>?_;simp only[Function.comp,DI,←VU];exact List.not_lt.2 (Yt hab)
theorem Bl:∀ss:List ByteArray,eS.all ss=ss.map Value.string
 | []=>rfl
 |q::r=>by show Value.string q::eS.all r=_;rw[Bl r];all_goals rfl
theorem v8 {w:World}{L a:pw}(hp:a.Perm L) (h:lB w L):lB w a:=⟨((hp.map (·.1)).nodup_iff).2 h.nodup,λx hx=>h.at_ x (hp.mem_iff.1 hx)⟩
theorem K9:ot:=by
 intro G H R s a hr hn;refine⟨n7 func215 rfl aa,λw X=>?_⟩;obtain⟨z,L,hL,hl⟩:=X;obtain⟨L',hp,L1,L2,rfl,t,T⟩:=hr.out L hL;have hl':=v8 hp hl;rcases t with⟨rfl,rfl,rfl⟩|⟨b,C,E,fz,h1,h2,h3,rfl,h5,S,Y⟩
 ·refine(slices_Sort_string_none none 0 w).mono ?_;rintro e U ⟨rfl,rfl⟩;exact⟨Row SV.nil eS []::R,⟨z,L2,⟨[],L2,rfl,.inl ⟨rfl,rfl,rfl⟩,T⟩,by simpa using hl'⟩,rfl, [],.refl _,List.Pairwise.nil,rfl⟩
 ·have u:w.heap[b]? =some (.cells C E fz):=hl'.at_ (b,.cells C E fz) aq;have r:b<w.heap.size:=(Vc.1 u).1;have c:∀(j:Nat) (q:ByteArray),a[j]? =some q→C[j]? =some (.string q):=λj q K=>Y j _ (by
   have:=Bl a;rw[this,Xd,K];all_goals rfl)
  have hH:Go.Sort.Holds encStr w b 0 (a.map by8).toArray:=by
   intro j hj;have p:j<a.length:=by simpa using hj
   have M:a[j]? =some a[j]:=Yi p;have A:=c j _ M;have k:=(Vc.1 A).1
   constructor
   ·simp only[World.cell?,u,Vw];simp[A,encStr,by8,p]
   ·simp only[World.frozen?,u,Vw];have:=S.free j k;simp only[Ua,Xy];omega
  have hv: #[s.val]= #[Value.slice (some ⟨b,0,none⟩) (a.map by8).length s.c]:=by
   simp only[SV.val,h1,h2,Yh]
  rw[hv];refine(slices_Sort_string b 0 s.c (a.map by8) w hH r bV).mono ?_;rintro e U ⟨rfl,n,os,rfl⟩;obtain⟨d,i⟩:=ex ((a.map by8).mergeSort λx y=>decide (x≤y));have m:d.Perm (a.map by8):=by rw[i];exact List.mergeSort_perm _ _
  have g:d.length=a.length:=by rw[m.length_eq,Yh]
  rw[←i];refine⟨Row s eS (d.map un8)::R,?_,rfl,d.map un8,?_,?_,rfl⟩
  ·refine⟨⟨z.os,z.tape,z.output⟩, [(b,.cells (Go.Sort.putCells encStr 0 d.toArray C) E fz)]++L2,⟨_,L2,rfl,.inr ⟨b,_,E,fz,h1,by simp[h2,g],h3,rfl,by simp[Go.Sort.putCells,h5],by simpa [Go.Sort.putCells] using S,?_⟩,T⟩,?_⟩
   ·intro j v hv;have:=Bl (d.map un8);rw[this,Uo,Xd]at hv;cases hm:d[j]? with
    |none=>rw[hm]at hv;cases hv
    |some q=>
     rw[hm]at hv;obtain rfl:=Xk hv;have N:=(Yk.1 hm).1;obtain⟨V,J⟩:=gE a j;have A:=c j V J;have k:=(Vc.1 A).1;have K:=(Yk.1 hm).2;simp[Go.Sort.putCells,k,N,K,un8]
   ·have f:=hl'.nodup;simp only[Xp,Xs,Ud,Yd,Ye,U1]at f⊢;refine⟨by simpa using f,λx hx=>?_⟩;rcases Xo.1 hx with rfl|hx
    ·simp only[Go.Sort.grow,Go.Sort.putRow,Go.Sort.mapBlock,Go.Sort.ahead];rw[Uu (by simpa using r),T5,if_pos rfl,u];all_goals rfl
    ·have F:b≠x.1:=λh=>f.1 (h ▸ Vj hx);have l:=hl'.at_ x (by simp[hx]);have B:=(Vc.1 l).1;simp only[Go.Sort.grow,Go.Sort.putRow,Go.Sort.mapBlock,Go.Sort.ahead];rw[Uu (by simpa using B),T5,if_neg F,l]
  ·have h9:=m.map un8;rw[Uo,show(un8∘by8)=id from funext Nu,P0]at h9;exact h9
  ·rw[i];exact El _
section
variable {G:dJ}{H:dD}
theorem O7 [hs:Spc H]{w:World}(a:Sat G w H):Lib.TabIs prog w "strings.asciiSpace" .u8 Lib.asciiSpaceTab:=by
 obtain⟨hS,L,hL,hl⟩:=a;obtain⟨E,fz,hm⟩:=hs.out L hL;have h:=hl.at_ _ hm;have c:prog.globalNamed "strings.asciiSpace" =some 26:=aa;have b:(Lib.asciiSpaceTab.map λz=>Value.int .u8 z).toArray=((List.range 256).map λi=>Value.int .u8 (if i=9∨i=10∨i=11∨i=12∨i=13∨i=32 then 1 else 0)).toArray:=by
  have e:Lib.asciiSpaceTab=(List.range 256).map λi=>(if i=9∨i=10∨i=11∨i=12∨i=13∨i=32 then(1:Int)else 0):=ax;rw[e,Uo];all_goals rfl
 show w.var? prog "strings.asciiSpace" =_;simp only[World.var?,c,Option.bind_some,h,b]
theorem NP {q:ByteArray} [Spc H] (f:q.size<4294967281) (ha:∀b∈q.data.toList,b.toNat<128):SC G prog 300 [.string q] H (λv h=>∃s:SV,v=s.val∧h=Row s eS ((Lib.fields q.data.toList).map un8)::H):=by
 refine⟨n7 func300 rfl aa,λw d=>?_⟩;refine(strings_Fields q w f (λj b g=>ha b (Yj g)) (O7 d)).mono ?_;rintro e w' ⟨rfl,rfl⟩;obtain⟨c,L,hL,hl⟩:=d;refine⟨Row ⟨some ⟨w.heap.size,0,none⟩,(Lib.fields q.data.toList).length,(Lib.fields q.data.toList).length⟩ eS ((Lib.fields q.data.toList).map un8)::H,⟨⟨c.os,c.tape,c.output⟩, [(w.heap.size,.cells ((Lib.fields q.data.toList).map λl=>Value.string ⟨l.toArray⟩).toArray 9 (0,0))]++L,⟨_,L,rfl,.inr ⟨w.heap.size,_,9,(0,0),rfl,aq,Xl _,rfl,by simp[eS],.inl rfl,λj v hv=>?_⟩,hL⟩,?_⟩,_,rfl,rfl⟩
 ·rw[Bl,Uo]at hv
  simpa [un8,Function.comp_def] using hv
 ·have a:∀x∈L,x.1<w.heap.size:=λx hx=>(Vc.1 (hl.at_ x hx)).1;refine⟨?_,λx hx=>?_⟩
  ·simp only[Xp,Xs,Ud,Yd,Ye,U1];refine⟨λhm=>?_,hl.nodup⟩;obtain⟨x,hx,he⟩:=Xt.1 hm;have:=a x hx;omega
  ·rcases Xm.1 hx with hx|hx
   ·simp only[Vb]at hx;subst hx;exact Array.getElem?_push_size
   ·have:=a x hx;simp only[World.alloc];rw[Array.getElem?_push_lt this,←Array.getElem?_eq_getElem this];exact hl.at_ x hx
def C9:ByteArray:=⟨#[97,32,97,110,32,97,110,100,32,97,114,101,32,97,115,32,97,116,32,98,101,32,98,117,116,32,98,121,32,102,111,114,32,102,114,111,109,32,104,97,115,32,104,101,32,105,102,32,105,110,32,105,110,116,111,32,105,115,32,105,116,32,105,116,115,32,110,111,32,110,111,116,32,111,102,32,111,110,32,111,114,32,115,104,101,32,115,111,32,115,117,99,104,32,116,104,97,116,32,116,104,101,32,116,104,101,105,114,32,116,104,101,110,32,116,104,101,114,101,32,116,104,101,115,101,32,116,104,101,121,32,116,104,105,115,32,116,111,32,119,97,115,32,119,101,32,119,101,114,101,32,119,105,108,108,32,119,105,116,104,32,121,111,117]⟩
theorem Ej:∀b∈C9.data.toList,b.toNat<128:=ax
theorem HS:(((Lib.fields C9.data.toList).map λl=>l.map (·.toNat)).isPerm jA)=true:=ax
theorem C8:jA.Pairwise (λa b=>¬b<a):=ax
theorem JZ:(Lib.fields C9.data.toList).length≤1000:=ax
theorem O4 {ss:List ByteArray}(hp:ss.Perm ((Lib.fields C9.data.toList).map un8)) (hs:(ss.map dC).Pairwise (λa b=>¬b<a)):ss=jj:=by
 have h1:(ss.map dC).Perm jA:=by
  refine(hp.map dC).trans ?_;rw[Uo,show(dC∘un8)=λl:List UInt8=>l.map (·.toNat)from funext DI];exact List.isPerm_iff.1 HS
 have h2:ss.map dC=jA:=List.Perm.eq_of_pairwise (le:=λa b:List Nat=>¬b<a) (λa b _ _ h3 h4=>by
  by_cases e:a=b
  ·exact e
  ·exact absurd (v7 h4 e) h3) hs C8 h1
 have h3:ss.map dC=jj.map dC:=by rw[h2,nS]
 have h4:=congrArg (List.map eG) h3;rw[Uo,Uo,show(eG∘dC)=id from funext jW,P0,P0]at h4;exact h4
theorem O2:kh G:=by
 intro H hH;refine sWk func278 ?_;refine go ?_;refine c1_ rfl (NP (q:=C9) ax Ej) ?_;rintro _ _ ⟨b,rfl,rfl⟩;refine go ?_;refine c1_ rfl (K9 G _ _ b _ inferInstance (by rw[Yh];have:=JZ;omega)) ?_;rintro _ _ ⟨rfl,ss,hp,a,rfl⟩;rw[O4 hp a];refine gR ?_;exact⟨_,hsb,b,rfl,rfl⟩
end
section
variable {C:Array Value}{E:TypeId}{b:Nat}{fz:Nat×Nat}{w:World}{ys:List Int}
theorem Ce (l:List Int):(l.mergeSort λx y=>decide (x≤y))=jO l:=by
 have h:(l.mergeSort λx y=>decide (x≤y)).Pairwise λx y=>decide (x≤y)=true:=
  List.pairwise_mergeSort (le:=λx y=>decide (x≤y)) (λa b c h1 h2=>by simp only[Xq]at h1 h2⊢;omega) (λa b=>by simp only[Uh,Xq];omega) l
 exact List.Perm.eq_of_pairwise (le:=(· ≤ ·)) (λa b _ _ h1 h2=>Int.le_antisymm h1 h2) (h.imp fun{a b} hab=>Yt hab) (tD l) ((List.mergeSort_perm _ _).trans (jN l).symm)
theorem zY (x:Int):∀l:List Int,kc (l++ [x])=if l.getLast? =some x then kc l else kc l++ [x]
 | []=>rfl
 | [a]=>by
  show kc [a,x]=if some a=some x then [a]else [a,x];rw[kc]
  by_cases h:a=x
  ·subst h;rw[if_pos rfl,if_pos rfl];all_goals rfl
  ·rw[if_neg h,if_neg bA];all_goals rfl
 |a::b::l=>by
  have c:=zY x (b::l);rw[List.getLast?_cons_cons];show kc (a::b::(l++ [x]))=_;rw[kc,show b::(l++ [x])=(b::l)++ [x]from rfl,c,kc]
  by_cases h:a=b
  ·rw[if_pos h,if_pos h]
  ·rw[if_neg h,if_neg h]
   split <;> rfl
theorem Dy (xs:List Int):∀m,m≤xs.length→Lib.compactUpTo xs.toArray m=kc (xs.take m)
 | 0,_=>rfl
 |m+1,h=>by
  have hm:xs[m]? =some xs[m]:=Yi a8;rw[Lib.compactUpTo_succ,Dy xs m a8,dK hm,zY];have a:xs.toArray[m]! =xs[m]:=by simp[getElem!_pos,show m<xs.length from a8]
  rcases m with _|k
  ·rw[if_pos (Lib.keeps_lt_one _ 0 a8),a];all_goals rfl
  ·have b:xs.toArray[k]! =xs[k]:=by simp[getElem!_pos,show k<xs.length from a8]
   have c:(xs.take (k+1)).getLast? =some xs[k]:=by
    rw[List.getLast?_eq_getElem?,Yg,show min (k+1) xs.length-1=k from a8,X3,if_pos a8,Yi a8]
   rw[c,a]
   by_cases hk:xs[k]=xs[k+1]
   ·rw[Lib.keeps_neg a8 (by rw[a,show k+1-1=k from rfl,b,hk]),if_pos (show some xs[k]=some xs[k+1]from by rw[hk])];simp
   ·rw[Lib.keeps_pos (by rw[a,show k+1-1=k from rfl,b];exact λh9=>hk h9.symm),if_neg (show ¬some xs[k]=some xs[k+1]from by simpa using hk)];simp
theorem Dz (xs:List Int):Lib.compact xs=kc xs:=by
 rw[Lib.compact,Dy xs xs.length (Xl _),Xn]
theorem Bm:∀ss:List Int,eI.all ss=ss.map (Value.int .i64)
 | []=>rfl
 |q::r=>by show Value.int .i64 q::eI.all r=_;rw[Bm r];all_goals rfl
theorem zB {xs:List Int}(d:w.heap[b]? =some (.cells C E fz)) (hf:Okf C.size fz) (f:∀(j:Nat) (v:Value),(eI.all xs)[j]? =some v→C[j]? =some v):Go.Sort.Holds (Value.int .i64) w b 0 xs.toArray:=by
 intro j hj;have a:j<xs.length:=by simpa using hj
 have e:C[j]? =some (.int .i64 xs[j]):=f j _ (by rw[Bm,Xd,Yi a];all_goals rfl);have c:=(Vc.1 e).1
 constructor
 ·simp only[World.cell?,d,Vw];simp[e,a]
 ·simp only[World.frozen?,d,Vw];have:=hf.free j c;simp only[Ua,Xy];omega
theorem Gr {n:Nat}{os:Array Obj}{L2:pw}(g:w.heap[b]? =some (.cells C E fz)) (hl:lB w ([(b,.cells C E fz)]++L2)):lB (Go.Sort.grow (Go.Sort.putRow (Value.int .i64) (Go.Sort.ahead w n) b 0 ys.toArray) os) ([(b,.cells (Go.Sort.putCells (Value.int .i64) 0 ys.toArray C) E fz)]++L2):=by
 have f:b<w.heap.size:=(Vc.1 g).1;have a:=hl.nodup;simp only[Xp,Xs,Ud,Yd,Ye,U1]at a;refine⟨by simpa using a,λx hx=>?_⟩;rcases Xo.1 hx with rfl|hx
 ·simp only[Go.Sort.grow,Go.Sort.putRow,Go.Sort.mapBlock,Go.Sort.ahead];rw[Uu (by simpa using f),T5,if_pos rfl,g];all_goals rfl
 ·have hx:x∈L2:=hx;have e:b≠x.1:=λh=>a.1 (h ▸ Vj hx);have c:=hl.at_ x (Yx _ hx);have d:=(Vc.1 c).1;simp only[Go.Sort.grow,Go.Sort.putRow,Go.Sort.mapBlock,Go.Sort.ahead];rw[Uu (by simpa using d),T5,if_neg e,c]
theorem KK {j:Nat}{v:Value}(hl:ys.length≤C.size) (h:(eI.all ys)[j]? =some v):(Go.Sort.putCells (Value.int .i64) 0 ys.toArray C)[j]? =some v:=by
 rw[Bm,Xd]at h;cases hm:ys[j]? with
 |none=>rw[hm]at h;cases h
 |some q=>
  rw[hm]at h;obtain rfl:=Xk h;have a:=(Yk.1 hm).1;have c:=(Yk.1 hm).2;have b:j<C.size:=a8;simp[Go.Sort.putCells,b,a,c]
theorem O8:ph:=by
 intro G H R s a hr hn;refine⟨n7 func184 rfl aa,λw m=>?_⟩;obtain⟨d,L,hL,hl⟩:=m;obtain⟨L',hp,L1,L2,rfl,c,k⟩:=hr.out L hL;have hl':=v8 hp hl;rcases c with⟨rfl,rfl,rfl⟩|⟨b,C,E,fz,h1,h2,h3,rfl,h5,i,p⟩
 ·refine(slices_Sort_int_none none 0 w).mono ?_;rintro e l ⟨rfl,rfl⟩;exact⟨Row SV.nil eI []::R,⟨d,L2,⟨[],L2,rfl,.inl ⟨rfl,rfl,rfl⟩,k⟩,by simpa using hl'⟩,rfl,rfl⟩
 ·have h:w.heap[b]? =some (.cells C E fz):=hl'.at_ (b,.cells C E fz) aq;have g:b<w.heap.size:=(Vc.1 h).1;have hv: #[s.val]= #[Value.slice (some ⟨b,0,none⟩) a.length s.c]:=by
   simp only[SV.val,h1,h2]
  rw[hv];refine(slices_Sort_int b 0 s.c a w (zB h i p) g a8).mono ?_;rintro e l ⟨rfl,n,os,rfl⟩;rw[Ce];have f:(jO a).length=a.length:=(jN a).length_eq;have h5':C.size=s.c:=by rw[h5];exact U5 _
  refine⟨Row s eI (jO a)::R,⟨⟨d.os,d.tape,d.output⟩, [(b,.cells (Go.Sort.putCells (Value.int .i64) 0 (jO a).toArray C) E fz)]++L2,⟨_,L2,rfl,.inr ⟨b,_,E,fz,h1,by rw[f];exact h2,h3,rfl,by simp[Go.Sort.putCells,h5],by simpa [Go.Sort.putCells] using i,λj v hv=>KK a8 hv⟩,k⟩,Gr h hl'⟩,rfl,rfl⟩
theorem FC:jf:=by
 intro G H R s a hr hn;refine⟨n7 func186 rfl aa,λw k=>?_⟩;obtain⟨d,L,hL,hl⟩:=k;obtain⟨L',hp,L1,L2,rfl,c,h⟩:=hr.out L hL;have hl':=v8 hp hl;rcases c with⟨rfl,rfl,rfl⟩|⟨b,C,E,fz,h1,h2,h3,rfl,h5,f,l⟩
 ·refine(slices_Compact_int_empty none 0 w).mono ?_;rintro e i ⟨rfl,rfl⟩;exact⟨Row SV.nil eI []::R,⟨d,L2,⟨[],L2,rfl,.inl ⟨rfl,rfl,rfl⟩,h⟩,by simpa using hl'⟩,SV.nil,rfl,rfl⟩
 ·have g:w.heap[b]? =some (.cells C E fz):=hl'.at_ (b,.cells C E fz) aq;have hv: #[s.val]= #[Value.slice (some ⟨b,0,none⟩) a.length s.c]:=by
   simp only[SV.val,h1,h2]
  rw[hv];refine(slices_Compact_int b 0 s.c a w (zB g f l) a8 a8).mono ?_;rintro e i ⟨rfl,q,rfl⟩;rw[Dz];have hdl:=um a;have h5':C.size=s.c:=by rw[h5];exact U5 _
  refine⟨Row ⟨some ⟨b,0,none⟩,(kc a).length,s.c⟩ eI (kc a)::R,⟨⟨d.os,d.tape,d.output⟩, [(b,.cells (Go.Sort.putCells (Value.int .i64) 0 (kc a++List.replicate (a.length-(kc a).length) 0).toArray C) E fz)]++L2,⟨_,L2,rfl,.inr ⟨b,_,E,fz,rfl,rfl,by show(kc a).length≤s.c;omega,rfl,by simp[Go.Sort.putCells,h5],by simpa [Go.Sort.putCells] using f,λj v hv=>KK (by rw[Ya,Xe];omega) (by
   rw[Bm,Xd]at hv⊢;cases hm:(kc a)[j]? with
   |none=>rw[hm]at hv;cases hv
   |some z=>rw[Yv (Yk.1 hm).1,hm];rw[hm]at hv;exact hv)⟩,h⟩,?_⟩,⟨some ⟨b,0,none⟩,(kc a).length,s.c⟩,rfl,rfl⟩
  have:=Gr (n:=q) (os:= #[]) (ys:=kc a++List.replicate (a.length-(kc a).length) 0) g hl';rw[Go.Sort.grow_empty]at this;exact this
end
end Go.Sx
