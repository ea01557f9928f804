import Derived.Test.YtefgpomabdplbaaGreatDoorQ47
set_option linter.unusedVariables false
set_option linter.unusedSimpArgs false
set_option linter.unusedSectionVars false
set_option linter.unnecessarySimpa false
set_option maxHeartbeats 0
namespace Go.Sx
open Go Go.Proofs
set_option maxRecDepth 100000
theorem C7 {x:Int}:∀{l:List Int},l.Pairwise (· ≤ ·)→(AF x l).Pairwise (· ≤ ·)
 | [],_=> by simp[AF]
 |y::l,h=> by
  rw[AF]
  obtain⟨h1,h2⟩:=List.pairwise_cons.1 h
  split
  ·rename_i hx
   refine List.pairwise_cons.2 ⟨fun z hz=> ?_,h⟩
   rcases List.mem_cons.1 hz with rfl|hz
   ·exact hx
   ·exact Int.le_trans hx (h1 z hz)
  ·rename_i hx
   refine List.pairwise_cons.2 ⟨fun z hz=> ?_,C7 h2⟩
   rcases List.mem_cons.1 ((qT x l).mem_iff.1 hz)with rfl|hz
   ·omega
   ·exact h1 z hz
theorem xU:∀l:List Int,(gK l).Pairwise (· ≤ ·)
 | []=> by simp[gK]
 |x::l=> C7 (xU l)
theorem xV (l:List Int):(l.mergeSort fun x y=> decide (x≤y))=gK l:=by
 have h:(l.mergeSort fun x y=> decide (x≤y)).Pairwise fun x y=> decide (x≤y)=true:=
  List.pairwise_mergeSort (le:=fun x y=> decide (x≤y)) (fun a b c h1 h2=> by simp only[decide_eq_true_eq]at h1 h2⊢;omega) (fun a b=> by simp only[Bool.or_eq_true,decide_eq_true_eq];omega) l
 exact List.Perm.eq_of_pairwise (le:=(· ≤ ·)) (fun a b _ _ h1 h2=> Int.le_antisymm h1 h2) (h.imp fun{a b} hab=> Yt hab) (xU l) ((List.mergeSort_perm _ _).trans (kj l).symm)
theorem vT (x:Int):∀l:List Int,j8 (l++ [x])=if l.getLast? =some x then j8 l else j8 l++ [x]
 | []=> rfl
 | [a]=> by
  show j8 [a,x]=if some a=some x then [a]else [a,x]
  rw[j8]
  by_cases h:a=x
  ·subst h;rw[if_pos rfl,if_pos rfl];all_goals rfl
  ·rw[if_neg h,if_neg (aY)];all_goals rfl
 |a::b::l=> by
  have ih:=vT x (b::l)
  rw[List.getLast?_cons_cons]
  show j8 (a::b::(l++ [x]))=_
  rw[j8,show b::(l++ [x])=(b::l)++ [x]from rfl,ih,j8]
  by_cases h:a=b
  ·rw[if_pos h,if_pos h]
  ·rw[if_neg h,if_neg h]
   split <;> rfl
theorem zk (xs:List Int):∀m,m≤xs.length→Lib.compactUpTo xs.toArray m=j8 (xs.take m)
 | 0,_=> rfl
 |m+1,h=> by
  have hm:xs[m]? =some xs[m]:=Yi (aa)
  rw[Lib.compactUpTo_succ,zk xs m (aa),cP hm,vT]
  have e1:xs.toArray[m]! =xs[m]:=by simp[getElem!_pos,show m<xs.length from aa]
  rcases m with _|k
  ·rw[if_pos (Lib.keeps_lt_one _ 0 (aa)),e1];all_goals rfl
  ·have e2:xs.toArray[k]! =xs[k]:=by simp[getElem!_pos,show k<xs.length from aa]
   have e3:(xs.take (k+1)).getLast? =some xs[k]:=by
    rw[List.getLast?_eq_getElem?,Yg,show min (k+1) xs.length - 1=k from aa,List.getElem?_take,if_pos (aa),Yi (aa)]
   rw[e3,e1]
   by_cases hk:xs[k]=xs[k+1]
   ·rw[Lib.keeps_neg (aa) (by rw[e1,show k+1 - 1=k from rfl,e2,hk]),if_pos (show some xs[k]=some xs[k+1]from by rw[hk])]
    simp
   ·rw[Lib.keeps_pos (by rw[e1,show k+1 - 1=k from rfl,e2];exact fun h9=> hk h9.symm),if_neg (show ¬some xs[k]=some xs[k+1]from by simpa using hk)]
    simp
theorem zl (xs:List Int):Lib.compact xs=j8 xs:=by
 rw[Lib.compact,zk xs xs.length (Nat.le_refl _),List.take_length]
theorem x6:∀ss:List Int,eI.all ss=ss.map (Value.int .i64)
 | []=> rfl
 |q::r=> by show Value.int .i64 q::eI.all r=_;rw[x6 r];all_goals rfl
theorem vC {w:World}{b:Nat}{C:Array Value}{E:TypeId}{fz:Nat×Nat}{xs:List Int}(hb:w.heap[b]? =some (.cells C E fz)) (hf:Okf C.size fz) (h7:∀(j:Nat) (v:Value),(eI.all xs)[j]? =some v→C[j]? =some v):Go.Sort.Holds (Value.int .i64) w b 0 xs.toArray:=by
 intro j hj
 have hj2:j<xs.length:=by simpa using hj
 have hC:C[j]? =some (.int .i64 xs[j]):=h7 j _ (by rw[x6,Xd,Yi hj2];all_goals rfl)
 have hjC:=(Array.getElem?_eq_some_iff.1 hC).1
 constructor
 ·simp only[World.cell?,hb,Nat.zero_add]
  simp[hC,hj2]
 ·simp only[World.frozen?,hb,Nat.zero_add]
  have:=hf.free j hjC
  simp only[Bool.and_eq_false_iff,decide_eq_false_iff_not]
  omega
theorem BP {w:World}{n:Nat}{os:Array Obj}{b:Nat}{C:Array Value}{E:TypeId}{fz:Nat×Nat}{ys:List Int}{L2:nf}(hb:w.heap[b]? =some (.cells C E fz)) (hl:jc w ([(b, .cells C E fz)]++L2)):jc (Go.Sort.grow (Go.Sort.putRow (Value.int .i64) (Go.Sort.ahead w n) b 0 ys.toArray) os) ([(b, .cells (Go.Sort.putCells (Value.int .i64) 0 ys.toArray C) E fz)]++L2):=by
 have hbl:b<w.heap.size:=(Array.getElem?_eq_some_iff.1 hb).1
 have hnd:=hl.nodup
 simp only[List.map_append,List.map_cons,List.map_nil,Yd,Ye,List.nodup_cons]at hnd
 refine⟨by simpa using hnd,fun x hx=> ?_⟩
 rcases List.mem_cons.1 hx with rfl|hx
 ·simp only[Go.Sort.grow,Go.Sort.putRow,Go.Sort.mapBlock,Go.Sort.ahead]
  rw[Array.getElem?_append_left (by simpa using hbl),Array.getElem?_modify,if_pos rfl,hb];all_goals rfl
 ·have hx:x∈L2:=hx
  have hxb:b≠x.1:=fun h=> hnd.1 (h ▸ List.mem_map_of_mem hx)
  have hx2:=hl.at_ x (Yx _ hx)
  have hxl:=(Array.getElem?_eq_some_iff.1 hx2).1
  simp only[Go.Sort.grow,Go.Sort.putRow,Go.Sort.mapBlock,Go.Sort.ahead]
  rw[Array.getElem?_append_left (by simpa using hxl),Array.getElem?_modify,if_neg hxb,hx2]
theorem FE {C:Array Value}{ys:List Int}{j:Nat}{v:Value}(hl:ys.length≤C.size) (h:(eI.all ys)[j]? =some v):(Go.Sort.putCells (Value.int .i64) 0 ys.toArray C)[j]? =some v:=by
 rw[x6,Xd]at h
 cases hm:ys[j]? with
 |none=> rw[hm]at h;cases h
 |some q=>
  rw[hm]at h
  obtain rfl:=Option.some.inj h
  have hjl:=(Yk.1 hm).1
  have hq:=(Yk.1 hm).2
  have hjC:j<C.size:=aa
  simp[Go.Sort.putCells,hjC,hjl,hq]
theorem J0:jS:=by
 intro G H R s xs hr hn
 refine⟨ko Tryz.func166 rfl (a8),fun w hw=> ?_⟩
 obtain⟨hS,L,hL,hl⟩:=hw
 obtain⟨L',hp,L1,L2,rfl,hRow,hR⟩:=hr.out L hL
 have hl':=qQ hp hl
 rcases hRow with⟨rfl,rfl,rfl⟩|⟨b,C,E,fz,h1,h2,h3,rfl,h5,hf,h7⟩
 ·refine(Tryz.slices_Sort_int_none none 0 w).mono ?_
  rintro e w' ⟨rfl,rfl⟩
  exact⟨Row SV.nil eI []::R,⟨hS,L2,⟨[],L2,rfl, .inl ⟨rfl,rfl,rfl⟩,hR⟩,by simpa using hl'⟩,rfl,rfl⟩
 ·have hb:w.heap[b]? =some (.cells C E fz):=hl'.at_ (b, .cells C E fz) (an)
  have hbl:b<w.heap.size:=(Array.getElem?_eq_some_iff.1 hb).1
  have hv: [s.val].toArray= #[Value.slice (some ⟨b,0,none⟩) xs.length s.c]:=by
   simp only[SV.val,h1,h2]
  rw[hv]
  refine(Tryz.slices_Sort_int b 0 s.c xs w (vC hb hf h7) hbl (aa)).mono ?_
  rintro e w' ⟨rfl,n,os,rfl⟩
  rw[xV]
  have hsl:(gK xs).length=xs.length:=(kj xs).length_eq
  have h5':C.size=s.c:=by rw[h5];exact Nat.mul_one _
  refine⟨Row s eI (gK xs)::R,⟨⟨hS.os,hS.tape,hS.output⟩, [(b, .cells (Go.Sort.putCells (Value.int .i64) 0 (gK xs).toArray C) E fz)]++L2,⟨_,L2,rfl, .inr ⟨b,_,E,fz,h1,by rw[hsl];exact h2,h3,rfl,by simp[Go.Sort.putCells,h5],by simpa [Go.Sort.putCells] using hf,fun j v hv=> FE (aa) hv⟩,hR⟩,BP hb hl'⟩,rfl,rfl⟩
theorem Bd:fg:=by
 intro G H R s xs hr hn
 refine⟨ko Tryz.func168 rfl (a8),fun w hw=> ?_⟩
 obtain⟨hS,L,hL,hl⟩:=hw
 obtain⟨L',hp,L1,L2,rfl,hRow,hR⟩:=hr.out L hL
 have hl':=qQ hp hl
 rcases hRow with⟨rfl,rfl,rfl⟩|⟨b,C,E,fz,h1,h2,h3,rfl,h5,hf,h7⟩
 ·refine(Tryz.slices_Compact_int_empty none 0 w).mono ?_
  rintro e w' ⟨rfl,rfl⟩
  exact⟨Row SV.nil eI []::R,⟨hS,L2,⟨[],L2,rfl, .inl ⟨rfl,rfl,rfl⟩,hR⟩,by simpa using hl'⟩,SV.nil,rfl,rfl⟩
 ·have hb:w.heap[b]? =some (.cells C E fz):=hl'.at_ (b, .cells C E fz) (an)
  have hv: [s.val].toArray= #[Value.slice (some ⟨b,0,none⟩) xs.length s.c]:=by
   simp only[SV.val,h1,h2]
  rw[hv]
  refine(Tryz.slices_Compact_int b 0 s.c xs w (vC hb hf h7) (aa) (aa)).mono ?_
  rintro e w' ⟨rfl,q,rfl⟩
  rw[zl]
  have hdl:=uy xs
  have h5':C.size=s.c:=by rw[h5];exact Nat.mul_one _
  refine⟨Row ⟨some ⟨b,0,none⟩,(j8 xs).length,s.c⟩ eI (j8 xs)::R,⟨⟨hS.os,hS.tape,hS.output⟩, [(b, .cells (Go.Sort.putCells (Value.int .i64) 0 (j8 xs++List.replicate (xs.length - (j8 xs).length) 0).toArray C) E fz)]++L2,⟨_,L2,rfl, .inr ⟨b,_,E,fz,rfl,rfl,by show(j8 xs).length≤s.c;omega,rfl,by simp[Go.Sort.putCells,h5],by simpa [Go.Sort.putCells] using hf,fun j v hv=> FE (by rw[Ya,Xe];omega) (by
   rw[x6,Xd]at hv⊢
   cases hm:(j8 xs)[j]? with
   |none=> rw[hm]at hv;cases hv
   |some z=> rw[Yv (Yk.1 hm).1,hm];rw[hm]at hv;exact hv)⟩,hR⟩,?_⟩,⟨some ⟨b,0,none⟩,(j8 xs).length,s.c⟩,rfl,rfl⟩
  have:=BP (n:=q) (os:= #[]) (ys:=j8 xs++List.replicate (xs.length - (j8 xs).length) 0) hb hl'
  rw[Go.Sort.grow_empty]at this
  exact this
theorem F6 {G:cK}{H:cG}{i:Int}{s:ByteArray}:SC G Tryz.prog 44 [.int .i64 i, .string s] H (fun v H'=> ∃sv:SV,v= .agg [.int .i64 i,sv.val].toArray∧H'=Row sv eVl [(⟨#[116]⟩,s)]::H):=by
 refine sWk Tryz.func44 Tryz.ntmps44 ?_
 refine gk (k:=alc (k:=fun b4=>?_))
 refine on_ (qn_ (ws_ (wr_ (e_ mv (k:=e_ mv (k:=e_ (bld [(0,_),(1,_)]) (k:=gz eVl (k:=fun s8=>?_))))))))
 refine e_ (bld [(0,_),(1,_)]) (k:=gk (k:=rt_ Tryz.results44 (k:=?_)))
 exact⟨_,hsb,s8,rfl,rfl⟩
section
variable {G:cK}{P:Program}{t:Tm}{H:cG}{dst:Option Tmp}{ty:TypeId}{pos:String}{after:Array Edge}{g:Option (Nat×Bool)}
theorem D0 {T E:TypeId}{sz bb:Nat}{z:Value}{v1 v2 v3:Value}{x1 x2 x3:Operand}{α:Type}(e:Enc α) {y1 y2 y3:α} [hT:Und P T (.slice E)] [hE:Inf P E sz bb z] (hx1:evo t x1=some v1) (hx2:evo t x2=some v2) (hx3:evo t x3=some v3) [hv1:fK e v1 y1] [hv2:fK e v2 y2] [hv3:fK e v3 y3] (hsz:sz=e.sz):
 St G P ⟨dst, .buildSlice T 3 #[(0,x1),(1,x2),(2,x3)],ty,pos,after,g⟩ t H (fun u H'=> ∃s:SV,u=s.val∧H'=Row s e [y1,y2,y3]::H):=by
 subst hsz
 exact dC e [y1,y2,y3] (by simp only[rY,Enc.parts,hx1,hx2,hx3,hv1.out,hv2.out,hv3.out]) rfl (cv)
end
theorem Pa {H:cG}{i j k:Int}{a b c:SV}{x y z:List Val}(h1:Sl H a eVl x) (h2:Sl H b eVl y) (h3:Sl H c eVl z):ga H [(i,a),(j,b),(k,c)] [(i,x),(j,y),(k,z)]:=
 ⟨rfl,fun n p q hp hq=> by
   match n,hp,hq with
   | 0,hp,hq=> cases hp;cases hq;exact⟨rfl,h1⟩
   | 1,hp,hq=> cases hp;cases hq;exact⟨rfl,h2⟩
   | 2,hp,hq=> cases hp;cases hq;exact⟨rfl,h3⟩
   |n+3,hp,_=> cases hp⟩
theorem lV:dsz fxD≤30000000∧(eE fxF fxD).length≤2000000:=ay
theorem M5 {G:cK}{H:cG} [hg:Glb G H] [Tab H 27 lg] [Tab H 25 jP] [Spc H] (hT:gU G) (hS:lz):SC G Tryz.prog 21 [] H (fun v H'=> ∃(pt:PtA) (F:cG),dq F pt fxQ∧v= .pointer (some ⟨pt.p,0,none⟩)∧H'=fB F::H):=by
 have hok:=mZ AT lV.1 lV.2
 haveI hnil:∀H9,Sl H9 SV.nil eI []:=fun H9=> ⟨fun L hL=> ⟨rfl,Nat.le_refl _, .inl ⟨rfl,rfl⟩⟩⟩
 refine sWk Tryz.func21 Tryz.ntmps21 ?_
 refine ws_ (wr_ (e_ asn (k:=on_ (qn_ (ws_ (wr_ (e_ (bld [(0,_),(1,_)]) (k:=gz eF (k:=fun s3=>?_)))))))))
 refine e_ (bld [(0,_)]) (k:=alc (k:=fun b1=>?_))
 refine go ?_
 refine df cI (fun i=> [1,2,3,4,6].contains i) (fun k H=> (k=0→cQ H b1 [s3.val])) (?_)
 refine cE 0 rfl rfl (a8) rfl (cD fun H hH=>cw) (?_)
 refine cN 1 rfl (a8) rfl (fun k hk=> fun hi=> ab) (cW (vs:= [_,_]) rfl (F6)) ?_
 rintro _ _ ⟨sv1,rfl,rfl⟩
 refine cN 2 rfl (a8) rfl (fun k hk=> fun hi=> ab) (cW (vs:= [_,_]) rfl (F6)) ?_
 rintro _ _ ⟨sv2,rfl,rfl⟩
 refine cN 3 rfl (a8) rfl (fun k hk=> fun hi=> ab) (cW (vs:= [_,_]) rfl (F6)) ?_
 rintro _ _ ⟨sv3,rfl,rfl⟩
 refine cN 4 rfl (a8) rfl (fun k hk=> fun hi=> ab) (D0 eD rfl rfl rfl rfl) ?_
 rintro _ _ ⟨s9,rfl,rfl⟩
 refine af_ 5 (q:=cD fun H hH=>bld [(0,_)]) (k:=?_)
 refine cN 6 rfl (a8) rfl (fun k hk=> fun hi=> ab) (cW (vs:= [_,_]) rfl (KP (fv:=s3) (dv:=s9) (xv:=SV.nil) (fs:=fxF) (ds:=fxD) (dead:= []) (l:= [(0,sv1),(1,sv2),(2,sv3)]) hT hS (Pa inferInstance inferInstance inferInstance) AT lV.1 lV.2 (y6 hok) (ag))) ?_
 rintro _ _ ⟨pt,ws,F,hdo,hpt,rfl,rfl⟩
 refine af_ 7 (q:=cD fun H hH=>asn) (k:=db (a8) (fun k hk=> fun hi=> absurd hk (ad)) (gk (k:=rt_ Tryz.results21 (k:=?_))))
 exact⟨_,hsb,pt,F,by have h9:=hdo.2.2 rfl;rw[h9]at hpt;exact hpt,rfl,rfl⟩
theorem Ln:xj fxP fxQ 100:=by
 have h1:∀ps∈iQ fxP fxQ,dg ps≤100:=ay
 refine⟨⟨ag,ag,ag,ag,ag,an,ag,ag⟩,mZ AT lV.1 lV.2,⟨ag,ag,ag,fun x hx=> by simp at hx;omega⟩,h1,an,ag,an⟩
theorem LR {G:cK}{H:cG} [hg:Glb G H] [hia:Isa H] [Tab H 27 lg] [Tab H 25 jP] [Spc H] (hT:gU G) (hS:lz) (hSI:jS) (hCI:fg):SC G Tryz.prog 5 [] H (fun v H'=> v= .bool true∧H'=H):=by
 obtain⟨r1,r2,r3,r4⟩:=Np
 refine sWk Tryz.func5 Tryz.ntmps5 ?_
 refine go ?_
 refine c0_ rfl (M5 hT hS) (k:=?_)
 rintro _ _ ⟨pt,F,hpt,rfl,rfl⟩
 haveI hpt':∀H9,dq (fB F::H9) pt fxQ:=fun H9=> hpt.less lG
 refine e_ asn (k:=on_ (qn_ (ws_ (ws_ (wr_ (e_ mv (k:=?_)))))))
 refine e_ (dU rfl) (k:=?_)
 refine gk (k:=wi_ (k:=fun h1=>?_) (m:=fun h1=>?_))
 ·exact absurd h1 (an)
 refine gk (k:=gz eI (k:=fun s9=>?_))
 refine e_ (bld [(0,_),(1,_)]) (k:=gz eLf (k:=fun s11=>?_))
 refine gz eI (k:=fun s12=>?_)
 refine s_ (qI eB rfl rfl rfl rfl rfl) (k:=?_)
 rintro _ _ ⟨s13,rfl,rfl⟩
 refine e_ (bld [(0,_),(1,_),(4,_),(5,_)]) (k:=alc (k:=fun b2=>?_))
 refine sto (k:=on_ (qn_ (ws_ (wr_ (?_)))))
 haveI hn1:∀H9,Sl H9 SV.nil eNr []:=fun H9=> ⟨fun L hL=> ⟨rfl,Nat.le_refl _, .inl ⟨rfl,rfl⟩⟩⟩
 haveI hn2:∀H9,gE (Row s13 eB [4,0,1,0]::Row s12 eI [0]::Row s11 eLf [(0,⟨#[97]⟩)]::Row s9 eI [1]::H9) ⟨s9,s11,SV.nil,s12,s13, []⟩ fxP:=fun H9=> ⟨inferInstance,inferInstance,inferInstance,⟨rfl,fun i z n hz=> by cases hz⟩,inferInstance⟩
 haveI hn3:∀H9,qA (Row s13 eB [4,0,1,0]::H9) ⟨s9,s11,SV.nil,s12,s13, []⟩ fxP:=fun H9=> ⟨inferInstance⟩
 refine go ?_
 refine c2_ rfl (BB (a:=⟨s9,s11,SV.nil,s12,s13, []⟩) (p:=fxP) (pt:=pt) (q:=fxQ) Ln) (k:=?_)
 rintro _ _ (⟨e,hne,he,rfl,rfl⟩|⟨ins,m,a',sc,u,bs,F2,hnw,hbl,hmf,rfl,rfl⟩)
 ·rw[wL]at hne;cases hne
 refine e_ mv (k:=e_ exr (k:=e_ exr (k:=e_ asn (k:=e_ asn (k:=on_ (qn_ (ws_ (ws_ (wr_ (e_ mv (k:=?_)))))))))))
 refine e_ (cM rfl) (k:=?_)
 refine e_ mv (k:=eg_ mv (k:=?_))
 refine eg_ (dU rfl) (k:=?_)
 refine gk (k:=wi_ (k:=fun h2=>?_) (m:=fun h2=>?_))
 ·exact absurd h2 (an)
 refine go ?_
 refine c3_ rfl (Iw (a:=⟨s9,s11,SV.nil,s12,s13, []⟩) (p:=fxP) (pt:=pt) (q:=fxQ) (fu:=4) hSI hCI Ln) (k:=?_)
 rintro _ _ (⟨e,hne,he,rfl,rfl⟩|⟨ins2,hnw2,(⟨hlt,rfl,rfl⟩|⟨hge,sh,rfl,rfl⟩)⟩)
 ·rw[wL]at hne;cases hne
 ·rw[wL]at hnw2;cases hnw2;have r5:(dK fxP fxQ fxI).2.steps=4:=r2;rw[r5]at hlt;exact absurd hlt (ag)
 rw[wL]at hnw2
 cases hnw2
 refine gk (k:=alc (k:=fun b5=>?_))
 refine sto (k:=e_ asn (k:=on_ (qn_ (ws_ (wr_ (e_ mv (k:=?_)))))))
 refine e_ (fy rfl) (k:=?_)
 refine e_ mv (k:=eg_ lds (k:=eg_ (bld [(0,_),(1,_)]) (k:=eg_ (bld [(0,_),(1,_)]) (k:=?_))))
 refine sg_ (dC rb [(0,409),(2,465)] (bQ) rfl (ay)) (k:=?_)
 rintro _ _ ⟨s39,rfl,rfl⟩
 refine eg_ (bld [(0,_),(1,_),(2,_),(3,_)]) (k:=?_)
 refine sg_ (cW (vs:= [_,_]) rfl (By (xs:=(dK fxP fxQ fxI).1) (ys:= [(0,409),(2,465)]) (by rw[show(dK fxP fxQ fxI).1=_ from r1];decide))) (k:=?_)
 rintro _ _ ⟨rfl,rfl⟩
 refine gk (k:=rt_ Tryz.results5 (k:=?_))
 refine⟨_,hsb,?_,rfl⟩
 have e1:(dK fxP fxQ fxI).1= [(0,409),(2,465)]:=r1
 have e2:(dK fxP fxQ fxI).2.steps=4:=r2
 have e3:kX (dK fxP fxQ fxI).2=3:=r3
 have e4:(dK fxP fxQ fxI).2.visits=2:=r4
 rw[e1,e2,e3,e4]
 all_goals rfl
section
variable {G:cK}{H:cG}{a:PrA}{p:PrG}{pt:PtA}{q:PtD}{T:Nat}{fu:Int}{ins:List Ins}
theorem vj (hk:xj p q T) (hn:nv p q= .ok ins):(dK p q ins).2.steps≤300000000000000000:=by
 obtain⟨⟨tb,hro⟩,hms0⟩:=Fw (x:=⟨⟨SV.nil,SV.nil,SV.nil,SV.nil,SV.nil, []⟩,p.all,SV.nil,⟨0,0,0,0,SV.nil,SV.nil,SV.nil,SV.nil,SV.nil,SV.nil,SV.nil,0, [], []⟩,SV.nil,List.replicate p.curs.length 0⟩) hk hn rfl Xe
 exact(tL hro (xf hro.dr hro.few _ _ hms0).1).1
end
section
variable {G:cK}{H R:cG}{m T:Nat}{x:MX}{s:MS}{p:PrG}{q:PtD}{ins:List Ins}{pss:List (List Po)}{tb:Hs}{z:Hit}
end
structure I0 (p:PrG) (fs:List FV) (ps:List ja):Prop where
 pl:ps.length≤1000000000
 sm:∀d∈ps,SmP fs d
 fl:fs.length≤1000000
 fn:∀f∈fs,f.name.size≤1000000000
 pq:∀d∈ps,∀ws,rX fs ps=true→Ba d.1.length d.2 ws→∃T,xj p ⟨fs,d.1,ws⟩ T
theorem rise_two {x y:Int}{l:List Int}(h:rise (x::y::l)=true):x<y∧rise (y::l)=true:=by
 rw[rise]at h
 simp only[Bool.and_eq_true,decide_eq_true_eq]at h
 exact h
theorem rise_mem_lt:∀{l:List Int}{x:Int},rise (x::l)=true→∀y∈l,x<y
 |z::l,x,h,y,hy=> by
  obtain⟨h1,h2⟩:=rise_two h
  rcases List.mem_cons.1 hy with rfl|hy
  ·exact h1
  ·have:=rise_mem_lt h2 y hy
   omega
theorem rise_getD:∀{l:List Int},rise l=true→∀i j:Nat,i<j→j<l.length→l.getD i 0<l.getD j 0
 | [x],_,i,j,hij,hj=> by simp at hj;omega
 |x::y::l,h,0,j+1,_,hj=> by
  have h1:(y::l)[j]? =some ((y::l).getD j 0):=by
   have hj':j<(y::l).length:=by simpa using hj
   rw[List.getD_eq_getElem?_getD,Yi hj']
   all_goals rfl
  have:=rise_mem_lt h _ (Yj h1)
  simpa using this
 |x::y::l,h,i+1,j+1,hij,hj=> by
  have hj9:j<(y::l).length:=by simpa using hj
  have:=rise_getD (rise_two h).2 i j (aa) hj9
  simpa using this
section
variable {G:cK}{P:Program}{t:Tm}{H:cG}{dst:Option Tmp}{ty:TypeId}{pos:String}{after:Array Edge}{g:Option (Nat×Bool)}
theorem ev_eql_slG {T E U:TypeId}{x:Operand}{s:SV} [hT:Und P T (.slice E)] (hx:evo t x=some s.val):Ev G P ⟨dst, .binOp .eql T x (.const (.slice none 0 0)) U,ty,pos,after,g⟩ t H (.bool s.a.isNone):=
 fun ρ hρ w hw=> by
  have h1:=fU (P:=P) (op:= .eql) (T:=T) (x:=x) (y:= .const (.slice none 0 0)) (w:=w) (a:=s.val) (b:= .slice none 0 0) (.inr rfl) (fun c h=> aW)
  have h2:=iO (P:=P) (w:=w) (T:=T) (x:=s.val) (y:= .slice none 0 0) (r:=s.a.isNone) (fun d=> by
   obtain⟨a,n,c⟩:=s
   cases a <;> simp only[SV.val,Op.equalIn,Sem.run_bind,da (T:=T),Result.andThen_ok,Sem.run_pure,Option.isNone_none,Option.isNone_some])
  have h5:(binOp .eql T s.val (.slice none 0 0)).run P w= .ok (.bool s.a.isNone) w:=by
   simp only[SV.val]at h2⊢
   simp only[binOp,Sem.run_bind,h2,Result.andThen_ok,Sem.run_pure]
  simp only[execOp,hρ _ _ hx,hρ (.const (.slice none 0 0)) _ rfl,Sem.run_bind,h1,Result.andThen_ok,h5,Sem.run_pure]
end
theorem cloneV {G:cK}{H:cG}{s:SV}{vs:List Val} [hs:Sl H s eVl vs] (hn:vs.length≤1000000000):SC G Tryz.prog 59 [s.val] H (fun v H'=> ∃(s':SV) (vs':List Val),v=s'.val∧H'=Row s' eVl vs'::H):=by
 refine sWk Tryz.func59 Tryz.ntmps59 ?_
 refine ws_ (wr_ (e_ asn (k:=on_ (qn_ (ws_ (ws_ (wr_ (e_ mv (k:=?_)))))))))
 refine e_ (ev_eql_slG rfl) (k:=?_)
 refine gk (k:=wi_ (k:=fun h1=>?_) (m:=fun h1=>?_))
 ·refine gk (k:=rt_ Tryz.results59 (k:=?_))
  exact⟨_,cJ.nilRow cJ.refl,SV.nil, [],rfl,rfl⟩
 refine go ?_
 refine s_ (iN eVl rfl) (k:=?_)
 rintro _ _ ⟨s5,rfl,rfl⟩
 refine gk (k:=app (k:=fun s7=>?_))
 refine gk (k:=rt_ Tryz.results59 (k:=?_))
 exact⟨_,hsb,s7,_,rfl,rfl⟩
theorem tStoredP {G:cK}{H:cG}{a:PtA}{q:PtD}{d:Nat}{x:Doc} [hp:dq H a q] (hx:q.ds[d]? =some x) (hv:x.2.length≤1000000000):SC G Tryz.prog 26 [.pointer (some ⟨a.g,0,none⟩), .int .i64 ((d:Nat):Int)] H (fun v H'=> ∃(s':SV) (vs':List Val),v= .tuple #[.agg [.int .i64 x.1,s'.val].toArray, .bool true]∧H'=Row s' eVl vs'::H):=by
 have hl:=uu (a:=a) (q:=q) (H:=H)
 have hxl:=(Yk.1 hx).1
 obtain⟨z,hz⟩:∃z,a.l[d]? =some z:=⟨_,Yi (aa)⟩
 obtain⟨hz1,hz2⟩:=hp.docs.2 d z x hz hx
 refine sWk Tryz.func26 Tryz.ntmps26 ?_
 refine gk (k:=alc (k:=fun b4=>?_))
 refine go ?_
 refine d2_ rfl (EZ (a:=a)) (k:=gk (k:=wi_ (k:=fun h1=>?_) (m:=fun h1=>?_)))
 ·have h9:=h1
  exact absurd h9 (aM)
 refine wk_ (qn_ (ws_ (wr_ (e_ mv (k:=e_ nck (k:=e_ fla (k:=e_ ldv (k:=e_ mv (k:=e_ ixa (k:=e_ (jn (hy:=hz)) (k:=alc (k:=fun b6=>?_))))))))))))
 refine go ?_
 refine df cI (fun i=> [4,6].contains i) (fun k H=> (k=1→cQ H b6 [.int .i64 z.1,z.2.val])∧(k=3→cQ H b6 [.int .i64 z.1,z.2.val])) (af_ 0 (q:=cD fun H hH=>fla) (k:=?_))
 refine cE 1 rfl rfl (a8) rfl (cD fun H hH=>ak) (?_)
 refine af_ 2 (q:=cD fun H hH=>fla) (k:=?_)
 refine cE 3 rfl rfl (a8) rfl (cD fun H hH=>aE) (?_)
 refine cN 4 rfl (a8) rfl (fun k hk=> ⟨fun hi=> ab,fun hi=> ab⟩) (cW (vs:= [_]) rfl (cloneV (s:=z.2) (vs:=x.2) hv)) ?_
 rintro _ _ ⟨s23,vs23,rfl,rfl⟩
 refine af_ 5 (q:=cD fun H hH=>bld [(0,_),(1,_)]) (k:=?_)
 refine cN 6 rfl (a8) rfl (fun k hk=> ⟨fun hi=> ab,fun hi=> absurd hk (ad)⟩) (dM rfl rfl rfl) ?_
 rintro _ _ ⟨rfl,rfl⟩
 refine af_ 7 (q:=cD fun H hH=>asn) (k:=db (a8) (fun k hk=> ⟨fun hi=> absurd hk (ad),fun hi=> absurd hk (ad)⟩) (gk (k:=rt_ Tryz.results26 (k:=?_))))
 exact⟨_,hsb,s23,vs23,by rw[←hz1];all_goals rfl,rfl⟩
theorem live_take {q:PtD}{i:Nat}(hi:i<q.ds.length):(((List.range q.ds.length).take (i+1)).filter fun d=> !oG q.dw d)=(((List.range q.ds.length).take i).filter fun d=> !oG q.dw d)++(if oG q.dw i=true then []else [i]):=by
 rw[cP (l:=List.range q.ds.length) (i:=i) (x:=i) (by rw[List.getElem?_range hi]),List.filter_append]
 cases h:oG q.dw i <;> simp[h]
theorem id_at {q:PtD}{i:Nat}{x:Doc}(hx:q.ds[i]? =some x):idQ q i=x.1:=by
 rw[idQ,List.getD_eq_getElem?_getD,Xd,hx];all_goals rfl
theorem tLiveDocs {G:cK}{H:cG}{a:PtA}{q:PtD} [hp:dq H a q] (hq:Bj q) (hv:∀d∈q.ds,d.2.length≤1000000000):SC G Tryz.prog 8 [.pointer (some ⟨a.p,0,none⟩)] H (fun v H'=> ∃(s:SV) (zs:List DG),v=s.val∧zs.map (·.d)=(liveQ q).map (idQ q)∧H'=Row s eD (zs.map dgV)::Cl dgH zs::H):=by
 have hqn:=hq.n
 refine sWk Tryz.func8 Tryz.ntmps8 ?_
 refine go ?_
 refine go ?_
 refine d1_ rfl (Md (a:=a)) (k:=?_)
 refine du (cJ.nilRow (e:=eD) (fe (f:=dgH) cJ.refl)) ?_
 rw[show Row SV.nil eD ([]:List (Int×SV))=Row SV.nil eD (([]:List DG).map dgV)from rfl]
 refine gk (k:=dt (Nat×SV×(List DG)) (fun y=> y.1≤q.ds.length∧y.2.2.length≤y.1∧y.2.2.map (·.d)=(((List.range q.ds.length).take y.1).filter fun d=> !oG q.dw d).map (idQ q)) (fun y=> [(3,y.2.1.val),(12, .int .i64 ((y.1:Nat):Int))]) [(0,_),(11,_)] (fun y=> [Row y.2.1 eD (y.2.2.map dgV),Cl dgH y.2.2]) _ (fun y=> q.ds.length - y.1) ((0,SV.nil, [])) (h0:=?_) (k:=?_))
 ·try dsimp only
  exact⟨Yl _,Nat.le_refl _,rfl⟩
 rintro⟨i,u,zs⟩ ⟨hi,hzl,hzm⟩
 try dsimp only[Yd,Ye]at*
 refine gk (k:=wi_ (k:=fun h1=>?_) (m:=fun h1=>?_))
 ·have hil:i<q.ds.length:=by have h9:=h1;omega
  obtain⟨x,hx⟩:∃x,q.ds[i]? =some x:=⟨_,Yi hil⟩
  have hvx:=hv x (Yj hx)
  have hlt:=live_take hil
  have hid:=id_at hx
  have hzn:(zs.map dgV).length≤i:=by rw[Yh];exact hzl
  refine go ?_
  refine go ?_
  refine c2_ rfl (tStoredP (a:=a) hx hvx) (k:=?_)
  rintro _ _ ⟨s21,vs21,rfl,rfl⟩
  refine gk (k:=alc (k:=fun b5=>?_))
  refine go ?_
  refine sg_ (cW (vs:= [_,_]) rfl (Mh (a:=a) (q:=q) hq)) (k:=?_)
  rintro _ _ ⟨rfl,rfl⟩
  refine gk (k:=wi_ (k:=fun h2=>?_) (m:=fun h2=>?_))
  ·have hb:oG q.dw i=false:=by have h9:=h2;simpa [hil] using h9
   rw[hb]at hlt;simp only[Bool.false_eq_true,if_false]at hlt
   refine gk (k:=gz eD (k:=fun s32=>?_))
   refine app (k:=fun s33=>?_)
   rw[show zs.map dgV++ [(x.1,s21)]=(zs++ [(⟨x.1,s21,vs21⟩:DG)]).map dgV from by simp[dgV]]
   refine du (cJ.trans (H':=Row s21 eVl vs21::Cl dgH zs::Row s33 eD ((zs++ [(⟨x.1,s21,vs21⟩:DG)]).map dgV)::H) (hsb) (Cr ⟨x.1,s21,vs21⟩)) ?_
   refine go ?_
   refine ln_ ((i+1,s33,zs++ [⟨x.1,s21,vs21⟩])) (k:=?_)
   try dsimp only
   refine⟨aa,by rw[Ya];simp;omega,?_⟩
   rw[hlt,List.map_append,List.map_append,hzm]
   simp[hid]
  have hb:oG q.dw i=true:=by have h9:=h2;simpa [hil] using h9
  rw[hb]at hlt;simp only[if_true,Ym]at hlt
  refine go ?_
  refine ln_ ((i+1,u,zs)) (k:=?_)
  try dsimp only
  exact⟨aa,aa,by rw[hlt];exact hzm⟩
 obtain rfl:i=q.ds.length:=az
 rw[List.take_of_length_le (by rw[List.length_range];exact Nat.le_refl _)]at hzm
 refine gk (k:=rt_ Tryz.results8 (k:=?_))
 exact⟨_,hsb,u,zs,rfl,hzm,rfl⟩
section
variable {G:cK}{H R:cG}{b u mv:Nat}{ps:List Po}{told:Bool}
end
theorem encC_app (l r:List Ins):encC (l++r)=encC l++encC r:=List.flatMap_append ..
theorem tEncode {G:cK}{H:cG}{s:SV}{xs:List Ins} [hg:Glb G H] [hia:Isa H] [hs:Sl H s oE xs] (hE:∀x∈xs,InsE x) (hn:xs.length≤10000000):SC G Tryz.prog 43 [s.val] H (fun v H'=> ∃s':SV,v= .tuple #[s'.val, .nilIface]∧H'=Row s' eB (encC xs)::H):=by
 refine sWk Tryz.func43 Tryz.ntmps43 ?_
 refine go ?_
 refine c0_ rfl (fM) (k:=?_)
 rintro _ _ ⟨b9,rfl,rfl⟩
 refine gk (k:=dt (Nat) (fun y=> y≤xs.length) (fun y=> [(12, .int .i64 ((y:Nat):Int))]) [(4,_),(10,_),(11,_)] (fun y=> [Wr b9 (encC (xs.take y))]) _ (fun y=> xs.length - y) (0) (h0:=?_) (k:=?_))
 ·try dsimp only
  exact Yl _
 rintro i hi
 try dsimp only[Yd,Ye]at*
 refine gk (k:=wi_ (k:=fun h1=>?_) (m:=fun h1=>?_))
 ·obtain⟨⟨o,A,B⟩,hx⟩:∃x,xs[i]? =some x:=⟨_,Yi (aa)⟩
  have hxe:=hE _ (Yj hx)
  obtain⟨k,hk,hk2,hk0,hk1⟩:=hxe.n
  have hA:=hxe.a
  have hB:=hxe.b
  simp only at hk hk0 hk1 hA hB
  have ho:=HD hk
  have hen:encC (xs.take (i+1))=encC (xs.take i)++(o::argB k A B):=by
   rw[cP hx,encC_app]
   show _++(encX (o,A,B)++ [])=_
   rw[Ym,encX]
   dsimp only
   rw[hk];all_goals rfl
  have hel:=encC_le (l:=xs.take i) fun x hx=> hE x (Yq hx)
  rw[Yg]at hel
  have huA:=fq hA
  refine wk_ (qn_ (ws_ (wb_ (ws_ (wr_ (e_ ixa (k:=e_ (jn (hy:=hx)) (k:=alc (k:=fun b6=>?_)))))))))
  refine go ?_
  refine c1_ rfl (O7 (op:=o)) (k:=?_)
  rintro _ _ ⟨(⟨k9,hk9,hk92,rfl⟩|⟨hno,rfl⟩),rfl⟩
  ·obtain rfl:k=k9:=by rw[hk]at hk9;exact Option.some.inj hk9
   refine go ?_
   refine gk (k:=dh 4 31 (k:=fun h2=>gk (k:=edq)) (q:=gk (k:=dN 8 41 (k:=fun h3=>gk (k:=dh 4 40 (k:=fun h4=>gk (k:=edq)) (q:=gk (k:=edq)))) (q:=gk (k:=wi_ (k:=fun h5=>?_) (m:=fun h5=>?_))))))
   ·exact absurd h5 (by have g0:=hk0;have g1:=hk1;omega)
   refine wk_ (qn_ (ws_ (wr_ (e_ mv (k:=e_ fla (k:=e_ ldv (k:=?_)))))))
   refine e_ ((aR)) (k:=?_)
   refine d2_ rfl (ny o (aa)) (k:=gk (k:=wi_ (k:=fun h6=>?_) (m:=fun h6=>?_)))
   ·refine go ?_
    refine d2_ rfl (ek A hA (bY)) (k:=gk (k:=wi_ (k:=fun h7=>?_) (m:=fun h7=>?_)))
    ·refine go ?_
     refine d2_ rfl (ek B hB (by rw[Ya,Ya,List.length_singleton];omega)) (k:=?_)
     have hf:encC (xs.take i)++ [o]++uv A++uv B=encC (xs.take (i+1)):=by
         obtain rfl:k=2:=aa
         rw[hen,argB];simp
     rw[hf]
     refine go ?_
     refine ln_ (i+1) (k:=?_)
     try dsimp only
     omega
    have hf:encC (xs.take i)++ [o]++uv A=encC (xs.take (i+1)):=by
     obtain rfl:k=1:=by have g9:=h7;omega
     rw[hen,argB];simp
    rw[hf]
    refine go ?_
    refine ln_ (i+1) (k:=?_)
    try dsimp only
    omega
   refine gk (k:=wi_ (k:=fun h8=>?_) (m:=fun h8=>?_))
   ·exact absurd h8 (aa)
   have hf:encC (xs.take i)++ [o]=encC (xs.take (i+1)):=by
    obtain rfl:k=0:=aa
    rw[hen,argB]
   rw[hf]
   refine go ?_
   refine ln_ (i+1) (k:=?_)
   try dsimp only
   omega
  rw[hk]at hno;cases hno
 obtain rfl:i=xs.length:=by have g9:=h1;omega
 rw[List.take_length]
 have hel:=encC_le hE
 refine go ?_
 refine c1_ rfl (iv (aa)) (k:=?_)
 rintro _ _ ⟨s62,rfl,rfl⟩
 refine gk (k:=rt_ Tryz.results43 (k:=?_))
 exact⟨_,hsb,s62,rfl,rfl⟩
section
variable {G:cK}{P:Program}{t:Tm}{H:cG}{dst:Option Tmp}{ty:TypeId}{pos:String}{after:Array Edge}{g:Option (Nat×Bool)}
theorem ev_neq_slW {T E U:TypeId}{x:Operand}{s:SV}{α:Type}{e:Enc α}{xs:List α}{nn:Bool} [hT:Und P T (.slice E)] [hs:Sl H s e xs] (hx:evo t x=some s.val) (h:(nn=false∧s=SV.nil)∨(nn=true∧xs≠ [])):Ev G P ⟨dst, .binOp .neq T x (.const (.slice none 0 0)) U,ty,pos,after,g⟩ t H (.bool nn):=
 fun ρ hρ w hw=> by
  have h1:=fU (P:=P) (op:= .neq) (T:=T) (x:=x) (y:= .const (.slice none 0 0)) (w:=w) (a:=s.val) (b:= .slice none 0 0) (.inr rfl) (fun c h=> aW)
  have h0:s.a.isNone= !nn:=by
   rcases h with⟨rfl,rfl⟩|⟨rfl,hne⟩
   ·rfl
   ·obtain⟨_,_,h3⟩:=hs.get hw
    rcases h3 with⟨h4,_⟩|⟨b,off,C,E',fz,h4,_⟩
    ·exact absurd h4 hne
    ·rw[h4];all_goals rfl
  have h2:=iO (P:=P) (w:=w) (T:=T) (x:=s.val) (y:= .slice none 0 0) (r:= !nn) (fun d=> by
   rw[←h0]
   obtain⟨a,n,c⟩:=s
   cases a <;> simp only[SV.val,Op.equalIn,Sem.run_bind,da (T:=T),Result.andThen_ok,Sem.run_pure,Option.isNone_none,Option.isNone_some])
  have h5:(binOp .neq T s.val (.slice none 0 0)).run P w= .ok (.bool nn) w:=by
   simp only[SV.val]at h2⊢
   simp only[binOp,Sem.run_bind,h2,Result.andThen_ok,Sem.run_pure,Bool.not_not]
  simp only[execOp,hρ _ _ hx,hρ (.const (.slice none 0 0)) _ rfl,Sem.run_bind,h1,Result.andThen_ok,h5,Sem.run_pure]
end
def codeN (nn:Bool) (a b:List Ins) (x:Ins):List Ins:=a.dropLast++((if nn=true then b.dropLast else [])++ [x,(0,0,0)])
theorem codeN_len {nn:Bool}{a b:List Ins}{x:Ins}:(codeN nn a b x).length≤a.length+b.length+2:=by
 unfold codeN
 simp only[Ya,List.length_dropLast,Yb,Yc]
 split
 ·rw[List.length_dropLast];omega
 ·simp only[Yc];omega
theorem tJoined {G:cK}{H:cG}{s1 s2:SV}{a b:List Ins}{o A B:Nat}{nn:Bool} [hg:Glb G H] [hia:Isa H] [h1:Sl H s1 oE a] [h2:Sl H s2 oE b] (ha:0<a.length) (hb:(nn=false∧s2=SV.nil)∨(nn=true∧b≠ [])) (hE:∀y∈codeN nn a b (o,A,B),InsE y) (hla:a.length≤2000000) (hlb:b.length≤2000000):
 SC G Tryz.prog 17 [s1.val,s2.val, .agg [.int .i64 ((o:Nat):Int), .int .u64 ((A:Nat):Int), .int .u64 ((B:Nat):Int)].toArray] H (fun v H'=> ∃s':SV,v= .tuple #[s'.val, .bool true]∧H'=Row s' eB (encC (codeN nn a b (o,A,B)))::H):=by
 have hcl:=codeN_len (nn:=nn) (a:=a) (b:=b) (x:=(o,A,B))
 refine sWk Tryz.func17 Tryz.ntmps17 ?_
 refine gk (k:=bxx (k:=fun b5=>?_))
 refine go ?_
 refine s_ (iN oE rfl) (k:=?_)
 rintro _ _ ⟨s11,rfl,rfl⟩
 refine e_ mv (k:=e_ mv (k:=e_ lnn (k:=?_)))
 refine e_ (evq isb (congrArg (Value.int .i64) (show _=((a.length - 1:Nat):Int)from aa))) (k:=?_)
 refine kW H rfl (0) (a.length - 1) rfl ⟨_,_,rfl,(aN)⟩ (aa) (aP) rfl (fun s16 i16=>?_)
 rw[List.drop_zero,←List.dropLast_eq_take]at i16
 refine app (k:=fun s17=>?_)
 rw[Ye]
 refine e_ asn (k:=on_ (qn_ (w7 (SV×(List Ins)) (fun y=> y.2=a.dropLast++(if nn=true then b.dropLast else [])) (fun y=> [(8,y.1.val)]) [8,18,19,20,21,22,23,24,25,26] (fun y=> [Row y.1 oE y.2]) (Vr b5 [.int .i64 ((o:Nat):Int), .int .u64 ((A:Nat):Int), .int .u64 ((B:Nat):Int)]::H) ?_ ?_)))
 ·refine ws_ (wr_ (e_ mv (k:=?_)))
  refine e_ (ev_neq_slW rfl hb) (k:=?_)
  refine gk (k:=wi_ (k:=fun h1=>?_) (m:=fun h1=>?_))
  ·have hnn:nn=true:=h1
   have hbl:0<b.length:=by
    rcases hb with⟨g1,_⟩|⟨_,g2⟩
    ·rw[hnn]at g1;cases g1
    ·exact List.length_pos_iff.2 g2
   refine wr_ (e_ mv (k:=e_ mv (k:=e_ mv (k:=e_ lnn (k:=?_)))))
   refine e_ (evq isb (congrArg (Value.int .i64) (show _=((b.length - 1:Nat):Int)from aa))) (k:=?_)
   refine kW H rfl (0) (b.length - 1) rfl ⟨_,_,rfl,(aN)⟩ (aa) (aP) rfl (fun s25 i25=>?_)
   rw[List.drop_zero,←List.dropLast_eq_take]at i25
   have hdl:=List.length_dropLast (xs:=a)
   have hdm:=List.length_dropLast (xs:=b)
   refine app (k:=fun s26=>?_)
   refine gk (k:=jnE ((s26,a.dropLast++b.dropLast)) (q:=?_))
   dsimp only
   rw[hnn];all_goals rfl
  have hnn:nn=false:=by have g9:=h1;simpa using g9
  refine gk (k:=jnE ((s17,a.dropLast)) (q:=?_))
  dsimp only
  rw[hnn];simp
 rintro⟨u,l⟩ hlj
 try dsimp only[Yd,Ye]at*
 have hll:(l++ [((o,A,B):Ins),(0,0,0)])=codeN nn a b (o,A,B):=by rw[hlj,codeN,Yf]
 have hlen:=congrArg List.length hll
 simp only[Ya,Yb,Yc]at hlen
 refine ws_ (wr_ (e_ mv (k:=e_ lds (k:=e_ (bld [(0,_)]) (k:=?_)))))
 refine s_ (dC oE [((o,A,B):Ins),(0,0,0)] (bQ) rfl (ay)) (k:=?_)
 rintro _ _ ⟨s30,rfl,rfl⟩
 refine app (k:=fun s31=>?_)
 rw[hll]
 refine go ?_
 refine c1_ rfl (tEncode hE (aa)) (k:=?_)
 rintro _ _ ⟨s34,rfl,rfl⟩
 refine go ?_
 refine cX cI (as_ 0 (q:=mv) (k:=as_ 1 (q:=mv) (k:=?_)))
 refine cE 2 rfl rfl (a8) rfl (dz (fy rfl)) (?_)
 refine as_ 3 (q:=asn) (k:=as_ 4 (q:=asn) (k:=az_ (k:=gk (k:=rt_ Tryz.results17 (k:=?_)))))
 exact⟨_,hsb,s34,rfl,rfl⟩
theorem pq_all {p:PrG}{q:PtD}{T:Nat}{k:List Nat}(h:xj p q T) (hk:k.length≤100000000) (hb:∀x∈k,x<256):xj (pAll p k) q T:=
 ⟨⟨h.sm.a,h.sm.c,h.sm.n,Yl _,hk,h.sm.ns,h.sm.ct,hb⟩,h.seg,h.pt,h.tot,h.near,h.cn,h.os⟩
theorem tHitsOf {G:cK}{H:cG}{a:PrA}{p:PrG}{pt:PtA}{q:PtD}{T:Nat}{sk:SV}{k:List Nat} [hg:Glb G H] [hia:Isa H] [hp:gE H a p] [hpt:dq H pt q] [hsk:Sl H sk eB k] (hSI:jS) (hCI:fg) (hk:xj p q T) (hkl:k.length≤100000000) (hkb:∀x∈k,x<256):
 SC G Tryz.prog 15 [.agg (prV a p.all).toArray,sk.val, .pointer (some ⟨pt.p,0,none⟩)] H (fun v H'=> (∃e:Nat,nv (pAll p k) q= .error e∧v= .tuple #[SV.nil.val,G.err e]∧H'=H)∨
  (∃(ins:List Ins) (sh:SV),nv (pAll p k) q= .ok ins∧v= .tuple #[sh.val, .nilIface]∧H'=Row sh rb ((liveQ q).filterMap (hitA p q ins))::H)):=by
 have hk2:=pq_all hk hkl hkb
 have hqn:=hk.pt.n
 haveI hnl:∀H9,Sl H9 SV.nil eI []:=fun H9=> ⟨fun L hL=> ⟨rfl,Nat.le_refl _, .inl ⟨rfl,rfl⟩⟩⟩
 refine sWk Tryz.func15 Tryz.ntmps15 ?_
 refine gk (k:=bxx (k:=fun b3=>?_))
 refine go ?_
 refine go ?_
 haveI hpa:∀l,gE (Vr b3 l::H) ⟨a.av,a.cu,a.ne,SV.nil,sk,a.nz⟩ (pAll p k):=fun l=> ⟨(inferInstance:Sl _ a.av eI p.avgs),(inferInstance:Sl _ a.cu eLf p.curs),(inferInstance:Sl _ a.ne eNr a.nz),hp.nr.less (cJ.drop cJ.refl),hnl _⟩
 haveI hpb:∀l,qA (Vr b3 l::H) ⟨a.av,a.cu,a.ne,SV.nil,sk,a.nz⟩ (pAll p k):=fun l=> ⟨(inferInstance:Sl _ sk eB k)⟩
 refine c3_ rfl (Iw (a:=⟨a.av,a.cu,a.ne,SV.nil,sk,a.nz⟩) (p:=pAll p k) (pt:=pt) (fu:=4611686018427387904) hSI hCI hk2) (k:=?_)
 rintro _ _ (⟨e,hne,he,rfl,rfl⟩|⟨ins,hnw,(⟨hlt,rfl,rfl⟩|⟨hge,sh,rfl,rfl⟩)⟩)
 ·refine gk (k:=alc (k:=fun b8=>?_))
  refine go ?_
  refine rt_ Tryz.results15 (k:=?_)
  exact⟨_,hsb, .inl ⟨e,hne,rfl,rfl⟩⟩
 ·exact absurd hlt (by have g8:=vj hk2 hnw;rw[show(4611686018427387904:Int).toNat=4611686018427387904 from rfl];omega)
 have hrA:=runs_A (p:=p) (C:=ins) (k:=k) (q:=q) (aa)
 rw[show dK (pAll p k) q ins=Fx (cS (pAll p k) q ins) (lh (iQ (pAll p k) q))from rfl,hrA]
 refine gk (k:=alc (k:=fun b8=>?_))
 refine go ?_
 refine rt_ Tryz.results15 (k:=?_)
 exact⟨_,hsb, .inr ⟨ins,sh,hnw,rfl,rfl⟩⟩
theorem tScore {G:cK}{H R:cG}{b k:Nat}{s:SV}{id:Int}{hs:List Hit} [hr:Rem H Vr b [s.val, .int .i64 ((k:Nat):Int)] R] [hsl:Sl R s rb hs] (hk:k≤hs.length) (hn:hs.length≤1000000000000):
 SC G Tryz.prog 18 [.pointer (some ⟨b,0,none⟩), .int .i64 id] H (fun v H'=> v= .tuple #[.int .u64 (((tellB hs (skipB hs k id) id).2:Nat):Int), .bool (tellB hs (skipB hs k id) id).1]∧H'=Vr b [s.val, .int .i64 ((skipB hs k id:Nat):Int)]::R):=by
 refine sWk Tryz.func18 Tryz.ntmps18 ?_
 refine gk (k:=dt (Nat) (fun y=> y≤hs.length∧skipB hs y id=skipB hs k id) (fun y=> []) [(0,_),(1,_)] (fun y=> [Vr b [s.val, .int .i64 ((y:Nat):Int)]]) _ (fun y=> hs.length - y) (k) (h0:=?_) (k:=?_))
 ·try dsimp only
  exact⟨hk,rfl⟩
 rintro m ⟨hm,hsk⟩
 try dsimp only[Yd,Ye]at*
 obtain⟨z,hz⟩:∃z:Hit,m<hs.length→hs[m]? =some z:=by
  by_cases hl:m<hs.length
  ·exact⟨_,fun _=> Yi hl⟩
  ·exact⟨(0,0),fun h=> absurd h hl⟩
 refine go ?_
 refine cX cI (as_ 0 (q:=mv) (k:=as_ 1 (q:=nck) (k:=as_ 2 (q:=fla) (k:=as_ 3 (q:=ldv) (k:=as_ 4 (q:=mv) (k:=as_ 5 (q:=nck) (k:=as_ 6 (q:=fla) (k:=as_ 7 (q:=ldv) (k:=as_ 8 (q:=lnn) (k:=as_ 9 (q:=ilt) (k:=?_)))))))))))
 refine gq 10 rfl rfl (a8) rfl (dz (mv)) (fun h1=> ?_) (fun h1=> ?_)
 ·replace h1:=nrm h1
  have hz1:=hz (by have g9:=h1;omega)
  have hst:=skipB_step (id:=id) hz1
  refine at2 11 (q:=mv) (k:=at2 12 (q:=nck) (k:=at2 13 (q:=fla) (k:=at2 14 (q:=ldv) (k:=at2 15 (q:=mv) (k:=at2 16 (q:=nck) (k:=at2 17 (q:=fla) (k:=at2 18 (q:=ldv) (k:=at2 19 (q:=ixa) (k:=at2 20 (q:=fle) (k:=at2 21 (q:=lfl (hy:=hz1)) (k:=at2 22 (q:=mv) (k:=at2 23 (q:=ilt) (k:=as_ 24 (q:=pkt) (k:=?_))))))))))))))
  refine az_ (k:=gk (k:=wi_ (k:=fun h2=>?_) (m:=fun h2=>?_)))
  ·rw[if_pos h2,hsk]at hst
   refine go ?_
   refine ln_ (m+1) (k:=?_)
   try dsimp only
   exact⟨by have:=(Yk.1 hz1).1;omega,hst.symm⟩
  rw[if_neg (by have g9:=h2;omega),hsk]at hst
  refine go ?_
  refine cX cI (as_ 0 (q:=mv) (k:=as_ 1 (q:=nck) (k:=as_ 2 (q:=fla) (k:=as_ 3 (q:=ldv) (k:=as_ 4 (q:=mv) (k:=as_ 5 (q:=nck) (k:=as_ 6 (q:=fla) (k:=as_ 7 (q:=ldv) (k:=as_ 8 (q:=lnn) (k:=as_ 9 (q:=ilt) (k:=?_)))))))))))
  refine gq 10 rfl rfl (a8) rfl (dz (mv)) (fun h3=> ?_) (fun h3=> ?_)
  ·replace h3:=nrm h3
   have hz3:=hz (by have g9:=h3;omega)
   refine at2 11 (q:=mv) (k:=at2 12 (q:=nck) (k:=at2 13 (q:=fla) (k:=at2 14 (q:=ldv) (k:=at2 15 (q:=mv) (k:=at2 16 (q:=nck) (k:=at2 17 (q:=fla) (k:=at2 18 (q:=ldv) (k:=at2 19 (q:=ixa) (k:=at2 20 (q:=fle) (k:=at2 21 (q:=lfl (hy:=hz3)) (k:=at2 22 (q:=mv) (k:=at2 23 (q:=ieq) (k:=as_ 24 (q:=pkt) (k:=?_))))))))))))))
   refine az_ (k:=gk (k:=wi_ (k:=fun h4=>?_) (m:=fun h4=>?_)))
   ·have htl:tellB hs m id=(true,z.2):=by rw[tellB,hz3];exact if_pos h4
    rw[hst]
    refine go ?_
    refine cX cI (as_ 0 (q:=mv) (k:=as_ 1 (q:=nck) (k:=as_ 2 (q:=fla) (k:=as_ 3 (q:=ldv) (k:=as_ 4 (q:=mv) (k:=as_ 5 (q:=nck) (k:=as_ 6 (q:=fla) (k:=as_ 7 (q:=ldv) (k:=as_ 8 (q:=ixa) (k:=as_ 9 (q:=fle) (k:=as_ 10 (q:=lfl (hy:=hz3)) (k:=as_ 11 (q:=asn) (k:=as_ 12 (q:=asn) (k:=?_))))))))))))))
    refine az_ (k:=gk (k:=rt_ Tryz.results18 (k:=?_)))
    exact⟨_,hsb,by rw[htl];all_goals rfl,rfl⟩
   have htl:tellB hs m id=(false,0):=by rw[tellB,hz3];exact if_neg h4
   refine gk (k:=rt_ Tryz.results18 (k:=?_))
   exact⟨_,by rw[hst];exact hsb,by rw[hst,htl];all_goals rfl,rfl⟩
  replace h3:=nrm h3
  have htl:tellB hs m id=(false,0):=by rw[tellB,List.getElem?_eq_none (by have g9:=h3;omega)]
  refine ao_ 11 (k:=ao_ 12 (k:=ao_ 13 (k:=ao_ 14 (k:=ao_ 15 (k:=ao_ 16 (k:=ao_ 17 (k:=ao_ 18 (k:=ao_ 19 (k:=ao_ 20 (k:=ao_ 21 (k:=ao_ 22 (k:=ao_ 23 (k:=as_ 24 (q:=pkf) (k:=?_))))))))))))))
  refine az_ (k:=gk (k:=eg (k:=gk (k:=rt_ Tryz.results18 (k:=?_)))))
  exact⟨_,by rw[hst];exact hsb,by rw[hst,htl];all_goals rfl,rfl⟩
 replace h1:=nrm h1
 have hst:skipB hs k id=m:=by rw[←hsk];exact skipB_end (by have g9:=h1;omega)
 refine ao_ 11 (k:=ao_ 12 (k:=ao_ 13 (k:=ao_ 14 (k:=ao_ 15 (k:=ao_ 16 (k:=ao_ 17 (k:=ao_ 18 (k:=ao_ 19 (k:=ao_ 20 (k:=ao_ 21 (k:=ao_ 22 (k:=ao_ 23 (k:=as_ 24 (q:=pkf) (k:=?_))))))))))))))
 refine az_ (k:=gk (k:=eg (k:=go ?_)))
 refine cX cI (as_ 0 (q:=mv) (k:=as_ 1 (q:=nck) (k:=as_ 2 (q:=fla) (k:=as_ 3 (q:=ldv) (k:=as_ 4 (q:=mv) (k:=as_ 5 (q:=nck) (k:=as_ 6 (q:=fla) (k:=as_ 7 (q:=ldv) (k:=as_ 8 (q:=lnn) (k:=as_ 9 (q:=ilt) (k:=?_)))))))))))
 refine gq 10 rfl rfl (a8) rfl (dz (mv)) (fun h5=> ?_) (fun h5=> ?_)
 ·replace h5:=nrm h5
  have hz3:=hz (by have g9:=h5;omega)
  refine at2 11 (q:=mv) (k:=at2 12 (q:=nck) (k:=at2 13 (q:=fla) (k:=at2 14 (q:=ldv) (k:=at2 15 (q:=mv) (k:=at2 16 (q:=nck) (k:=at2 17 (q:=fla) (k:=at2 18 (q:=ldv) (k:=at2 19 (q:=ixa) (k:=at2 20 (q:=fle) (k:=at2 21 (q:=lfl (hy:=hz3)) (k:=at2 22 (q:=mv) (k:=at2 23 (q:=ieq) (k:=as_ 24 (q:=pkt) (k:=?_))))))))))))))
  refine az_ (k:=gk (k:=wi_ (k:=fun h6=>?_) (m:=fun h6=>?_)))
  ·have htl:tellB hs m id=(true,z.2):=by rw[tellB,hz3];exact if_pos h6
   rw[hst]
   refine go ?_
   refine cX cI (as_ 0 (q:=mv) (k:=as_ 1 (q:=nck) (k:=as_ 2 (q:=fla) (k:=as_ 3 (q:=ldv) (k:=as_ 4 (q:=mv) (k:=as_ 5 (q:=nck) (k:=as_ 6 (q:=fla) (k:=as_ 7 (q:=ldv) (k:=as_ 8 (q:=ixa) (k:=as_ 9 (q:=fle) (k:=as_ 10 (q:=lfl (hy:=hz3)) (k:=as_ 11 (q:=asn) (k:=as_ 12 (q:=asn) (k:=?_))))))))))))))
   refine az_ (k:=gk (k:=rt_ Tryz.results18 (k:=?_)))
   exact⟨_,hsb,by rw[htl];all_goals rfl,rfl⟩
  have htl:tellB hs m id=(false,0):=by rw[tellB,hz3];exact if_neg h6
  refine gk (k:=rt_ Tryz.results18 (k:=?_))
  exact⟨_,by rw[hst];exact hsb,by rw[hst,htl];all_goals rfl,rfl⟩
 replace h5:=nrm h5
 have htl:tellB hs m id=(false,0):=by rw[tellB,List.getElem?_eq_none (by have g9:=h5;omega)]
 refine ao_ 11 (k:=ao_ 12 (k:=ao_ 13 (k:=ao_ 14 (k:=ao_ 15 (k:=ao_ 16 (k:=ao_ 17 (k:=ao_ 18 (k:=ao_ 19 (k:=ao_ 20 (k:=ao_ 21 (k:=ao_ 22 (k:=ao_ 23 (k:=as_ 24 (q:=pkf) (k:=?_))))))))))))))
 refine az_ (k:=gk (k:=eg (k:=gk (k:=rt_ Tryz.results18 (k:=?_)))))
 exact⟨_,by rw[hst];exact hsb,by rw[hst,htl];all_goals rfl,rfl⟩
theorem tValue {G:cK}{H:cG}{op n s t:Nat}{x y:Bool}(h6:6≤op) (h14:op≤14):SC G Tryz.prog 19 [.int .i64 ((op:Nat):Int), .int .u64 ((n:Nat):Int), .int .u64 ((s:Nat):Int), .int .u64 ((t:Nat):Int), .bool x, .bool y] H (fun v H'=> v= .tuple #[.int .u64 (((valR op n (x,s) (y,t)).2:Nat):Int), .bool (valR op n (x,s) (y,t)).1]∧H'=H):=by
 refine sWk Tryz.func19 Tryz.ntmps19 ?_
 refine go ?_
 refine gk (k:=wi_ (k:=fun h1=>?_) (m:=fun h1=>?_))
 ·obtain rfl:op=6:=by omega
  refine ws_ (wr_ (e_ mv (k:=e_ mv (k:=?_))))
  refine e_ ((au)) (k:=?_)
  refine gk (k:=dh 2 23 (k:=fun h2=>gk (k:=edq)) (q:=gk (k:=rt_ Tryz.results19 (k:=?_))))
  exact⟨_,hsb,rfl,rfl⟩
 refine gk (k:=wi_ (k:=fun h3=>?_) (m:=fun h3=>?_))
 ·obtain rfl:op=7:=by omega
  refine ws_ (wr_ (e_ mv (k:=e_ mv (k:=?_))))
  refine e_ ((au)) (k:=?_)
  refine gk (k:=dN 2 32 (k:=fun h4=>gk (k:=edq)) (q:=gk (k:=rt_ Tryz.results19 (k:=?_))))
  exact⟨_,hsb,rfl,rfl⟩
 refine gk (k:=wi_ (k:=fun h5=>?_) (m:=fun h5=>?_))
 ·obtain rfl:op=8:=by omega
  refine ws_ (wr_ (e_ mv (k:=e_ mv (k:=?_))))
  refine e_ (evq (mO rfl rfl) (congrArg (Value.int .u64) (show _=((max s t:Nat):Int)from aa))) (k:=?_)
  refine gk (k:=dN 2 41 (k:=fun h6=>gk (k:=edq)) (q:=gk (k:=rt_ Tryz.results19 (k:=?_))))
  exact⟨_,hsb,rfl,rfl⟩
 refine gk (k:=wi_ (k:=fun h7=>?_) (m:=fun h7=>?_))
 ·obtain rfl:op=9:=by omega
  refine ws_ (wr_ (e_ mv (k:=e_ mv (k:=?_))))
  refine e_ ((au)) (k:=?_)
  refine gk (k:=rt_ Tryz.results19 (k:=?_))
  exact⟨_,hsb,rfl,rfl⟩
 refine gk (k:=wi_ (k:=fun h8=>?_) (m:=fun h8=>?_))
 ·obtain rfl:op=10:=by omega
  refine gk (k:=dh 3 55 (k:=fun h9=>gk (k:=edq)) (q:=gk (k:=rt_ Tryz.results19 (k:=?_))))
  exact⟨_,hsb,rfl,rfl⟩
 refine gk (k:=wi_ (k:=fun h10=>?_) (m:=fun h10=>?_))
 ·obtain rfl:op=11:=by omega
  refine gk (k:=rt_ Tryz.results19 (k:=?_))
  exact⟨_,hsb,rfl,rfl⟩
 refine gk (k:=wi_ (k:=fun h11=>?_) (m:=fun h11=>?_))
 ·obtain rfl:op=12:=by omega
  refine ws_ (wr_ (e_ mv (k:=e_ mv (k:=?_))))
  refine e_ (sD 18446744073709551616 rfl rfl rfl rfl _ _ rfl rfl) (k:=?_)
  refine gk (k:=rt_ Tryz.results19 (k:=?_))
  exact⟨_,hsb,rfl,rfl⟩
 refine gk (k:=wi_ (k:=fun h12=>?_) (m:=fun h12=>?_))
 ·obtain rfl:op=13:=by omega
  refine ws_ (wr_ (e_ mv (k:=?_)))
  refine e_ (sC 18446744073709551616 rfl rfl rfl rfl _ 18 rfl rfl) (k:=?_)
  refine gk (k:=rt_ Tryz.results19 (k:=?_))
  exact⟨_,hsb,rfl,rfl⟩
 obtain rfl:op=14:=aa
 refine wk_ (bn_ (qn_ (ws_ (wr_ (e_ mv (k:=e_ mv (k:=?_)))))))
 refine e_ ((au)) (k:=?_)
 refine gk (k:=dh 2 77 (k:=fun h13=>gk (k:=edq)) (q:=gk (k:=rt_ Tryz.results19 (k:=?_))))
 exact⟨_,hsb,rfl,rfl⟩
end Go.Sx
