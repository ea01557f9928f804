import Derived.Test.YtefgpomabdplbaaGreatDoorQ40
set_option linter.unusedVariables false
set_option linter.unusedSimpArgs false
set_option linter.unusedSectionVars false
set_option linter.unnecessarySimpa false
set_option maxHeartbeats 0
namespace Go.Sx
open Go Go.Proofs
set_option maxRecDepth 100000
theorem Iz {G:cK}{H R:cG}{b:Nat}{c:CuS} [hr:Rem H CuH b c R]:SC G Tryz.prog 64 [.pointer (some ⟨b,0,none⟩)] H (fun v H'=> v= .int .i64 ((c.mv:Nat):Int)∧H'=CuH b c::R):=
 ⟨(BC (G:=G) (H:= [Vr b [.int .i64 0, .int .i64 0]]) (b:=b) (d:=0) (m:=0) (l:= [])).enter,fun w hw=> by
   obtain⟨x,hx,hs⟩:=wm hr hw
   exact(SC.out ((BC (G:=G) (b:=b)).mono (fun v H' h=> ⟨_,by rw[h.2];exact m6 hx,h.1,rfl⟩))).call w hs⟩
section
variable {G:cK}{H R R2:cG}{m:Nat}{x:MX}{y:MY}{p:PrG}{q:PtD}{cs:List CuS}
theorem IJ [hr:Rem H Mo m (x,y) R] [hc:Rem R Cl cuZ (x.cs.zip cs) R2] [hsc:Sl R2 x.cu ePt (x.cs.map fun b=> (b,0))] (hk:MOk x p q cs):SC G Tryz.prog 29 [.pointer (some ⟨m,0,none⟩)] H (fun v H'=> v= .tuple #[.int .i64 ((y.st:Nat):Int), .int .i64 (((cs.map (·.mv)).sum:Nat):Int), .int .i64 ((y.vi:Nat):Int)]∧H'=Mo m (x,y)::Cl cuZ (x.cs.zip cs)::R2):=by
 have hcl:=hk.cl
 have hcn:=hk.n
 refine SC.less (cJ.rem hr (cJ.rem hc cJ.refl).keep) ?_
 refine nN (m:=m) (x:=x) (y:=y) (R:=Cl cuZ (x.cs.zip cs)::R2) inferInstance (fun s=> ?_)
 have hlm:(x.cs.map fun b=> ((b,0):Nat×Nat)).length=cs.length:=by rw[Yh,hcl]
 refine sWk Tryz.func29 Tryz.ntmps29 ?_
 refine go ?_
 refine gk (k:=dt (Nat×Nat) (fun y=> y.1≤cs.length∧y.2=((cs.take y.1).map (·.mv)).sum∧y.2≤y.1*100100001) (fun y=> [(5, .int .i64 ((y.2:Nat):Int)),(13, .int .i64 ((y.1:Nat):Int))]) [(0,_),(11,_),(12,_)] (fun y=> []) _ (fun y=> cs.length - y.1) ((0,0)) (h0:=?_) (k:=?_))
 ·try dsimp only
  exact⟨Yl _,rfl,Yl _⟩
 rintro⟨i,w⟩ ⟨hi,hw,hwb⟩
 try dsimp only[Yd,Ye]at*
 refine gk (k:=wi_ (k:=fun h1=>?_) (m:=fun h1=>?_))
 ·obtain⟨b,hb⟩:∃b,x.cs[i]? =some b:=⟨_,Yi (aa)⟩
  obtain⟨c,hcA⟩:∃c,cs[i]? =some c:=⟨_,Yi (aa)⟩
  have hbp:(x.cs.map fun b=> ((b,0):Nat×Nat))[i]? =some ((b,0):Nat×Nat):=by rw[Xd,hb];all_goals rfl
  have hmv:=(hk.ok c (Yj hcA)).mvle
  have hzc:=lB hb hcA
  have hzcl:=(Yk.1 hzc).1
  have hset:cs.set i c=cs:=by rw[←(Yk.1 hcA).2,List.set_getElem_self]
  refine wk_ (qn_ (ws_ (wb_ (ws_ (wr_ (e_ ixa (k:=e_ (lel (hy:=hbp)) (k:=go ?_))))))))
  refine go ?_
  refine du (H':=CuH b c::Cl cuZ ((x.cs.zip cs).take i)::Cl cuZ ((x.cs.zip cs).drop (i+1))::Vr m (mV x s y)::Row s eVV y.stk::R2) (cJ.trans (H':=Cl cuZ (x.cs.zip cs)::Vr m (mV x s y)::Row s eVV y.stk::R2) (hsb) (qm hzc)) ?_
  refine d1_ rfl (Iz (c:=c)) (k:=e_ iad (k:=e_ asn (k:=on_ (bn_ (qn_ (wr_ (?_)))))))
  refine du (H':=Cl cuZ (x.cs.zip cs)::Vr m (mV x s y)::Row s eVV y.stk::R2) ((jD hzcl).trans (by rw[jy hb,hset];exact hsb)) ?_
  refine go ?_
  refine ln_ ((i+1,w+c.mv)) (k:=?_)
  try dsimp only
  exact⟨aa,by rw[cP hcA,List.map_append,List.sum_append,←hw];simp,bf⟩
 obtain rfl:i=cs.length:=aa
 rw[List.take_length]at hw
 refine go ?_
 refine df cI (fun i=> [].contains i) (fun k H=> (k=3→cQ H m (mV x s y))∧(k=8→cQ H m (mV x s y))) (af_ 0 (q:=cD fun H hH=>mv) (k:=af_ 1 (q:=cD fun H hH=>nck) (k:=af_ 2 (q:=cD fun H hH=>fla) (k:=?_))))
 refine cE 3 rfl rfl (a8) rfl (cD fun H hH=>ak) (?_)
 refine af_ 4 (q:=cD fun H hH=>mv) (k:=af_ 5 (q:=cD fun H hH=>mv) (k:=af_ 6 (q:=cD fun H hH=>nck) (k:=af_ 7 (q:=cD fun H hH=>fla) (k:=?_))))
 refine cE 8 rfl rfl (a8) rfl (cD fun H hH=>aE) (?_)
 refine af_ 9 (q:=cD fun H hH=>asn) (k:=af_ 10 (q:=cD fun H hH=>asn) (k:=af_ 11 (q:=cD fun H hH=>asn) (k:=db (a8) (fun k hk=> ⟨fun hi=> ab,fun hi=> ab⟩) (gk (k:=rt_ Tryz.results29 (k:=?_))))))
 rw[←hw];exact⟨_,cJ.trans (H':=Vr m (mV x s y)::Row s eVV y.stk::Cl cuZ (x.cs.zip cs)::R2) (hsb) jB,rfl,rfl⟩
end
theorem CC:∀(n:Nat) (l vs r:List Nat),(∀x∈l,x<256)→n6 n l=some (vs,r)→(∀v∈vs,v<18446744073709551616)∧(∀x∈r,x<256)∧r.length≤l.length
 | 0,l,vs,r,hb,h=> by cases h;exact⟨an,hb,Nat.le_refl _⟩
 |n+1,l,vs,r,hb,h=> by
  rw[n6]at h
  split at h
  ·cases h
  ·rename_i v m hv
   obtain⟨p1,p2,p3,p4,p5,p6⟩:=j5 l 0 v m hb (aa) hv
   split at h
   ·cases h
   ·rename_i ws r2 hr2
    cases h
    obtain⟨q1,q2,q3⟩:=CC n _ _ _ (fun x hx=> hb x (Yp hx)) hr2
    refine⟨fun x hx=> ?_,q2,by rw[Yo]at q3;omega⟩
    rcases List.mem_cons.1 hx with rfl|hx
    ·exact p1
    ·exact q1 x hx
theorem Ce {vs:List Nat}{M:Nat}(h:∀v∈vs,v<M) (hM:0<M) (i:Nat):vs.getD i 0<M:=by
 rw[List.getD_eq_getElem?_getD]
 cases hc:vs[i]? with
 |none=> exact hM
 |some q=> exact h q (Yj hc)
theorem x7:∀(n:Nat) (l:List Nat) (xs:List Ins),(∀x∈l,x<256)→lq n l=some xs→(∀x∈xs,x.2.1<18446744073709551616∧x.2.2<18446744073709551616)∧xs.length≤l.length
 | 0,l,xs,hb,h=> by cases h;exact⟨an,Yl _⟩
 |n+1, [],xs,hb,h=> by cases h;exact⟨an,Yl _⟩
 |n+1,op::l,xs,hb,h=> by
  rw[lq]at h
  split at h
  ·cases h
  ·rename_i m hm
   split at h
   ·cases h
   ·rename_i vs r hv
    obtain⟨q1,q2,q3⟩:=CC m _ _ _ (fun x hx=> hb x (by simp[hx])) hv
    split at h
    ·cases h
    ·rename_i ys hy
     cases h
     obtain⟨s1,s2⟩:=x7 n _ _ q2 hy
     refine⟨fun x hx=> ?_,by simp only[Yb];omega⟩
     rcases List.mem_cons.1 hx with rfl|hx
     ·exact⟨Ce q1 (ag) 0,Ce q1 (ag) 1⟩
     ·exact s1 x hx
theorem Qq {p:PrG}{code:List Ins}{f i h0:Nat}{tb:Hs}{x:Ins}(hx:code.getD i (0,0,0)=x) (hh:tb.getD i none=some h0):jM p code (f+1) i tb=(match iW x h0 with
 |none=> none
 |some h=> if decide (i+1=code.length)=decide (x.1=0)∧p9 p x=true then
  if i+1=code.length then some tb else
  match jC tb (i+1) h with
  |none=> none
  |some tb1=> if pg x=true then
   if code.length - 2 - i<x.2.1 then none else
   match jC tb1 (i+1+x.2.1) h with
   |none=> none
   |some tb2=> jM p code f (i+1) tb2
   else jM p code f (i+1) tb1
  else none):=by rw[jM,hx,hh];all_goals rfl
theorem Kk {x:Ins}{h:Nat}{v:Value}(he:NL x h v):∃(k:Int) (b:Bool),(b=true→∃h':Nat,iW x h=some h'∧k=((h':Nat):Int))∧(b=false→iW x h=none)∧v= .tuple #[.int .i64 k, .bool b]:=by
 rcases he with⟨h',h1,h2⟩|⟨h1,k,h2⟩
 ·exact⟨_,true,fun _=> ⟨h',h1,rfl⟩,fun h=> (aW),h2⟩
 ·exact⟨k,false,fun h=> (aW),fun _=> h1,h2⟩
theorem F5 {G:cK}{H:cG}{op A B h:Nat}(hh:h≤1000000000) (hA:A<18446744073709551616):SC G Tryz.prog 127 [.agg [.int .i64 ((op:Nat):Int), .int .u64 ((A:Nat):Int), .int .u64 ((B:Nat):Int)].toArray, .int .i64 ((h:Nat):Int)] H (fun v H'=> (∃(k:Int) (b:Bool),(b=true→∃h':Nat,iW (op,A,B) h=some h'∧k=((h':Nat):Int))∧(b=false→iW (op,A,B) h=none)∧v= .tuple #[.int .i64 k, .bool b])∧H'=H):=
 (IF hh hA).mono (fun _ _ h=> ⟨Kk h.1,h.2⟩)
theorem Kj {x:Ins}{h h':Nat}(he:iW x h=some h'):h'≤h+1:=by
 obtain⟨op,A,B⟩:=x
 by_cases h1:1≤op∧op≤5
 ·rw[Lo h1.1 h1.2]at he;cases he;exact Nat.le_refl _
 by_cases h2:6≤op∧op≤10
 ·rw[Hk h2.1 h2.2]at he;split at he;cases he;omega;cases he
 by_cases h3:op=14
 ·subst h3;simp only[iW]at he;split at he;cases he;cases he;omega
 by_cases h4:op=0
 ·subst h4;simp only[iW]at he;split at he;cases he;omega;cases he
 ·rw[P5 h4 (aa) h3]at he;split at he;cases he;omega;cases he
theorem yx {tb tb':Hs}{i h:Nat}(he:jC tb i h=some tb') (hi:i<tb.length):tb'.getD i none=some h∧∀j k,tb'.getD j none=some k→k=h∨tb.getD j none=some k:=by
 unfold jC at he
 split at he
 ·cases he
  refine⟨u7 hi,fun j k hk=> ?_⟩
  rw[List.getD_eq_getElem?_getD,List.getElem?_set]at hk
  by_cases hij:i=j
  ·subst hij
   rw[if_pos rfl,if_pos hi]at hk
   left;exact(Option.some.inj hk).symm
  ·rw[if_neg hij,←List.getD_eq_getElem?_getD]at hk
   right;exact hk
 ·rename_i k hk
  split at he
  ·rename_i hkh;cases he;subst hkh;exact⟨hk,fun j k h=> .inr h⟩
  ·cases he
theorem Dh {tb tb':Hs}{i h j k:Nat}(he:jC tb i h=some tb') (hj:tb.getD j none=some k):tb'.getD j none=some k:=by
 unfold jC at he
 split at he
 ·rename_i hn
  cases he
  rw[List.getD_eq_getElem?_getD,List.getElem?_set,if_neg (by rintro rfl;rw[hn]at hj;cases hj),←List.getD_eq_getElem?_getD];exact hj
 ·split at he
  ·cases he;exact hj
  ·cases he
theorem JO {n j h:Nat}(hh:(hs0 n).getD j none=some h):h=0:=by
 rw[hs0,List.getD_eq_getElem?_getD,List.getElem?_set]at hh
 split at hh
 ·split at hh
  ·cases hh;rfl
  ·cases hh
 ·rw[List.getElem?_replicate]at hh
  split at hh <;> cases hh
theorem I3 {ys:List Int}{n:Nat}(hl:ys.length=n) (hy:∀j,j<n→ys[j]? =some (-1)):ys=hsI (List.replicate n none):=by
 apply List.ext_getElem?
 intro j
 rw[Xd,List.getElem?_replicate]
 by_cases hj:j<n
 ·rw[hy j hj,if_pos hj];all_goals rfl
 ·rw[List.getElem?_eq_none (aa),if_neg hj];all_goals rfl
theorem JN {n:Nat}:(hsI (List.replicate n none)).set 0 0=hsI (hs0 n):=C9 (h:=0)
theorem Gr {op A B:Nat}(h:op=15∨op=16):pg (op,A,B)=true:=by rcases h with rfl|rfl <;> rfl
theorem MM {op A B:Nat}(h:¬(op=15∨op=16)):pg (op,A,B)=false:=by
 rw[pg];simp only[Yr (show ¬op=15 from aa),Yr (show ¬op=16 from aa),Bool.or_self]
theorem yD {i n op:Nat}(hn:i<n):(decide (((i:Nat):Int)=((n:Nat):Int) - 1) !=decide (((op:Nat):Int)=0))= !decide (decide (i+1=n)=decide (op=0)):=by
 rw[show decide (((i:Nat):Int)=((n:Nat):Int) - 1)=decide (i+1=n)from decide_eq_decide.2 (aa),show decide (((op:Nat):Int)=0)=decide (op=0)from decide_eq_decide.2 (aa)]
 all_goals (cases decide (i+1=n) <;> cases decide (op=0) <;> rfl)
theorem EY {G:cK}{H:cG}{a:PrA}{p:PrG} [hg:Glb G H] [hia:Isa H] [hp:gE H a p] [hpc:qA H a p] (hps:HS p):SC G Tryz.prog 73 [.agg (prV a p.all).toArray] H (fun v H'=> (gD p=none∧v= .tuple #[.slice none 0 0, .int .i64 0]∧H'=H)∨(∃(tb:Hs) (sl:SV) (most:Int),gD p=some tb∧0<tb.length∧v= .tuple #[sl.val, .int .i64 most]∧H'=Row sl eI (hsI tb)::H)):=by
 have hk1:=hps.k
 have hs1:=hps.a
 have hs2:=hps.c
 have hs3:=hps.n
 refine sWk Tryz.func73 Tryz.ntmps73 ?_
 refine gk (k:=bxx (k:=fun b1=>?_))
 refine go ?_
 refine c1_ rfl (BF hps.k hps.cb) (k:=?_)
 rintro _ _ (⟨hdn,rfl,rfl⟩|⟨sc,code,hdc,rfl,rfl⟩)
 ·have hno:gD p=none:=by rw[gD,lr,hdn]
  refine e_ mv (k:=e_ exr (k:=e_ exr (k:=e_ asn (k:=e_ asn (k:=on_ (qn_ (ws_ (ws_ (wr_ (e_ mv (k:=?_)))))))))))
  refine e_ (cZ rfl) (k:=?_)
  refine gk (k:=ift (k:=go ?_))
  refine gk (k:=rt_ Tryz.results73 (k:=?_))
  exact⟨_,hsb, .inl ⟨hno,rfl,rfl⟩⟩
 obtain⟨hlt,hcl⟩:=x7 _ _ _ hps.cb hdc
 have hcp:gD p=if code.length=0∨ie p=false then none else jM p code code.length 0 (hs0 code.length):=by rw[gD,lr,hdc]
 refine e_ mv (k:=e_ exr (k:=e_ exr (k:=e_ asn (k:=e_ asn (k:=on_ (qn_ (ws_ (ws_ (wr_ (e_ mv (k:=?_)))))))))))
 refine e_ (cM rfl) (k:=?_)
 refine gk (k:=dN 4 32 (k:=fun h1=>gk (k:=kK (vs:=[_]) (hc:=(Ir hps)) (k:=gk (k:=edq)))) (q:=gk (k:=wi_ (k:=fun h2=>?_) (m:=fun h2=>?_))))
 ·have hno:gD p=none:=by rw[hcp,if_pos (aO)]
  refine gk (k:=rt_ Tryz.results73 (k:=?_))
  exact⟨_,hsb, .inl ⟨hno,rfl,rfl⟩⟩
 have hyes:gD p=jM p code code.length 0 (hs0 code.length):=by rw[hcp,if_neg (aO)]
 have hn0:0<code.length:=aQ
 have hrp:(List.replicate code.length (0:Int)).length=code.length:=Xe
 refine go ?_
 refine s_ (eX eI 0 rfl rfl _ _ rfl rfl rfl (aa) (aa) (aa)) (k:=?_)
 rintro _ _ ⟨s35,rfl,hs35n,hs35c,rfl⟩
 refine alc (k:=fun b6=>?_)
 refine gk (k:=dt (Nat×(List Int)) (fun y=> y.1≤code.length∧y.2.length=code.length∧∀j,j<y.1→y.2[j]? =some (-1)) (fun y=> [(38, .int .i64 ((y.1:Nat):Int))]) [(1,_),(4,_),(6,_),(37,_)] (fun y=> [Row s35 eI y.2]) _ (fun y=> code.length - y.1) ((0,List.replicate code.length 0)) (h0:=?_) (k:=?_))
 ·try dsimp only
  exact⟨Yl _,Xe,fun j hj=> absurd hj (Nat.not_lt_zero j)⟩
 rintro⟨i,ys⟩ ⟨hi,hyl,hyj⟩
 try dsimp only[Yd,Ye]at*
 refine gk (k:=wi_ (k:=fun h3=>?_) (m:=fun h3=>?_))
 ·refine go ?_
  refine s_ (dH (a:=(-1:Int)) rfl rfl (bQ) (aa)) (k:=?_)
  rintro _ _ ⟨rfl,rfl⟩
  refine go ?_
  refine ln_ ((i+1,ys.set i (-1))) (k:=?_)
  try dsimp only
  exact⟨aa,by rw[List.length_set];exact hyl,fun j hj=> by
   rw[List.getElem?_set]
   by_cases hij:i=j
   ·subst hij;rw[if_pos rfl,if_pos (aa)]
   ·rw[if_neg hij];exact hyj j (aa)⟩
 obtain rfl:ys=hsI (List.replicate code.length none):=I3 hyl (fun j hj=> hyj j (cj))
 refine we_ (qe_ (le_ (bh_ (qn_ (ws_ (wr_ (e_ ldv (k:=e_ (ixa (i:=0)) (k:=?_)))))))))
 refine s_ (dH (i:=0) (a:=(0:Int)) rfl rfl (bQ) (aa)) (k:=?_)
 rintro _ _ ⟨rfl,rfl⟩
 rw[JN]
 refine on_ (qn_ (ws_ (wr_ (e_ asn (k:=on_ (qn_ (ws_ (wr_ (e_ mkf (k:=go ?_))))))))))
 refine gk (k:=dt (Nat×Hs×Int×Nat) (fun y=> y.1<code.length∧y.2.1.length=code.length∧gD p=jM p code (code.length - y.1) y.1 y.2.1∧y.2.1.getD y.1 none=some y.2.2.2∧∀j k,y.2.1.getD j none=some k→k≤y.1) (fun y=> [(8, .int .i64 y.2.2.1),(50, .int .i64 ((y.1:Nat):Int))]) [(1,_),(4,_),(6,_),(9,_),(48,_),(49,_)] (fun y=> [Row s35 eI (hsI y.2.1)]) _ (fun y=> code.length - y.1) ((0,hs0 code.length,0,0)) (h0:=?_) (k:=?_))
 ·try dsimp only
  exact⟨hn0,by rw[hs0,List.length_set,Xe],by rw[Nat.sub_zero];exact hyes,by rw[hs0];exact u7 (by rw[Xe];exact hn0),fun j k hk=> by rw[JO hk];exact Nat.le_refl _⟩
 rintro⟨i,tb,most,h0⟩ ⟨hi2,htl,hck,hh0,hkb⟩
 try dsimp only[Yd,Ye]at*
 refine gk (k:=wi_ (k:=fun h4=>?_) (m:=fun h4=>?_))
 ·obtain⟨x,hx⟩:∃x,code[i]? =some x:=⟨_,Yi (aa)⟩
  have hxl:=hlt x (Yj hx)
  have hgx:code.getD i (0,0,0)=x:=by rw[List.getD_eq_getElem?_getD,hx];all_goals rfl
  obtain⟨op,A,B⟩:=x
  obtain⟨hA,hB⟩:=hxl
  simp only at hA hB
  have hh0i:=hkb i h0 hh0
  have hrow:(hsI tb)[i]? =some ((h0:Nat):Int):=(sB (aa)).trans (by rw[hh0,ohI])
  have hck1:=hck
  rw[show code.length - i=(code.length - (i+1))+1 from aa,Qq hgx hh0]at hck1
  have hrl:(hsI tb).length=code.length:=by rw[Yh];exact htl
  refine wk_ (qn_ (ws_ (wb_ (ws_ (wr_ (e_ mv (k:=e_ ixa (k:=e_ (jn (hy:=hx)) (k:=alc (k:=fun b11=>?_))))))))))
  refine e_ asn (k:=sto (k:=on_ (qn_ (ws_ (wr_ (?_))))))
  dsimp only
  refine go ?_
  refine df cI (fun i=> [5].contains i) (fun k H=> (k=0→cQ H b11 [.int .i64 ((op:Nat):Int), .int .u64 ((A:Nat):Int), .int .u64 ((B:Nat):Int)])∧(k=1→cQ H b6 [s35.val])∧(k=3→Sl H s35 eI (hsI tb))∧(k=4→Sl H s35 eI (hsI tb))) (?_)
  refine cE 0 rfl rfl (a8) rfl (cD fun H hH=>bH) (?_)
  refine cE 1 rfl rfl (a8) rfl (cD fun H hH=>ar) (?_)
  refine af_ 2 (q:=cD fun H hH=>mv) (k:=?_)
  refine cE 3 rfl rfl (a8) rfl (cD fun H hH=>aV) (?_)
  refine cE 4 rfl rfl (a8) rfl (cD fun H hH=>by have hN:=hH.2.2.2 rfl;exact lel (hy:=hrow)) (?_)
  refine cN 5 rfl (a8) rfl (fun k hk=> ⟨fun hi=> ab,fun hi=> ab,fun hi=> ab,fun hi=> ab⟩) (cW (vs:= [_,_]) rfl (F5 (op:=op) (A:=A) (B:=B) (h:=h0) (aa) hA)) ?_
  rintro _ _ ⟨⟨kk,bb,hbt,hbf,rfl⟩,rfl⟩
  refine af_ 6 (q:=cD fun H hH=>mv) (k:=af_ 7 (q:=cD fun H hH=>exr) (k:=af_ 8 (q:=cD fun H hH=>exr) (k:=af_ 9 (q:=cD fun H hH=>asn) (k:=af_ 10 (q:=cD fun H hH=>asn) (k:=db (a8) (fun k hk=> ⟨fun hi=> absurd hk (ad),fun hi=> ab,fun hi=> ab,fun hi=> absurd hk (ad)⟩) (qn_ (ws_ (ws_ (wr_ (e_ mv (k:=e_ k8 (k:=e_ mv (k:=dN 6 77 (k:=fun h5=>eg_ mv (k:=eg_ fla (k:=eg_ ldv (k:=eg_ ieq (k:=eg_ (o4 rfl rfl) (k:=e_ pkf (k:=on_ (edq)))))))) (q:=?_))))))))))))))
  refine gk (k:=dN 5 83 (k:=fun h6=>gk (k:=kK (vs:=[_,_]) (hc:=(CS (p:=p) hA hB ⟨hs1,hs2,hs3⟩)) (k:=gk (k:=edq)))) (q:=gk (k:=wi_ (k:=fun h7=>?_) (m:=fun h7=>?_))))
  ·have hno:gD p=none:=by
    have h9:=h7
    cases hb9:bb with
    |false=> rw[hbf hb9]at hck1;exact hck1
    |true=>
     obtain⟨h',he,rfl⟩:=hbt hb9
     rw[he]at hck1;simp only at hck1
     rw[if_neg]at hck1
     ·exact hck1
     ·rintro⟨c1,c2⟩
      rw[yD hi2,Ys c1,c2,hb9]at h9
      rcases h9 with(h9|h9)|h9
      ·exact absurd h9 (ag)
      ·exact absurd h9 (ag)
      ·exact absurd h9 (ag)
   refine gk (k:=rt_ Tryz.results73 (k:=?_))
   exact⟨_,hsb, .inl ⟨hno,rfl,rfl⟩⟩
  have hq:=h7
  obtain rfl:bb=true:=by
   cases hb9:bb with
   |false=> rw[hb9]at hq;exact absurd hq.1.1 (ag)
   |true=> rfl
  obtain⟨h',he,rfl⟩:=hbt rfl
  have hle:=Kj he
  rw[he]at hck1;simp only at hck1
  rw[if_pos ⟨by have h9:=hq.1.2;rw[yD hi2]at h9;simpa using h9,hq.2⟩]at hck1
  refine wk_ (qn_ (ws_ (wr_ (e_ mv (k:=e_ ldv (k:=e_ mv (k:=e_ ixa (k:=e_ (lel (hy:=hrow)) (k:=go ?_)))))))))
  refine e_ (K9 rfl rfl rfl) (k:=?_)
  refine gk (k:=wi_ (k:=fun h8=>?_) (m:=fun h8=>?_))
  ·have hlast:i+1=code.length:=by have h9:=h8;omega
   rw[if_pos hlast]at hck1
   refine gk (k:=bm_ (k:=go ?_))
   refine gk (k:=rt_ Tryz.results73 (k:=?_))
   exact⟨_,hsb, .inr ⟨tb,s35,_,hck1,aa,rfl,rfl⟩⟩
  have hnl:¬i+1=code.length:=by have h9:=h8;omega
  rw[if_neg hnl]at hck1
  refine go ?_
  refine s_ (nJ (fi:= []) (ca:= [.pointer (some ⟨b6,0,none⟩)]) (vs:= [_,_]) rfl rfl (KS (sl:=s35) (b:=b6) (hs:=tb) (i:=i+1) (h:=h') (aa))) (k:=?_)
  rintro _ _ (⟨tb1,hm1,rfl,rfl⟩|⟨hm1,rfl,rfl⟩)
  ·rw[hm1]at hck1;simp only at hck1
   have hl1:=yw hm1
   obtain⟨hg1,hg2⟩:=yx hm1 (aa)
   refine gk (k:=eg (k:=gk (k:=dN 4 105 (k:=fun h9=>gk (k:=edq)) (q:=go ?_))))
   refine gk (k:=wi_ (k:=fun h10=>?_) (m:=fun h10=>?_))
   ·rw[if_pos (Gr (by have h9:=h10;omega))]at hck1
    refine ws_ (wr_ (e_ fla (k:=e_ ldv (k:=e_ mv (k:=e_ lnn (k:=e_ isb (k:=e_ mv (k:=e_ isb (k:=?_)))))))))
    refine e_ (cU 18446744073709551616 rfl rfl rfl (code.length - 2 - i) (aa) (aa)) (k:=?_)
    refine e_ igt (k:=sp_ (mv) (k:=fun h11=>?_) (m:=fun h11=>?_))
    ·have hbig:code.length - 2 - i<A:=by have h9:=h11;omega
     rw[if_pos hbig]at hck1
     refine gk (k:=ift (k:=?_))
     refine gk (k:=rt_ Tryz.results73 (k:=?_))
     exact⟨_,hsb, .inl ⟨hck1,rfl,rfl⟩⟩
    have hsm:¬code.length - 2 - i<A:=by have h9:=h11;omega
    rw[if_neg hsm]at hck1
    refine eg_ mv (k:=eg_ mv (k:=eg_ iad (k:=eg_ fla (k:=eg_ ldv (k:=?_)))))
    refine eg_ (dy rfl (aa)) (k:=?_)
    refine go ?_
    refine sg_ (nJ (fi:= []) (ca:= [.pointer (some ⟨b6,0,none⟩)]) (vs:= [_,_]) rfl rfl (KS (sl:=s35) (b:=b6) (hs:=tb1) (i:=i+1+A) (h:=h') (aa))) (k:=?_)
    rintro _ _ (⟨tb2,hm2,rfl,rfl⟩|⟨hm2,rfl,rfl⟩)
    ·rw[hm2]at hck1;simp only at hck1
     have hl2:=yw hm2
     obtain⟨hg3,hg4⟩:=yx hm2 (aa)
     have hg5:=Dh hm2 hg1
     refine gk (k:=eg (k:=go ?_))
     refine ln_ ((i+1,tb2,max (max most ((h0:Nat):Int)) ((h':Nat):Int),h')) (k:=?_)
     try dsimp only
     exact⟨aa,aa,hck1,hg5,fun j k hk=> by rcases hg4 j k hk with h9|h9;omega;rcases hg2 j k h9 with h9|h9;omega;have:=hkb j k h9;omega⟩
    rw[hm2]at hck1
    refine gk (k:=ift (k:=go ?_))
    refine gk (k:=rt_ Tryz.results73 (k:=?_))
    exact⟨_,hsb, .inl ⟨hck1,rfl,rfl⟩⟩
   rw[if_neg (by rw[MM (by have h9:=h10;omega)];decide)]at hck1
   refine go ?_
   refine ln_ ((i+1,tb1,max (max most ((h0:Nat):Int)) ((h':Nat):Int),h')) (k:=?_)
   try dsimp only
   exact⟨aa,aa,hck1,hg1,fun j k hk=> by rcases hg2 j k hk with h9|h9;omega;have:=hkb j k h9;omega⟩
  rw[hm1]at hck1
  refine gk (k:=ift (k:=go ?_))
  refine gk (k:=rt_ Tryz.results73 (k:=?_))
  exact⟨_,hsb, .inl ⟨hck1,rfl,rfl⟩⟩
 exact absurd h4 (aa)
theorem Mf {G:cK}{H:cG}{a:PrA}{p:PrG} [hg:Glb G H] [hia:Isa H] [hp:gE H a p] [hpc:qA H a p] (hps:HS p):SC G Tryz.prog 45 [.agg (prV a p.all).toArray] H (fun v H'=> ((gD p=none∧v= .tuple #[.agg [.int .i64 0, .int .i64 0].toArray,G.err 20])∨(∃(tb:Hs) (n most:Int),gD p=some tb∧v= .tuple #[.agg [.int .i64 n, .int .i64 most].toArray, .nilIface]))∧H'=H):=by
 refine sWk Tryz.func45 Tryz.ntmps45 ?_
 refine gk (k:=bxx (k:=fun b1=>?_))
 refine alc (k:=fun b2=>?_)
 refine go ?_
 refine c1_ rfl (EY hps) (k:=?_)
 rintro _ _ (⟨hno,rfl,rfl⟩|⟨tb,sl,most,hck,hlen,rfl,rfl⟩)
 ·refine e_ mv (k:=e_ exr (k:=e_ exr (k:=e_ asn (k:=e_ asn (k:=on_ (qn_ (ws_ (ws_ (wr_ (e_ mv (k:=?_)))))))))))
  refine e_ (uN rfl) (k:=?_)
  refine gk (k:=wi_ (k:=fun h1=>?_) (m:=fun h1=>?_))
  ·refine go ?_
   refine df cI (fun i=> [2].contains i) (fun k H=> (k=1→cQ H 16 [G.err 20])) (af_ 0 (q:=cD fun H hH=>bld []) (k:=?_))
   refine cE 1 rfl rfl (a8) rfl (cD fun H hH=>bA) (?_)
   refine cN 2 rfl (a8) rfl (fun k hk=> fun hi=> ab) (dM rfl rfl rfl) ?_
   rintro _ _ ⟨rfl,rfl⟩
   refine af_ 3 (q:=cD fun H hH=>asn) (k:=db (a8) (fun k hk=> fun hi=> ab) (gk (k:=rt_ Tryz.results45 (k:=?_))))
   exact⟨_,hsb, .inl ⟨hno,rfl⟩,rfl⟩
  exact absurd h1 (ag)
 have hne:hsI tb≠ []:=by intro h9;rw[hsI,List.map_eq_nil_iff]at h9;rw[h9]at hlen;exact Nat.lt_irrefl _ hlen
 refine e_ mv (k:=e_ exr (k:=e_ exr (k:=e_ asn (k:=e_ asn (k:=on_ (qn_ (ws_ (ws_ (wr_ (e_ mv (k:=?_)))))))))))
 refine e_ (oQ rfl hne) (k:=?_)
 refine gk (k:=wi_ (k:=fun h2=>?_) (m:=fun h2=>?_))
 ·exact absurd h2 (ag)
 refine wk_ (qn_ (ws_ (wr_ (e_ mv (k:=e_ lnn (k:=e_ mv (k:=e_ (bld [(0,_),(1,_)]) (k:=gk (k:=rt_ Tryz.results45 (k:=?_))))))))))
 exact⟨_,hsb, .inr ⟨tb,_,_,hck,rfl⟩,rfl⟩
abbrev Oz:List Value:= [.func (.func 75) #[] #[], .func (.func 76) #[] #[], .func (.func 78) #[] #[], .func (.func 79) #[] #[], .func (.func 80) #[] #[], .func (.func 81) #[] #[], .func (.func 82) #[] #[], .func (.func 85) #[] #[], .func (.func 87) #[] #[], .func (.func 89) #[] #[], .func (.func 91) #[] #[], .func (.func 93) #[] #[], .func (.func 95) #[] #[], .func (.func 96) #[] #[], .func (.func 97) #[] #[], .func (.func 98) #[] #[], .func (.func 101) #[] #[]]
theorem xH {G:cK}{H:cG}:SC G Tryz.prog 48 [] H (fun v H'=> v= .agg Oz.toArray∧H'=H):=by
 refine sWk Tryz.func48 Tryz.ntmps48 ?_
 refine gk (k:=alc (k:=fun b0=>?_))
 refine on_ (qn_ (ws_ (wr_ (?_))))
 refine e_ (vK Oz rfl rfl) (k:=?_)
 refine gk (k:=rt_ Tryz.results48 (k:=?_))
 exact⟨_,hsb,rfl,rfl⟩
theorem HD {op k:Nat}(h:ni op=some k):op≤16:=by
 unfold ni at h
 have:=(Yk.1 h).1
 simp at this;omega
theorem Ct:∀(n:Nat) (l:List Nat) (xs:List Ins),lq n l=some xs→∀x∈xs,x.1≤16
 | 0,l,xs,h=> by cases h;simp
 |n+1, [],xs,h=> by cases h;simp
 |n+1,op::l,xs,h=> by
  rw[lq]at h
  split at h
  ·cases h
  ·rename_i k hk
   split at h
   ·cases h
   ·rename_i vs r hv
    split at h
    ·cases h
    ·rename_i ys hy
     cases h
     intro x hx
     rcases List.mem_cons.1 hx with rfl|hx
     ·exact HD hk
     ·exact Ct n _ _ hy x hx
section
variable {G:cK}{P:Program}{N:Nat}{Q:Go.Sx.Post}{t:Tm}{H:cG}{c:Code}
theorem Lr {R:cG}(m:Nat) {x:MX}{y:MY} [hr:Rem H Mo m (x,y) R] (h:∀s,W G P N c Q t (Vr m (mV x s y)::Row s eVV y.stk::R)):W G P N c Q t H:=
 ⟨fun a w ha hw=> let ⟨s,hs⟩:=mo (K:=Mo) rfl hr hw;(h s).go a w ha hs⟩
end
theorem OD {x:MX}{s:SV}{y:MY}:∀(op:Nat),op≤16→(mV x s y)[9+op]? =some (.func (.func (MD.getD op 0)) #[] #[])
 | 0,_=> rfl
 | 1,_=> rfl
 | 2,_=> rfl
 | 3,_=> rfl
 | 4,_=> rfl
 | 5,_=> rfl
 | 6,_=> rfl
 | 7,_=> rfl
 | 8,_=> rfl
 | 9,_=> rfl
 | 10,_=> rfl
 | 11,_=> rfl
 | 12,_=> rfl
 | 13,_=> rfl
 | 14,_=> rfl
 | 15,_=> rfl
 | 16,_=> rfl
 |k+17,h=> absurd h (aa)
theorem Ko {l:List Value}{i:Nat}{v:Value}(h:l[i]? =some v):Cut l i 1 [v]:=⟨fun j w hw=> by
 cases j with
 |zero=> rw[←hw];simpa using h
 |succ j=> simp at hw,rfl⟩
structure SOk (x:MX) (p:PrG) (q:PtD) (pss:List (List Po)) (T:Nat) (ins:List Ins):Prop where
 cl:x.cs.length=pss.length
 cu:p.curs.length=pss.length
 fd:∀c∈p.curs,0≤c.1∧c.1<((q.fs.length:Nat):Int)
 av:p.avgs.length=q.fs.length
 ap:∀a∈p.avgs,0≤a
 n:pss.length≤100000000
 q:Bj q
 tot:∀ps∈pss,dg ps≤T
 near:∀n∈p.nears,gl p n=true∧n.cs.length*T≤1000000000000∧n.cs.length≤100000000
 nn:p.nears.length≤1000000000
 dec:∀z∈ins,z.1≤16∧z.2.1<18446744073709551616∧z.2.2<18446744073709551616
 len:ins.length≤100000000
theorem SOk.mok {x:MX}{p:PrG}{q:PtD}{pss:List (List Po)}{T:Nat}{ins:List Ins}{cs:List CuS}(h:SOk x p q pss T ins) (hc:gW pss cs):MOk x p q cs:=
 ⟨by rw[h.cl,hc.len],hc.ok,by rw[h.cu,hc.len],h.fd,h.av,h.ap,by rw[hc.len];exact h.n⟩
theorem SOk.rok {x:MX}{p:PrG}{q:PtD}{pss:List (List Po)}{T:Nat}{ins:List Ins}{cs:List CuS}(h:SOk x p q pss T ins) (hc:gW pss cs):HO p q T cs:=
 ⟨h.q,fun c hc9=> h.tot _ (by rw[←hc.same];exact List.mem_map_of_mem hc9),h.near,h.nn⟩
theorem IV {x:MX}{p:PrG}{q:PtD}{pss:List (List Po)}{T pc:Nat}{ins:List Ins}{tb:Hs}{stk:List VV}{op A B:Nat}(h:SOk x p q pss T ins) (hg:zL p ins tb) (hpc:pc<ins.length) (hx:ins[pc]? =some (op,A,B)) (hst:tb.getD pc none=some stk.length):HV p op A B stk.length:=by
 have hgx:ins.getD pc (0,0,0)=(op,A,B):=by rw[List.getD_eq_getElem?_getD,hx];all_goals rfl
 obtain⟨h0,h',e1,e2,e3,e4,e5⟩:=(hg.step pc hpc).ex
 rw[hst]at e1
 obtain rfl:=Option.some.inj e1
 rw[hgx]at e2 e3 e4 e5
 obtain⟨d1,d2,d3⟩:=h.dec _ (Yj hx)
 refine⟨d1,⟨h',e2⟩,e4,d2,d3,fun hj=> ?_⟩
 have hne:¬pc+1=ins.length:=fun e=> by have:=e3.1 e;simp only at this;omega
 have:=(e5 (aa)).2 (Gr hj)
 have hl:=h.len
 have h1:=this.1
 simp only at h1
 omega
section
variable {G:cK}{P:Program}{N:Nat}{Q:Go.Sx.Post}{t:Tm}{H:cG}{ops:Array Oper}{l:List Oper}
theorem MF {R:cG}(m:Nat) {x:MX}{y:MY} [hr:Rem H Mo m (x,y) R] (h:∀s,O G P N ops l Q t (Vr m (mV x s y)::Row s eVV y.stk::R)):O G P N ops l Q t H:=
 ⟨fun a w ha hw=> let ⟨s,hs⟩:=mo (K:=Mo) rfl hr hw;(h s).go a w ha hs⟩
end
theorem Js {c:Cfg}{d op A B pc:Nat}{st:List VV}{cs:List CuS}(hop:op≤16):(opV c d (op,A,B) pc st cs).2.1.length≤st.length+1:=by
 match op,hop with
 | 0,_| 1,_| 2,_| 3,_| 4,_| 5,_| 6,_| 7,_| 8,_| 9,_| 10,_| 11,_| 12,_| 13,_| 14,_| 15,_| 16,_=> simp only[opV,kh,nu,Ya,List.length_dropLast,Yg,Yb,Yc];omega
 |k+17,h=> exact absurd h (aa)
section
variable {G:cK}{H R R1 R2 R3:cG}{m op A B d T:Nat}{x:MX}{y yy:MY}{s:SV}{p:PrG}{q:PtD}{ins:List Ins}{cs:List CuS}{pss:List (List Po)}{tb:Hs}
theorem PR [h1:Rem H Vr m (mV x s y) R1] [h2:na R1 s eVV y.stk R] [hc:Rem R Cl cuZ (x.cs.zip cs) R2] [hsc:Sl R2 x.cu ePt (x.cs.map fun b=> (b,0))] [hg:Glb G R2] [hpt:dq R2 x.pt q] [hpr:gE R2 x.pa p] (hS:jS) (hC:fg) (hk:MOk x p q cs) (hro:HO p q T cs) (hi:HV p op A B y.stk.length) (hpl:y.pl=((d:Nat):Int)) (hd:d<q.ds.length) (hl:y.stk.length≤1000000000) (hpc:y.pc≤1000000000):
 SC G Tryz.prog (MD.getD op 0) [.pointer (some ⟨m,0,none⟩),nw op A B] H (fun v H'=> v= .tuple #[]∧H'=Mo m (x,{y with stk:=(opV (cS p q ins) d (op,A,B) y.pc y.stk cs).2.1,pc:=(opV (cS p q ins) d (op,A,B) y.pc y.stk cs).1})::Cl cuZ (x.cs.zip (opV (cS p q ins) d (op,A,B) y.pc y.stk cs).2.2)::R2):=
 SC.less ((cJ.rem h1 (gB h2 cJ.refl).keep).trans jB) (tOp (x:=x) (y:=y) (ins:=ins) hS hC hk hro hi hpl hd hl hpc)
theorem Lx [hr:Rem H Mo m (x,yy) R] [hc:Rem R Cl cuZ (x.cs.zip cs) R2] [hsc:Sl R2 x.cu ePt (x.cs.map fun b=> (b,0))] [hsi:Sl R2 x.co oE ins] [hg:Glb G R2] [hpt:dq R2 x.pt q] [hpr:gE R2 x.pa p] (hS:jS) (hC:fg) (hso:SOk x p q pss T ins) (hgp:zL p ins tb) (hcs:gW pss cs) (hpl:yy.pl=((d:Nat):Int)) (hd:d<q.ds.length) (hst:yy.st≤1000000000000000000) (hvi:yy.vi≤1000000000000000000):
 SC G Tryz.prog 62 [.pointer (some ⟨m,0,none⟩)] H (fun v H'=> v=vvV (qL (cS p q ins) d ins.length 0 [] cs yy.st).1∧∃y':MY,y'.pl=yy.pl∧y'.st=(qL (cS p q ins) d ins.length 0 [] cs yy.st).2.2∧y'.vi=yy.vi+1∧H'=Mo m (x,y')::Cl cuZ (x.cs.zip (qL (cS p q ins) d ins.length 0 [] cs yy.st).2.1)::R2):=by
 have hil:=hso.len
 have hne:=hgp.ne
 have hrun:=(wu (c:=cS p q ins) (d:=d) ins.length 0 [] cs yy.st hcs).2.2
 refine SC.less (cJ.rem hr (cJ.rem hc cJ.refl).keep) ?_
 refine nN (m:=m) (x:=x) (y:=yy) (R:=Cl cuZ (x.cs.zip cs)::R2) inferInstance (fun s=> ?_)
 refine sWk Tryz.func62 Tryz.ntmps62 ?_
 refine gk (k:=alc (k:=fun b2=>?_))
 refine gk (k:=xu 0 rfl (SV×(List VV)×Nat×Nat×(List CuS)×Nat) (fun y=> y.2.2.1<ins.length∧tb.getD y.2.2.1 none=some y.2.1.length∧y.2.1.length≤y.2.2.1∧gW pss y.2.2.2.2.1∧ins.length≤y.2.2.2.2.2+y.2.2.1∧y.2.2.2.1≤yy.st+y.2.2.1∧qL (cS p q ins) d ins.length 0 [] cs yy.st=qL (cS p q ins) d y.2.2.2.2.2 y.2.2.1 y.2.1 y.2.2.2.2.1 y.2.2.2.1) (fun y=> [(0, .pointer (some ⟨m,0,none⟩)),(2, .pointer (some ⟨b2,0,none⟩))]) (fun y=> Vr m (mV x y.1 ⟨y.2.1,yy.pl,y.2.2.1,y.2.2.2.1,yy.vi+1⟩)::Row y.1 eVV y.2.1::Cl cuZ (x.cs.zip y.2.2.2.2.1)::Vr b2 [.bool false, .int .u64 0]::R2) (fun y=> ins.length - y.2.2.1) (pass:=?_) (first:=fun hlab=>?_))
 ·rintro⟨s1,stk,pc,k1,ca,f⟩ ⟨hpc,htb,hsl,hca,hf,hk1,hrv⟩
  try dsimp only at*
  obtain⟨z,hz⟩:∃z,ins[pc]? =some z:=⟨_,Yi hpc⟩
  obtain⟨op,A,B⟩:=z
  have hio:=IV hso hgp hpc hz htb
  have hop:=hio.opl
  have hia:jR (cS p q ins) pc=(op,A,B):=by show ins.getD pc (0,0,0)=_;rw[List.getD_eq_getElem?_getD,hz];all_goals rfl
  obtain⟨f9,rfl⟩:∃g,f=g+1:=⟨f - 1,aa⟩
  rw[qL,hia]at hrv
  have hsl9:stk.length≤1000000000:=aa
  refine go ?_
  refine df cI (fun i=> [10,11].contains i) (fun k H=> (k=3→cQ H m (mV x s1 ⟨stk,yy.pl,pc,k1,yy.vi+1⟩))∧(k=7→cQ H m (mV x s1 ⟨stk,yy.pl,pc,k1,yy.vi+1⟩))∧(k=8→Sl H x.co oE ins)∧(k=9→Sl H x.co oE ins)) (af_ 0 (q:=cD fun H hH=>mv) (k:=af_ 1 (q:=cD fun H hH=>nck) (k:=af_ 2 (q:=cD fun H hH=>fla) (k:=?_))))
  refine cE 3 rfl rfl (a8) rfl (cD fun H hH=>ak) (?_)
  refine af_ 4 (q:=cD fun H hH=>mv) (k:=af_ 5 (q:=cD fun H hH=>nck) (k:=af_ 6 (q:=cD fun H hH=>fla) (k:=?_)))
  refine cE 7 rfl rfl (a8) rfl (cD fun H hH=>ar) (?_)
  refine cE 8 rfl rfl (a8) rfl (cD fun H hH=>aV) (?_)
  refine cE 9 rfl rfl (a8) rfl (cD fun H hH=>by have hN:=hH.2.2.2 rfl;exact jn (hy:=hz)) (?_)
  refine cN 10 rfl (a8) rfl (fun k hk=> ⟨fun hi=> ab,fun hi=> ab,fun hi=> ab,fun hi=> ab⟩) (nK) ?_
  rintro _ _ ⟨b3,rfl,rfl⟩
  refine cN 11 rfl (a8) rfl (fun k hk=> ⟨fun hi=> ab,fun hi=> ab,fun hi=> ab,fun hi=> ab⟩) (dM rfl rfl rfl) ?_
  rintro _ _ ⟨rfl,rfl⟩
  refine db (a8) (fun k hk=> ⟨fun hi=> absurd hk (ad),fun hi=> absurd hk (ad),fun hi=> absurd hk (ad),fun hi=> absurd hk (ad)⟩) (qn_ (ws_ (wr_ (e_ mv (k:=e_ nck (k:=e_ fla (k:=e_ ldv (k:=?_))))))))
  refine e_ (evq (wV rfl rfl (by dsimp only;omega)) (congrArg (Value.int .i64) (show _=((pc+1:Nat):Int)from by dsimp only;omega))) (k:=?_)
  refine e_ nck (k:=e_ fla (k:=sto (k:=on_ (qn_ (ws_ (wr_ (e_ mv (k:=e_ nck (k:=e_ fla (k:=e_ ldv (k:=?_)))))))))))
  refine e_ (evq (wV rfl rfl (by dsimp only;omega)) (congrArg (Value.int .i64) (show _=((k1+1:Nat):Int)from by dsimp only;omega))) (k:=?_)
  refine go ?_
  refine df cI (fun i=> [9].contains i) (fun k H=> (k=2→cQ H b3 [.int .i64 ((op:Nat):Int), .int .u64 ((A:Nat):Int), .int .u64 ((B:Nat):Int)])∧(k=6→MoP H m x)∧(k=8→cQ H b3 [.int .i64 ((op:Nat):Int), .int .u64 ((A:Nat):Int), .int .u64 ((B:Nat):Int)])) (?_)
  haveI hmop:∀(A:Hp) (R:cG),MoP (A::Vr m (mV x s1 ⟨stk,yy.pl,pc+1,k1+1,yy.vi+1⟩)::R) m x:=fun A R=> MoP.ofVr (s:=s1) (y:=⟨stk,yy.pl,pc+1,k1+1,yy.vi+1⟩)
  refine af_ 0 (q:=cD fun H hH=>mv) (k:=af_ 1 (q:=cD fun H hH=>fla) (k:=?_))
  refine cE 2 rfl rfl (a8) rfl (cD fun H hH=>ak) (?_)
  refine af_ 3 (q:=cD fun H hH=>nck) (k:=af_ 4 (q:=cD fun H hH=>fla) (k:=?_))
  refine cE 5 rfl rfl (a8) rfl (cD fun H hH=>evq (eM rfl rfl op rfl (aa)) (congrArg (fun n=> Value.pointer (some ⟨m,n,none⟩)) (show _=9+op from aa))) (?_)
  refine cE 6 rfl rfl (a8) rfl (cD fun H hH=>by have hN:=hH.2.1 rfl;exact B0 (x:=x) m fun s yy R=> by haveI:=Ko (OD (x:=x) (s:=s) (y:=yy) op hop);exact ldv) (?_)
  refine af_ 7 (q:=cD fun H hH=>mv) (k:=?_)
  refine cE 8 rfl rfl (a8) rfl (cD fun H hH=>by have hN:=hH.2.2 rfl;exact lds) (?_)
  refine cN 9 rfl (a8) rfl (fun k hk=> ⟨fun hi=> ab,fun hi=> ab,fun hi=> ab⟩) (nJ (fi:= []) (ca:= []) (vs:= [_,_]) rfl rfl (PR (x:=x) (y:=⟨stk,yy.pl,pc+1,k1+1,yy.vi+1⟩) (s:=s1) (ins:=ins) hS hC (hso.mok hca) (hso.rok hca) hio hpl hd hsl9 (by show pc+1≤_;omega))) ?_
  rintro _ _ ⟨rfl,rfl⟩
  refine db (a8) (fun k hk=> ⟨fun hi=> ab,fun hi=> absurd hk (ad),fun hi=> absurd hk (ad)⟩) (qn_ (ws_ (ws_ (wr_ (?_)))))
  refine MF m (fun s9=> ?_)
  refine gk (k:=wi_ (k:=fun h1=>?_) (m:=fun h1=>?_))
  ·have h0:¬op=0:=by have h9:=h1;omega
   rw[if_neg h0]at hrv
   obtain⟨hv1,hv2,hv3⟩:=FN (c:=cS p q ins) (d:=d) (st:=stk) (cs:=ca) (hgp.step pc hpc) hpc htb (by rw[hia];exact h0)
   rw[hia]at hv1 hv2 hv3
   have hln:=Js (c:=cS p q ins) (d:=d) (A:=A) (B:=B) (pc:=pc+1) (st:=stk) (cs:=ca) hop
   have hrv2:=hrv
   refine Eh (qg_ (?_))
   refine jg_ ((s9,(opV (cS p q ins) d (op,A,B) (pc+1) stk ca).2.1,(opV (cS p q ins) d (op,A,B) (pc+1) stk ca).1,k1+1,(opV (cS p q ins) d (op,A,B) (pc+1) stk ca).2.2,f9)) (hI:=?_) (hm:=by(try dsimp only);omega) (hs:=by(try dsimp only);exact sbt) (hh:=by(try dsimp only);exact hsb)
   try dsimp only
   exact⟨hv2,hv3,aa,FO hca,aa,aa,hrv2⟩
  obtain rfl:op=0:=az
  rw[if_pos rfl]at hrv
  rw[hrv]
  have hs19:0<stk.length:=by
   obtain⟨h',he⟩:=hio.eff
   simp only[iW]at he
   split at he
   ·omega
   ·cases he
  refine go ?_
  refine du (H':=Vr m (mV x s9 ⟨stk,yy.pl,pc+1,k1+1,yy.vi+1⟩)::Row s9 eVV stk::Cl cuZ (x.cs.zip ca)::_::_::R2) cJ.refl ?_
  refine go ?_
  refine d1_ rfl (Ly (x:=x) (y:=⟨stk,yy.pl,pc+1,k1+1,yy.vi+1⟩) (s:=s9) hs19 hsl9) (k:=gk (k:=jt_ (rt_ Tryz.results62 (k:=?_))))
  exact⟨_,cJ.trans (H':=Vr m (mV x s9 ⟨stk,yy.pl,pc+1,k1+1,yy.vi+1⟩)::Row s9 eVV stk::Cl cuZ (x.cs.zip ca)::R2) (hsb) jB,rfl,⟨stk,yy.pl,pc+1,k1+1,yy.vi+1⟩,rfl,rfl,rfl,rfl⟩
 refine ws_ (wr_ (e_ mv (k:=e_ nck (k:=e_ fla (k:=e_ ldv (k:=?_))))))
 refine e_ (evq iad (congrArg (Value.int .i64) (show _=((yy.vi+1:Nat):Int)from aa))) (k:=?_)
 refine e_ nck (k:=e_ fla (k:=sto (k:=on_ (qn_ (ws_ (wr_ (e_ mv (k:=e_ mv (k:=e_ nck (k:=e_ fla (k:=e_ ldv (k:=?_))))))))))))
 refine e_ (eL rfl (bQ) 0 0 rfl ⟨_,_,rfl,rfl⟩ (aa) (aa)) (k:=?_)
 refine e_ nck (k:=e_ fla (k:=sto (k:=on_ (qn_ (ws_ (wr_ (?_)))))))
 refine du (H':=Row (s.cut 2 0 0) eVV []::Vr m (mV x (s.cut 2 0 0) ⟨yy.stk,yy.pl,yy.pc,yy.st,yy.vi+1⟩)::Cl cuZ (x.cs.zip cs)::Vr b2 [.bool false, .int .u64 0]::R2) (cJ.trans (H':=Row s eVV yy.stk::Vr m (mV x (s.cut 2 0 0) ⟨yy.stk,yy.pl,yy.pc,yy.st,yy.vi+1⟩)::Cl cuZ (x.cs.zip cs)::Vr b2 [.bool false, .int .u64 0]::R2) (hsb) (tw (k:=0) (aa))) ?_
 refine e_ mv (k:=e_ nck (k:=e_ fla (k:=sto (k:=on_ (qn_ (hlab ((s.cut 2 0 0, [],0,yy.st,cs,ins.length)) _ _ ?_ (by(try dsimp only);exact sbt) (by(try dsimp only);exact hsb)))))))
 try dsimp only
 exact⟨hne,hgp.at0,Nat.le_refl _,hcs,aa,aa,rfl⟩
end
section
variable {G:cK}{H R R2:cG}{m T:Nat}{x:MX}{yy:MY}{p:PrG}{q:PtD}{ins:List Ins}{cs:List CuS}{pss:List (List Po)}
theorem LO [hr:Rem H Mo m (x,yy) R] [hc:Rem R Cl cuZ (x.cs.zip cs) R2] [hsc:Sl R2 x.cu ePt (x.cs.map fun b=> (b,0))] [hg:Glb G R2] [hpt:dq R2 x.pt q] [hpr:gE R2 x.pa p] (hso:SOk x p q pss T ins) (hcs:gW pss cs) (hxa:x.all=p.all) (hpl1: -1≤yy.pl) (hpl2:yy.pl<2147483647) (hdr:∀k∈p.drive,0≤k∧k<((pss.length:Nat):Int)) (hdl:p.drive.length≤1000000000):
 SC G Tryz.prog 61 [.pointer (some ⟨m,0,none⟩)] H (fun v H'=> v= .bool (er (cS p q ins) ⟨cs,yy.pl,yy.st,yy.vi⟩).1∧H'=Mo m (x,{yy with pl:=(er (cS p q ins) ⟨cs,yy.pl,yy.st,yy.vi⟩).2.pl})::Cl cuZ (x.cs.zip (er (cS p q ins) ⟨cs,yy.pl,yy.st,yy.vi⟩).2.cs)::R2):=by
 have hlm:(x.cs.map fun b=> ((b,0):Nat×Nat)).length=pss.length:=by rw[Yh,hso.cl]
 have hids:(cS p q ins).ids.length=q.ds.length:=by show(q.ds.map (·.1)).length=_;rw[Yh]
 obtain⟨sr,hsr⟩:∃sr,sr=gf (cS p q ins) 2147483648 yy.pl cs:=⟨_,rfl⟩
 refine SC.less (cJ.rem hr (cJ.rem hc cJ.refl).keep) ?_
 refine nN (m:=m) (x:=x) (y:=yy) (R:=Cl cuZ (x.cs.zip cs)::R2) inferInstance (fun s=> ?_)
 refine sWk Tryz.func61 Tryz.ntmps61 ?_
 refine gk (k:=xu 0 rfl (Int×(List CuS)×Nat) (fun y=> ¬p.all=true∧ -1≤y.1∧y.1<2147483647∧gW pss y.2.1∧2147483647≤((y.2.2:Nat):Int)+y.1∧sr=gf (cS p q ins) y.2.2 y.1 y.2.1) (fun y=> [(0, .pointer (some ⟨m,0,none⟩))]) (fun y=> Vr m (mV x s ⟨yy.stk,y.1,yy.pc,yy.st,yy.vi⟩)::Row s eVV yy.stk::Cl cuZ (x.cs.zip y.2.1)::R2) (fun y=> (2147483647 - y.1).toNat) (pass:=?_) (first:=fun hlab=>?_))
 ·rintro⟨pl,ca,f⟩ ⟨hna,hp1,hp2,hca,hf,hsm⟩
  try dsimp only at*
  obtain⟨f9,rfl⟩:∃g,f=g+1:=⟨f - 1,aa⟩
  rw[gf]at hsm
  refine go ?_
  refine gk (k:=dt (Nat×(List CuS)×Int) (fun y=> y.1≤p.drive.length∧gW pss y.2.1∧y.2.2≤2147483647∧pl<y.2.2∧mU pl p.drive ca 2147483647=mU pl (p.drive.drop y.1) y.2.1 y.2.2) (fun y=> [(5, .int .i64 y.2.2),(39, .int .i64 ((y.1:Nat):Int))]) [(0,_),(37,_),(38,_)] (fun y=> [Cl cuZ (x.cs.zip y.2.1)]) _ (fun y=> p.drive.length - y.1) ((0,ca,2147483647)) (h0:=?_) (k:=?_))
  ·try dsimp only
   exact⟨Yl _,hca,aa,hp2,by rw[List.drop_zero]⟩
  rintro⟨i,cb,le⟩ ⟨hi,hcb,hle,hlp,hdv⟩
  try dsimp only[Yd,Ye]at*
  refine gk (k:=wi_ (k:=fun h1=>?_) (m:=fun h1=>?_))
  ·obtain⟨k0,hk0⟩:∃k,p.drive[i]? =some k:=⟨_,Yi (aa)⟩
   obtain⟨kb1,kb2⟩:=hdr k0 (Yj hk0)
   obtain⟨kn,rfl⟩:∃kn:Nat,k0=((kn:Nat):Int):=⟨k0.toNat,aa⟩
   have hbl:=hcb.len
   have hxl:=hso.cl
   obtain⟨b,hb⟩:∃b,x.cs[kn]? =some b:=⟨_,Yi (aa)⟩
   obtain⟨c,hcA⟩:∃c,cb[kn]? =some c:=⟨_,Yi (aa)⟩
   have hbp:(x.cs.map fun b=> ((b,0):Nat×Nat))[kn]? =some ((b,0):Nat×Nat):=by rw[Xd,hb];all_goals rfl
   have hcok:=hcb.get hcA
   have hgdc:cb.getD ((kn:Nat):Int).toNat m5=c:=by rw[Int.toNat_natCast,List.getD_eq_getElem?_getD,hcA];all_goals rfl
   have hzc:=lB hb hcA
   have hzcl:=(Yk.1 hzc).1
   have hset:=hcb.set (f:=iH pl) kn (fun c hc=> ur hc) (fun c=> uq pl c)
   rw[show cb.getD kn m5=c from by rw[List.getD_eq_getElem?_getD,hcA];all_goals rfl]at hset
   have hgt:=zd (pl:=pl) hcok (aa)
   rw[dF hk0,mU,hgdc,Int.toNat_natCast]at hdv
   refine wk_ (qn_ (ws_ (wb_ (ws_ (wr_ (e_ ixa (k:=e_ (lel (hy:=hk0)) (k:=e_ asn (k:=on_ (qn_ (ws_ (wr_ (e_ mv (k:=?_))))))))))))))
   refine e_ nck (k:=e_ fla (k:=e_ ldv (k:=e_ mv (k:=e_ ixa (k:=e_ (lel (hy:=hbp)) (k:=?_))))))
   refine du (H':=CuH b c::Cl cuZ ((x.cs.zip cb).take kn)::Cl cuZ ((x.cs.zip cb).drop (kn+1))::Vr m (mV x s ⟨yy.stk,pl,yy.pc,yy.st,yy.vi⟩)::Row s eVV yy.stk::R2) (cJ.trans (H':=Cl cuZ (x.cs.zip cb)::Vr m (mV x s ⟨yy.stk,pl,yy.pc,yy.st,yy.vi⟩)::Row s eVV yy.stk::R2) (hsb) (qm hzc)) ?_
   refine go ?_
   refine df cI (fun i=> [3].contains i) (fun k H=> (k=7→cQ H m (mV x s ⟨yy.stk,pl,yy.pc,yy.st,yy.vi⟩))) (af_ 0 (q:=cD fun H hH=>mv) (k:=af_ 1 (q:=cD fun H hH=>nck) (k:=af_ 2 (q:=cD fun H hH=>fla) (k:=af_ 4 (q:=cD fun H hH=>mv) (k:=af_ 5 (q:=cD fun H hH=>nck) (k:=af_ 6 (q:=cD fun H hH=>fla) (k:=?_)))))))
   refine cE 7 rfl rfl (a8) rfl (cD fun H hH=>bA) (?_)
   refine cN 3 rfl (a8) rfl (fun k hk=> fun hi=> ab) (cW (vs:= [_]) rfl (uZ (c:=c))) ?_
   rintro _ _ ⟨rfl,rfl⟩
   refine af_ 8 (q:=cD fun H hH=>ile) (k:=db (a8) (fun k hk=> fun hi=> ab) (gk (k:=wi_ (k:=fun h2=>?_) (m:=fun h2=>?_))))
   ·have hdc:iH pl c=jE c (pl+1):=by rw[iH,if_pos h2]
    rw[hdc]at hdv hset hgt
    refine wr_ (e_ mv (k:=e_ mv (k:=e_ nck (k:=e_ fla (k:=e_ ldv (k:=?_))))))
    refine e_ (evq (wV rfl rfl (by dsimp only;omega)) (congrArg (Value.int .i64) (show _=pl+1 from rfl))) (k:=?_)
    refine d2_ rfl (O8 hcok) (k:=go ?_)
    refine d1_ rfl (uZ) (k:=?_)
    refine e_ (mN rfl rfl) (k:=?_)
    refine e_ asn (k:=on_ (bn_ (qn_ (wr_ (?_)))))
    refine du (H':=Cl cuZ (x.cs.zip (cb.set kn (jE c (pl+1))))::Vr m (mV x s ⟨yy.stk,pl,yy.pc,yy.st,yy.vi⟩)::Row s eVV yy.stk::R2) (by rw[←jy hb];exact cJ.trans (hsb) (jD hzcl)) ?_
    refine go ?_
    refine ln_ ((i+1,cb.set kn (jE c (pl+1)),min le (gJ (jE c (pl+1)).ps (jE c (pl+1)).u))) (k:=?_)
    try dsimp only
    exact⟨aa,hset,aa,aa,hdv⟩
   have hdc:iH pl c=c:=by rw[iH,if_neg h2]
   rw[hdc]at hdv hset hgt
   refine go ?_
   refine d1_ rfl (uZ) (k:=?_)
   refine e_ (mN rfl rfl) (k:=?_)
   refine e_ asn (k:=on_ (bn_ (qn_ (wr_ (?_)))))
   refine du (H':=Cl cuZ (x.cs.zip (cb.set kn c))::Vr m (mV x s ⟨yy.stk,pl,yy.pc,yy.st,yy.vi⟩)::Row s eVV yy.stk::R2) (by rw[←jy hb];exact cJ.trans (hsb) (jD hzcl)) ?_
   refine go ?_
   refine ln_ ((i+1,cb.set kn c,min le (gJ c.ps c.u))) (k:=?_)
   try dsimp only
   exact⟨aa,hset,aa,aa,hdv⟩
  obtain rfl:i=p.drive.length:=aa
  rw[List.drop_length,mU]at hdv
  rw[show mU pl (cS p q ins).p.drive ca 2147483647=(cb,le)from hdv]at hsm
  simp only at hsm
  refine gk (k:=wi_ (k:=fun h3=>?_) (m:=fun h3=>?_))
  ·rw[if_pos h3]at hsm
   refine gk (k:=jt_ (rt_ Tryz.results61 (k:=?_)))
   rw[er,show(cS p q ins).p.all=p.all from rfl,if_neg hna,←hsr,hsm];exact⟨_,cJ.trans (H':=Vr m (mV x s ⟨yy.stk,pl,yy.pc,yy.st,yy.vi⟩)::Row s eVV yy.stk::Cl cuZ (x.cs.zip cb)::R2) (hsb) jB,rfl,rfl⟩
  rw[if_neg h3]at hsm
  have hlt:le<2147483647:=cj
  have hal:ly (cS p q ins) le=(decide (0≤le) && decide (le<((q.ds.length:Nat):Int)) && !oG q.dw le.toNat):=by
   rw[ly,hids,show decide (le.toNat<q.ds.length)=decide (le<((q.ds.length:Nat):Int))from decide_eq_decide.2 (aa)];all_goals rfl
  rw[hal]at hsm
  obtain⟨av,hav0⟩:∃av,av=(decide (0≤le) && decide (le<((q.ds.length:Nat):Int)) && !oG q.dw le.toNat):=⟨_,rfl⟩
  rw[←hav0]at hsm
  refine go ?_
  refine go ?_
  refine d2_ rfl ((Mh (a:=x.pt) hso.q).mono (K':=fun v H'=> v= .bool av∧H'=_) (fun v H' h=> ⟨h.1.trans (by rw[hav0]),h.2⟩)) (k:=gk (k:=wi_ (k:=fun h4=>?_) (m:=fun h4=>?_)))
  ·have hav:¬av=true:=by have h9:=h4;simpa using h9
   rw[if_neg hav]at hsm
   refine Eh (qg_ (?_))
   refine jg_ ((le,cb,f9)) (hI:=?_) (hm:=by(try dsimp only);omega) (hs:=by(try dsimp only);exact sbt) (hh:=by(try dsimp only);exact hsb)
   try dsimp only
   exact⟨hna,aa,hlt,hcb,aa,hsm⟩
  have hav:av=true:=by have h9:=h4;simpa using h9
  rw[if_pos hav]at hsm
  refine gk (k:=jt_ (rt_ Tryz.results61 (k:=?_)))
  rw[er,show(cS p q ins).p.all=p.all from rfl,if_neg hna,←hsr,hsm];exact⟨_,cJ.trans (H':=Vr m (mV x s ⟨yy.stk,le,yy.pc,yy.st,yy.vi⟩)::Row s eVV yy.stk::Cl cuZ (x.cs.zip cb)::R2) (hsb) jB,rfl,rfl⟩
 refine gk (k:=wi_ (k:=fun h5=>?_) (m:=fun h5=>?_))
 ·have hall:p.all=true:=by rw[←hxa];exact h5
  rw[er,show(cS p q ins).p.all=true from hall,if_pos rfl,tK,hids]
  refine go ?_
  refine df cI (fun i=> [9].contains i) (fun k H=> (k=3→cQ H m (mV x s yy))∧(k=7→cQ H m (mV x s yy))) (af_ 0 (q:=cD fun H hH=>mv) (k:=af_ 1 (q:=cD fun H hH=>nck) (k:=af_ 2 (q:=cD fun H hH=>fla) (k:=?_))))
  refine cE 3 rfl rfl (a8) rfl (cD fun H hH=>ak) (?_)
  refine af_ 4 (q:=cD fun H hH=>mv) (k:=af_ 5 (q:=cD fun H hH=>nck) (k:=af_ 6 (q:=cD fun H hH=>fla) (k:=?_)))
  refine cE 7 rfl rfl (a8) rfl (cD fun H hH=>aE) (?_)
  refine af_ 8 (q:=cD fun H hH=>iad) (k:=?_)
  refine cN 9 rfl (a8) rfl (fun k hk=> ⟨fun hi=> ab,fun hi=> ab⟩) (cW (vs:= [_,_]) rfl (A3 (a:=x.pt) hso.q (aa))) ?_
  rintro _ _ ⟨(⟨dd,hfd,rfl⟩|⟨hfd,rfl⟩),rfl⟩
  ·rw[show((List.range q.ds.length).drop (yy.pl+1).toNat).find? (fun d=> !(cS p q ins).dead d)=some dd from hfd]
   refine af_ 10 (q:=cD fun H hH=>mv) (k:=af_ 11 (q:=cD fun H hH=>exr) (k:=af_ 12 (q:=cD fun H hH=>exr) (k:=af_ 13 (q:=cD fun H hH=>asn) (k:=af_ 14 (q:=cD fun H hH=>asn) (k:=db (a8) (fun k hk=> ⟨fun hi=> absurd hk (ad),fun hi=> ab⟩) (gk (k:=ift (k:=?_))))))))
   refine go ?_
   refine gk (k:=ft_ (rt_ Tryz.results61 (k:=?_)))
   exact⟨_,cJ.trans (H':=Vr m (mV x s {yy with pl:=((dd:Nat):Int)})::Row s eVV yy.stk::Cl cuZ (x.cs.zip cs)::R2) (hsb) jB,rfl,rfl⟩
  rw[show((List.range q.ds.length).drop (yy.pl+1).toNat).find? (fun d=> !(cS p q ins).dead d)=none from hfd]
  refine af_ 10 (q:=cD fun H hH=>mv) (k:=af_ 11 (q:=cD fun H hH=>exr) (k:=af_ 12 (q:=cD fun H hH=>exr) (k:=af_ 13 (q:=cD fun H hH=>asn) (k:=af_ 14 (q:=cD fun H hH=>asn) (k:=db (a8) (fun k hk=> ⟨fun hi=> absurd hk (ad),fun hi=> ab⟩) (gk (k:=eg (k:=?_))))))))
  refine gk (k:=ft_ (rt_ Tryz.results61 (k:=?_)))
  exact⟨_,cJ.trans (H':=Vr m (mV x s yy)::Row s eVV yy.stk::Cl cuZ (x.cs.zip cs)::R2) (hsb) jB,rfl,rfl⟩
 have hall:¬p.all=true:=by rw[←hxa];have h9:=h5;simpa using h9
 refine wk_ (qn_ (hlab ((yy.pl,cs,2147483648)) _ _ ?_ (by(try dsimp only);exact sbt) (by(try dsimp only);exact hsb)))
 try dsimp only
 exact⟨hall,hpl1,hpl2,hcs,aa,hsr⟩
end
class mb (H:cG) (x:MX) (p:outParam PrG) (ins:outParam (List Ins)):Prop where
 pr:gE H x.pa p
 co:Sl H x.co oE ins
 cu:Sl H x.cu ePt (x.cs.map fun b=> (b,0))
section
variable {H:cG}{x:MX}{p:PrG}{ins:List Ins}
theorem mb.less {H':cG}(hs:cJ H' H) (h:mb H x p ins):mb H' x p ins:=⟨h.pr.less hs,dD hs h.co,dD hs h.cu⟩
instance mb.tail {A:Hp} [h:mb H x p ins]:mb (A::H) x p ins:=h.less (cJ.drop cJ.refl)
instance [h:mb H x p ins]:gE H x.pa p:=h.pr
instance [h:mb H x p ins]:Sl H x.co oE ins:=h.co
instance [h:mb H x p ins]:Sl H x.cu ePt (x.cs.map fun b=> (b,0)):=h.cu
theorem v8 {F H:cG}:cJ (fB F::H) F:=fun L hL=> by
 obtain⟨L1,L2,rfl,h1,_⟩:=pM hL
 exact⟨L1,L2,h1,List.Perm.refl _⟩
instance mb.star {F:cG} [h:mb F x p ins]:mb (fB F::H) x p ins:=h.less v8
end
def Ma (m:Nat) (z:MX×MS):Hp:=Ex fun y:List VV×Nat=> [Mo m (z.1,⟨y.1,z.2.pl,y.2,z.2.steps,z.2.visits⟩),Cl cuZ (z.1.cs.zip z.2.cs)]
theorem yA {m:Nat}{x:MX}{y:MY}{cs:List CuS}{R:cG}:cJ (Mo m (x,y)::Cl cuZ (x.cs.zip cs)::R) (Ma m (x,⟨cs,y.pl,y.st,y.vi⟩)::R):=sA (K:=Ma) (i:=m) (a:=(x,⟨cs,y.pl,y.st,y.vi⟩)) rfl (y.stk,y.pc)
theorem Ft {G:cK}{P:Program}{H:cG}{f:FuncId}{args:List Value}{K:Value→cG→Prop}{R:cG}{m:Nat}{x:MX}{s:MS}(hr:Rem H Ma m (x,s) R) (h:∀(st:List VV) (pc:Nat),SC G P f args (Mo m (x,⟨st,s.pl,pc,s.steps,s.visits⟩)::Cl cuZ (x.cs.zip s.cs)::R) K):SC G P f args H K:=
 ⟨(h [] 0).enter,fun w hw=> let ⟨y,hs⟩:=mo (K:=Ma) rfl hr hw;(h y.1 y.2).call w hs⟩
structure pz (x:MX) (p:PrG) (q:PtD) (pss:List (List Po)) (T:Nat) (ins:List Ins) (tb:Hs):Prop where
 so:SOk x p q pss T ins
 gp:zL p ins tb
 all:x.all=p.all
 drl:p.drive.length≤1000000000
theorem zc {p:PrG}:∀{l:List Int}{b:Option Int},jx p b l=true→∀k∈l,0≤k∧k<((p.curs.length:Nat):Int)
 | [],_,_,k,hk=> by cases hk
 |a::r,b,h,k,hk=> by
  rw[uo,eh]at h
  simp only[Bool.and_eq_true,decide_eq_true_eq]at h
  rcases List.mem_cons.1 hk with rfl|hk
  ·omega
  ·exact zc h.2 k hk
theorem qG {p:PrG}(h:ie p=true):p.avgs.length≤16∧(∀a∈p.avgs,0≤a)∧(∀c∈p.curs,0≤c.1∧c.1<((p.avgs.length:Nat):Int)∧c.2.size≤64)∧(∀n∈p.nears,gl p n=true)∧jx p none p.drive=true:=by
 rw[ie]at h
 simp only[Bool.and_eq_true,List.all_eq_true,decide_eq_true_eq,eh]at h
 obtain⟨⟨⟨⟨⟨⟨h1,h2⟩,h3⟩,h4⟩,h5⟩,h6⟩,h7⟩:=h
 exact⟨h2,h3,fun c hc=> ⟨(h4 c hc).1.1,(h4 c hc).1.2,(h4 c hc).2⟩,h5,h7⟩
section
variable {x:MX}{p:PrG}{q:PtD}{pss:List (List Po)}{T:Nat}{ins:List Ins}{tb:Hs}
theorem pz.dr (h:pz x p q pss T ins tb):l3 (cS p q ins) pss.length:=fun k hk=> by
 have:=zc (qG h.gp.tab).2.2.2.2 k hk
 rw[h.so.cu]at this;exact this
theorem pz.ids (h:pz x p q pss T ins tb):(cS p q ins).ids.length=q.ds.length:=by show(q.ds.map (·.1)).length=_;rw[Yh]
theorem pz.few (h:pz x p q pss T ins tb):(cS p q ins).ids.length≤2147483647:=by have:=h.so.q.n;rw[h.ids];omega
theorem tL (h:pz x p q pss T ins tb) {s:MS}(hm:jO (cS p q ins) pss s):s.steps≤300000000000000000∧s.visits≤2147483647:=by
 have h1:=hm.vis
 have h2:=hm.hi
 have h3:=hm.stp
 have h4:=h.so.len
 have h5:s.visits*(cS p q ins).ins.length≤2147483647*100000000:=Nat.mul_le_mul (aa) h4
 omega
end
def OS (o:Option Hit):Value:=match o with
 |none=> .tuple #[.agg [.int .i64 0, .int .u64 0].toArray, .bool false]
 |some h=> .tuple #[.agg [.int .i64 h.1, .int .u64 ((h.2:Nat):Int)].toArray, .bool true]
section
variable {G:cK}{H R:cG}{m T:Nat}{x:MX}{s:MS}{p:PrG}{q:PtD}{ins:List Ins}{pss:List (List Po)}{tb:Hs}
theorem LQ [hr:Rem H Ma m (x,s) R] [hg:Glb G R] [hpt:dq R x.pt q] [hmf:mb R x p ins] (hro:pz x p q pss T ins tb) (hms:jO (cS p q ins) pss s):SC G Tryz.prog 61 [.pointer (some ⟨m,0,none⟩)] H (fun v H'=> v= .bool (er (cS p q ins) s).1∧H'=Ma m (x,(er (cS p q ins) s).2)::R):=by
 obtain⟨cs,pl,k,vi⟩:=s
 refine Ft hr (fun st pc=> ?_)
 obtain⟨_,h2,h3,_⟩:=q8 hro.dr hro.few hms
 refine SC.out ((LO (yy:=⟨st,pl,pc,k,vi⟩) (cs:=cs) (ins:=ins) (p:=p) (q:=q) (x:=x) (R2:=R) hro.so hms.cs hro.all hms.lo hms.hi hro.dr hro.drl).mono (fun v H' h=> ⟨_,?_,h.1,rfl⟩))
 have e:(er (cS p q ins) ⟨cs,pl,k,vi⟩).2=⟨(er (cS p q ins) ⟨cs,pl,k,vi⟩).2.cs,(er (cS p q ins) ⟨cs,pl,k,vi⟩).2.pl,k,vi⟩:=by
  have e2:∀z:MS,z.steps=k→z.visits=vi→z=⟨z.cs,z.pl,k,vi⟩:=fun z h4 h5=> by subst h4;subst h5;rfl
  exact e2 _ h2 h3
 have h9:cJ (Mo m (x,⟨st,(er (cS p q ins) ⟨cs,pl,k,vi⟩).2.pl,pc,k,vi⟩)::Cl cuZ (x.cs.zip (er (cS p q ins) ⟨cs,pl,k,vi⟩).2.cs)::R) (Ma m (x,⟨(er (cS p q ins) ⟨cs,pl,k,vi⟩).2.cs,(er (cS p q ins) ⟨cs,pl,k,vi⟩).2.pl,k,vi⟩)::R):=yA (y:=⟨st,(er (cS p q ins) ⟨cs,pl,k,vi⟩).2.pl,pc,k,vi⟩)
 rw[←e]at h9
 rw[h.2]
 exact h9
theorem Ip {d:Nat} [hr:Rem H Ma m (x,s) R] [hg:Glb G R] [hpt:dq R x.pt q] [hmf:mb R x p ins] (hS:jS) (hC:fg) (hro:pz x p q pss T ins tb) (hms:jO (cS p q ins) pss s) (hpl:s.pl=((d:Nat):Int)) (hd:d<q.ds.length):SC G Tryz.prog 62 [.pointer (some ⟨m,0,none⟩)] H (fun v H'=> v=vvV (hU (cS p q ins) s).1∧H'=Ma m (x,(hU (cS p q ins) s).2)::R):=by
 obtain⟨cs,pl,k,vi⟩:=s
 obtain⟨h1,h2⟩:=tL hro hms
 simp only at h1 h2 hpl
 subst hpl
 refine Ft hr (fun st pc=> ?_)
 refine SC.out ((Lx (yy:=⟨st,((d:Nat):Int),pc,k,vi⟩) (cs:=cs) (ins:=ins) (p:=p) (q:=q) (x:=x) (R2:=R) (d:=d) hS hC hro.so hro.gp hms.cs rfl hd (by show k≤_;omega) (by show vi≤_;omega)).mono (fun v H' h=> ⟨_,?_,h.1,rfl⟩))
 obtain⟨_,y',e1,e2,e3,rfl⟩:=h
 have h9:=yA (m:=m) (x:=x) (y:=y') (cs:=(qL (cS p q ins) d ins.length 0 [] cs k).2.1) (R:=R)
 rw[e1,e2,e3]at h9
 exact h9
theorem pI [hr:Rem H Ma m (x,s) R] [hmf:mb R x p ins] (hro:pz x p q pss T ins tb) (hms:jO (cS p q ins) pss s):SC G Tryz.prog 29 [.pointer (some ⟨m,0,none⟩)] H (fun v H'=> v= .tuple #[.int .i64 ((s.steps:Nat):Int), .int .i64 ((kX s:Nat):Int), .int .i64 ((s.visits:Nat):Int)]∧H'=Ma m (x,s)::R):=by
 obtain⟨cs,pl,k,vi⟩:=s
 refine Ft hr (fun st pc=> ?_)
 refine SC.out ((IJ (y:=⟨st,pl,pc,k,vi⟩) (cs:=cs) (p:=p) (q:=q) (x:=x) (R2:=R) (hro.so.mok hms.cs)).mono (fun v H' h=> ⟨_,?_,h.1,rfl⟩))
 rw[h.2]
 exact yA (y:=⟨st,pl,pc,k,vi⟩)
end
section
variable {G:cK}{P:Program}{N:Nat}{Q:Go.Sx.Post}{t:Tm}{H:cG}{ops:Array Oper}{l:List Oper}
end
section
variable {G:cK}{P:Program}{N:Nat}{Q:Go.Sx.Post}{t:Tm}{H:cG}{c:Code}
theorem Ls {R:cG}(m:Nat) {x:MX}{s:MS} [hr:Rem H Ma m (x,s) R] (h:∀(st:List VV) (pc:Nat),W G P N c Q t (Mo m (x,⟨st,s.pl,pc,s.steps,s.visits⟩)::Cl cuZ (x.cs.zip s.cs)::R)):W G P N c Q t H:=
 ⟨fun a w ha hw=> let ⟨y,hs⟩:=mo (K:=Ma) rfl hr hw;(h y.1 y.2).go a w ha hs⟩
end
section
variable {G:cK}{H R:cG}{m T:Nat}{x:MX}{s:MS}{p:PrG}{q:PtD}{ins:List Ins}{pss:List (List Po)}{tb:Hs}
theorem A2 [hr:Rem H Ma m (x,s) R] [hg:Glb G R] [hpt:dq R x.pt q] [hmf:mb R x p ins] (hS:jS) (hC:fg) (hro:pz x p q pss T ins tb) (hms:jO (cS p q ins) pss s):SC G Tryz.prog 28 [.pointer (some ⟨m,0,none⟩)] H (fun v H'=> v=OS (dV (cS p q ins) s).1∧H'=Ma m (x,(dV (cS p q ins) s).2)::R):=by
 have hids:=hro.ids
 have hlo:=hms.lo
 refine SC.less (cJ.rem hr cJ.refl) ?_
 refine sWk Tryz.func28 Tryz.ntmps28 ?_
 refine gk (k:=alc (k:=fun b2=>?_))
 refine gk (k:=dt (MS×Nat) (fun y=> 1≤y.2∧((q.ds.length:Nat):Int)≤((y.2:Nat):Int)+y.1.pl∧jO (cS p q ins) pss y.1∧dV (cS p q ins) s=qU (cS p q ins) y.2 y.1) (fun y=> []) [(0,_),(2,_)] (fun y=> [Ma m (x,y.1)]) _ (fun y=> y.2) ((s,q.ds.length+1)) (h0:=?_) (k:=?_))
 ·try dsimp only
  exact⟨aa,aa,hms,by rw[dV,hids]⟩
 rintro⟨sa,n⟩ ⟨hn1,hn2,hsa,hnx⟩
 try dsimp only[Yd,Ye]at*
 obtain⟨n,rfl⟩:∃g,n=g+1:=⟨n - 1,aa⟩
 rw[qU]at hnx
 refine go ?_
 refine d1_ rfl (LQ hro hsa) (k:=gk (k:=wi_ (k:=fun h1=>?_) (m:=fun h1=>?_)))
 ·have hy:(er (cS p q ins) sa).1=true:=h1
  rw[if_neg (by rw[hy];decide)]at hnx
  obtain⟨hsB,_,_,_,hal⟩:=q8 hro.dr hro.few hsa
  obtain⟨hgt,hal2⟩:=hal hy
  obtain⟨hp1,hp2⟩:=zD hal2
  obtain⟨hsc,_,hgt2,_⟩:=xy hro.dr hro.few hsa hy
  rw[hids]at hp2
  obtain⟨sb,hsBe⟩:∃sb,sb=(er (cS p q ins) sa).2:=⟨_,rfl⟩
  rw[←hsBe]at hnx hsB hgt hp1 hp2 hsc hgt2
  obtain⟨d,hd⟩:∃d:Nat,sb.pl=((d:Nat):Int):=⟨sb.pl.toNat,aa⟩
  have hdl:d<q.ds.length:=aa
  obtain⟨dc,hdc⟩:∃dc,q.ds[d]? =some dc:=⟨_,Yi hdl⟩
  have hid:(cS p q ins).ids.getD sb.pl.toNat 0=dc.1:=by rw[hd,Int.toNat_natCast];show(q.ds.map (·.1)).getD d 0=dc.1;rw[List.getD_eq_getElem?_getD,Xd,hdc];all_goals rfl
  obtain⟨vm,hvm⟩:∃vm,vm=hU (cS p q ins) sb:=⟨_,rfl⟩
  have hvp:vm.2.pl=((d:Nat):Int):=by rw[hvm];exact hd
  rw[←hvm]at hnx hsc hgt2
  rw[←hsBe]
  refine go ?_
  refine d1_ rfl ((Ip hS hC hro hsB hd hdl).mono (K':=fun v H'=> v=vvV vm.1∧H'=_) (fun v H' h=> ⟨by rw[hvm];exact h.1,by rw[h.2,←hvm]⟩)) (k:=alc (k:=fun b4=>?_))
  refine gk (k:=wi_ (k:=fun h2=>?_) (m:=fun h2=>?_))
  ·have hhit:vm.1.1=true:=h2
   rw[if_pos hhit]at hnx
   rw[hnx]
   refine Ls m (fun st1 pc1=> ?_)
   refine Lr m (fun s1=> ?_)
   refine go ?_
   refine cX cI (as_ 0 (q:=mv) (k:=as_ 1 (q:=nck) (k:=as_ 2 (q:=fla) (k:=as_ 3 (q:=ldv) (k:=as_ 4 (q:=nck) (k:=as_ 5 (q:=fla) (k:=as_ 6 (q:=ldv) (k:=as_ 7 (q:=mv) (k:=as_ 8 (q:=nck) (k:=as_ 9 (q:=fla) (k:=?_)))))))))))
   refine cE 10 rfl rfl (a8) rfl (dz (evq ldv (congrArg (Value.int .i64) hvp))) (?_)
   refine cE 11 rfl rfl (a8) rfl (gQ (vs:= [_,_]) rfl (PX (a:=x.pt) hdc)) (?_)
   refine as_ 12 (q:=mv) (k:=as_ 13 (q:=exr) (k:=as_ 14 (q:=exr) (k:=as_ 15 (q:=asn) (k:=as_ 16 (q:=asn) (k:=az_ (k:=qn_ (ws_ (wr_ (e_ mv (k:=e_ fla (k:=e_ ldv (k:=e_ (bld [(0,_),(1,_)]) (k:=go ?_)))))))))))))
   refine gk (k:=rt_ Tryz.results28 (k:=?_))
   exact⟨_,cJ.trans (H':=Vr m (mV x s1 ⟨st1,vm.2.pl,pc1,vm.2.steps,vm.2.visits⟩)::Row s1 eVV st1::Cl cuZ (x.cs.zip vm.2.cs)::R) (hsb) (jB.trans (yA (y:=⟨st1,vm.2.pl,pc1,vm.2.steps,vm.2.visits⟩))),by show _=OS (some ((cS p q ins).ids.getD sb.pl.toNat 0,vm.1.2));rw[hid];all_goals rfl,rfl⟩
  have hhit:¬vm.1.1=true:=aO
  rw[if_neg hhit]at hnx
  refine go ?_
  refine ln_ ((vm.2,n)) (k:=?_)
  try dsimp only
  exact⟨aa,aa,hsc,hnx⟩
 have hy:(er (cS p q ins) sa).1=false:=bL
 rw[if_pos hy]at hnx
 rw[hnx]
 refine we_ (qe_ (le_ (bh_ (qn_ (ws_ (wr_ (e_ (bld []) (k:=gk (k:=rt_ Tryz.results28 (k:=?_))))))))))
 exact⟨_,hsb,rfl,rfl⟩
end
end Go.Sx
