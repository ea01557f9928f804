import Derived.Test.YtcbidldebfibkaaGreatDoorQ20
set_option linter.unusedVariables false
set_option linter.unusedSimpArgs false
set_option linter.unusedSectionVars false
set_option linter.unnecessarySimpa false
set_option maxHeartbeats 0
namespace Go.Sx
open Go Go.Proofs
set_option maxRecDepth 100000
section
variable {G:cM}{P:Program}{t:Tm}{H:cG}{dst:Option Tmp}{ty:TypeId}{pos:String}{after:Array Edge}{g:Option (Nat×Bool)}
theorem IB {T U:TypeId}{x y:Operand}{i j:Int}(hx:evo t x=some (.int .i64 i)) (hy:evo t y=some (.int .i64 j)) (hp:0<j) (hl: -9223372036854775808≤i∧i≤9223372036854775807):
 Ev G P ⟨dst, .binOp .quo T x y U,ty,pos,after,g⟩ t H (.int .i64 (i.tdiv j)):=
 fun ρ hρ w _=> by
  have h0:¬(j=0):=a8
  have e:IntKind.wrap .i64 (i.tdiv j)=i.tdiv j:=by
   refine iM ?_
   have h1:(i.tdiv j).natAbs≤i.natAbs:=by rw[Int.natAbs_tdiv];exact Nat.div_le_self _ _
   by_cases hi:0≤i
   ·have h2:=Int.tdiv_nonneg hi (show 0≤j from a8);omega
   ·have h2:0≤(-i).tdiv j:=Int.tdiv_nonneg (a8) (a8)
    rw[Int.neg_tdiv]at h2;omega
  simp only[execOp,hρ _ _ hx,hρ _ _ hy,eqGuard,binOp,Op.intDiv]
  simp only[Sem.run_bind,Sem.run_pure,ne_eq,not_true_eq_false,↓reduceIte,h0,e]
  rfl
end
def gy:List Nat→Int→Option Int
 | [],v=> some v
 |d::l,v=> bif decide (48≤d) && decide (d≤57) && !decide (10*v - ((d - 48:Nat):Int)< -9223372036854775808)then gy l (10*v - ((d - 48:Nat):Int))else none
def gh (w:List Nat):Option Int:=
 bif decide ((bif jF w [45]then w.drop 1 else w)= [])then none else
  match gy (bif jF w [45]then w.drop 1 else w) 0 with
  |none=> none
  |some v=> bif jF w [45]then some v else bif decide (v= -9223372036854775808)then none else some (-v)
def Gx (o:Option Int) (v:Value):Prop:=match o with
 |some n=> v= .tuple #[.int .i64 n, .bool true]∧ -9223372036854775808≤n∧n≤9223372036854775807
 |none=> v= .tuple #[.int .i64 0, .bool false]
theorem rZ {w:List Nat}{i:Nat}(hi:i<w.length) (v:Int):gy (w.drop i) v=bif decide (48≤at0 w i) && decide (at0 w i≤57) && !decide (10*v - ((at0 w i - 48:Nat):Int)< -9223372036854775808)then gy (w.drop (i+1)) (10*v - ((at0 w i - 48:Nat):Int))else none:=by
 rw[List.drop_eq_getElem_cons hi,gy]
 have e:w[i]=at0 w i:=by
  have:=qK hi
  rw[Yi hi]at this
  exact Option.some.inj this
 rw[e]
theorem Dm {v:Int}{d:Nat}(hv:v≤0) (hl: -9223372036854775808≤v) (hd:48≤d∧d≤57):v<((-9223372036854775808:Int)+((d - 48:Nat):Int)).tdiv 10↔10*v - ((d - 48:Nat):Int)< -9223372036854775808:=by
 have e:((-9223372036854775808:Int)+((d - 48:Nat):Int)).tdiv 10= -((9223372036854775808 - ((d - 48:Nat):Int)) / 10):=by
  rw[show(-9223372036854775808:Int)+((d - 48:Nat):Int)= -(9223372036854775808 - ((d - 48:Nat):Int))from a8,Int.neg_tdiv,Int.tdiv_eq_ediv_of_nonneg (a8)]
 rw[e]
 omega
theorem yP (q:ByteArray) (e:ByteArray) (he:cF e= [45]):cF (pD q e)=bif jF (cF q) [45]then(cF q).drop 1 else cF q:=by
 have hs:e.size=1:=by have:=cJ e;rw[he]at this;exact this.symm
 rw[pD,he,hs]
 cases jF (cF q) [45]with
 |false=> rfl
 |true=>
  simp only[cond_true]
  rw[gn,←cJ,List.take_length]
theorem JJ {G:cM}{H:cG}{q:ByteArray}(hq:q.size≤1000000000):SC G Tryz.prog 174 [.string q] H (fun v H'=> Gx (gh (cF q)) v∧H'=H):=by
 obtain⟨u,hu⟩:∃u,u=pD q ⟨#[45]⟩:=⟨_,rfl⟩
 have hub:cF u=bif jF (cF q) [45]then(cF q).drop 1 else cF q:=by rw[hu];exact yP q _ rfl
 have hul:=cJ u
 have huz:u.size≤q.size:=by
  have hl:=cJ q
  rw[←hul,hub]
  cases jF (cF q) [45] <;> simp only[cond_true,cond_false,Yo] <;> omega
 have hP:gh (cF q)=bif decide (cF u= [])then none else match gy (cF u) 0 with
  |none=> none
  |some v=> bif jF (cF q) [45]then some v else bif decide (v= -9223372036854775808)then none else some (-v):=by
  rw[gh,←hub]
  all_goals (cases gy (cF u) 0 <;> rfl)
 refine sWk Tryz.func174 Tryz.ntmps174 ?_
 refine go ?_
 refine d2_ rfl (D0 (a8) (ag)) (k:=?_)
 rw[←hu]
 refine e_ mv (k:=e_ exr (k:=e_ exr (k:=e_ asn (k:=e_ asn (k:=on_ (qn_ (ws_ (ws_ (wr_ (e_ mv (k:=e_ sC (k:=go ?_))))))))))))
 refine wi_ (k:=fun h1=>?_) (m:=fun h1=>?_)
 ·have hN:gh (cF q)=none:=by rw[hP,Ys (show cF u= []from h1)];all_goals rfl
  refine gk (k:=rt_ Tryz.results174 (k:=?_))
  refine⟨_,hsb,?_,rfl⟩
  rw[hN];exact rfl
 rw[Yr (show ¬cF u= []from h1)]at hP
 simp only[cond_false]at hP
 refine go ?_
 refine gk (k:=dn (Nat×Int) (fun y=> y.1≤u.size∧gy (cF u) 0=gy ((cF u).drop y.1) y.2∧ -9223372036854775808≤y.2∧y.2≤0) (fun y=> [(6, .int .i64 y.2),(18, .int .i64 ((y.1:Nat):Int))]) [(4,_),(5,_),(17,_)] (fun y=> []) _ (fun y=> u.size - y.1) ((0,0)) (h0:=?_) (k:=?_))
 ·try dsimp only
  exact⟨Yl _,rfl,ag,ag⟩
 rintro⟨i,a⟩ ⟨hi,hth,ha1,ha2⟩
 try dsimp only[Yd,Ye]at*
 refine gk (k:=wi_ (k:=fun h2=>?_) (m:=fun h2=>?_))
 ·have hd:=rZ (w:=cF u) (i:=i) (a8) a
  refine go ?_
  refine gk (k:=dQ 5 30 (k:=fun h3=>gk (k:=edq)) (q:=gk (k:=wi_ (k:=fun h4=>?_) (m:=fun h4=>?_))))
  ·have hN:gh (cF q)=none:=by
    rw[hP,hth,hd,show(decide (48≤at0 (cF u) i) && decide (at0 (cF u) i≤57))=false by simp only[Bool.and_eq_false_iff,decide_eq_false_iff_not];omega];all_goals rfl
   refine gk (k:=rt_ Tryz.results174 (k:=?_))
   refine⟨_,hsb,?_,rfl⟩
   rw[hN];exact rfl
  have hdd:48≤at0 (cF u) i∧at0 (cF u) i≤57:=a8
  have hts:=Dm ha2 ha1 hdd
  refine wk_ (qn_ (ws_ (wr_ (e_ mv (k:=e_ mv (k:=e_ ixs (k:=?_)))))))
  refine e_ (qv 256 rfl rfl rfl rfl _ 48 rfl rfl (a8) (a8)) (k:=?_)
  refine e_ (dS rfl (a8)) (k:=?_)
  refine e_ asn (k:=on_ (qn_ (ws_ (ws_ (wr_ (e_ mv (k:=e_ mv (k:=e_ iad (k:=?_)))))))))
  refine e_ (IB rfl rfl (ag) (a8)) (k:=?_)
  refine gk (k:=wi_ (k:=fun h5=>?_) (m:=fun h5=>?_))
  ·have hN:gh (cF q)=none:=by
    rw[hP,hth,hd,Ys (hts.1 (a8))];simp
   refine gk (k:=rt_ Tryz.results174 (k:=?_))
   refine⟨_,hsb,?_,rfl⟩
   rw[hN];exact rfl
  have hns:¬(10*a - ((at0 (cF u) i - 48:Nat):Int)< -9223372036854775808):=fun h=> by have h2:=hts.2 h;omega
  have hd2:gy ((cF u).drop i) a=gy ((cF u).drop (i+1)) (10*a - ((at0 (cF u) i - 48:Nat):Int)):=by
   rw[hd,Ys hdd.1,Ys hdd.2,Yr hns];all_goals rfl
  refine go ?_
  refine go ?_
  refine ln_ ((i+1,10*a - ((at0 (cF u) i - 48:Nat):Int))) (k:=?_)
  try dsimp only
  exact⟨a8,by rw[hth,hd2],a8,a8⟩
 have hE:gy (cF u) 0=some a:=by
  obtain rfl:i=u.size:=a8
  rw[hth,←hul,List.drop_length];all_goals rfl
 rw[hE]at hP
 simp only at hP
 refine gk (k:=wi_ (k:=fun h6=>?_) (m:=fun h6=>?_))
 ·rw[show jF (cF q) [45]=true from h6]at hP
  refine gk (k:=rt_ Tryz.results174 (k:=?_))
  refine⟨_,hsb,?_,rfl⟩
  rw[hP];exact⟨rfl,ha1,a8⟩
 rw[show jF (cF q) [45]=false from h6]at hP
 simp only[cond_false]at hP
 refine gk (k:=wi_ (k:=fun h7=>?_) (m:=fun h7=>?_))
 ·rw[Ys (show a= -9223372036854775808 from h7)]at hP
  refine gk (k:=rt_ Tryz.results174 (k:=?_))
  refine⟨_,hsb,?_,rfl⟩
  rw[hP];exact rfl
 have hne:=h7
 rw[Yr (show ¬a= -9223372036854775808 from hne)]at hP
 refine wk_ (qn_ (ws_ (wr_ (e_ mv (k:=?_)))))
 refine e_ (FQ rfl (a8)) (k:=?_)
 refine gk (k:=rt_ Tryz.results174 (k:=?_))
 refine⟨_,hsb,?_,rfl⟩
 rw[hP];exact⟨rfl,a8,a8⟩
theorem MH (w:List Nat):jF w [45]=true↔0<w.length∧at0 w 0=45:=by
 cases w with
 |nil=> simp[jF]
 |cons a l=> simp[jF,at0]
theorem Kh {G:cM}{H:cG}{q:ByteArray}(hq:q.size≤1000000000):SC G Tryz.prog 159 [.string q] H (fun v H'=> Gx (gh (cF q)) v∧H'=H):=by
 have hl:=cJ q
 have h45:=MH (cF q)
 obtain⟨u,hu⟩:∃u,u=bif jF (cF q) [45]then q.extract 1 q.size else q:=⟨_,rfl⟩
 have hub:cF u=bif jF (cF q) [45]then(cF q).drop 1 else cF q:=by
  rw[hu]
  cases jF (cF q) [45]with
  |false=> rfl
  |true=> simp only[cond_true];rw[gn,←hl,List.take_length]
 have hul:=cJ u
 have huz:u.size≤q.size:=by
  rw[←hul,hub]
  cases jF (cF q) [45] <;> simp only[cond_true,cond_false,Yo] <;> omega
 have hP:gh (cF q)=bif decide (cF u= [])then none else match gy (cF u) 0 with
  |none=> none
  |some v=> bif jF (cF q) [45]then some v else bif decide (v= -9223372036854775808)then none else some (-v):=by
  rw[gh,←hub]
  all_goals (cases gy (cF u) 0 <;> rfl)
 refine sWk Tryz.func159 Tryz.ntmps159 ?_
 refine gk (k:=cY 4 18 (k:=fun h1=>gk (k:=edq)) (q:=?_))
 refine e_ (asv (v:=.bool (jF (cF q) [45])) rfl (vb (by rw[h45];simp only[Bool.and_eq_true,decide_eq_true_eq];omega))) (k:=?_)
 refine on_ (qn_ (ws_ (wr_ (e_ mv (k:=e_ asn (k:=on_ (qn_ (mP [(5, .string u)] [5,20,21,22] ?_ ?_))))))))
 ·refine gk (k:=wi_ (k:=fun h2=>?_) (m:=fun h2=>?_))
  ·rw[show jF (cF q) [45]=true from h2]at hu
   obtain rfl:u=q.extract 1 q.size:=hu
   have hq0:=h45.1 h2
   refine wr_ (e_ mv (k:=e_ (zB (a:=1)) (k:=gk (k:=jne))))
  rw[show jF (cF q) [45]=false from h2]at hu
  obtain rfl:u=q:=hu
  refine gk (k:=jne)
 refine gk (k:=wi_ (k:=fun h3=>?_) (m:=fun h3=>?_))
 ·have hN:gh (cF q)=none:=by rw[hP,Ys (show cF u= []from List.eq_nil_of_length_eq_zero (a8))];all_goals rfl
  refine gk (k:=rt_ Tryz.results159 (k:=?_))
  refine⟨_,hsb,?_,rfl⟩
  rw[hN];exact rfl
 rw[Yr (show ¬cF u= []from fun h=> by rw[h]at hul;simp at hul;omega)]at hP
 simp only[cond_false]at hP
 refine go ?_
 refine gk (k:=dn (Nat×Int×Bool) (fun y=> y.1≤u.size∧(y.2.2=true→gy (cF u) 0=gy ((cF u).drop y.1) y.2.1)∧(y.2.2=false→gy (cF u) 0=none)∧ -9223372036854775808≤y.2.1∧y.2.1≤0) (fun y=> [(6, .int .i64 y.2.1),(7, .bool y.2.2),(8, .int .i64 ((y.1:Nat):Int))]) [(4,_),(5,_)] (fun y=> []) _ (fun y=> u.size - y.1) ((0,0,true)) (h0:=?_) (k:=?_))
 ·try dsimp only
  exact⟨Yl _,fun _=> rfl,fun h=> (bC),ag,ag⟩
 rintro⟨i,a,f⟩ ⟨hi,hth,hno,ha1,ha2⟩
 try dsimp only[Yd,Ye]at*
 refine gk (k:=wi_ (k:=fun h4=>?_) (m:=fun h4=>?_))
 ·have hd:=rZ (w:=cF u) (i:=i) (a8) a
  refine go ?_
  refine gk (k:=dQ 3 40 (k:=fun h5=>gk (k:=edq)) (q:=gk (k:=wi_ (k:=fun h6=>?_) (m:=fun h6=>?_))))
  ·have hN:gh (cF q)=none:=by
    cases f with
    |false=> rw[hP,hno rfl]
    |true=> rw[hP,hth rfl,hd,show(decide (48≤at0 (cF u) i) && decide (at0 (cF u) i≤57))=false by simp only[Bool.and_eq_false_iff,decide_eq_false_iff_not];omega];all_goals rfl
   refine gk (k:=rt_ Tryz.results159 (k:=?_))
   refine⟨_,hsb,?_,rfl⟩
   rw[hN];exact rfl
  have hdd:48≤at0 (cF u) i∧at0 (cF u) i≤57:=a8
  refine wk_ (qn_ (ws_ (wr_ (e_ mv (k:=?_)))))
  refine e_ (qv 256 rfl rfl rfl rfl _ 48 rfl rfl (a8) (a8)) (k:=?_)
  refine e_ (dS rfl (a8)) (k:=?_)
  refine gk (k:=dQ 3 49 (k:=fun h7=>gk (k:=edq)) (q:=gk (k:=dQ 6 56 (k:=fun h8=>gk (k:=edq)) (q:=go ?_))))
  refine wi_ (k:=fun h9=>?_) (m:=fun h9=>?_)
  ·have hf:=h9
   have hnn:gy (cF u) 0=none:=by
    cases f with
    |false=> exact hno rfl
    |true=>
     have h3:10*a - ((at0 (cF u) i - 48:Nat):Int)< -9223372036854775808:=by
      simp at hf;omega
     rw[hth rfl,hd,Ys h3];simp
   refine go ?_
   refine ln_ ((i+1,a,false)) (k:=?_)
   try dsimp only
   exact⟨a8,fun h=> (bC),fun _=> hnn,ha1,ha2⟩
  obtain⟨⟨hf,hz1⟩,hz2⟩:=h9
  have hns:¬(10*a - ((at0 (cF u) i - 48:Nat):Int)< -9223372036854775808):=a8
  have hd2:gy ((cF u).drop i) a=gy ((cF u).drop (i+1)) (10*a - ((at0 (cF u) i - 48:Nat):Int)):=by
   rw[hd,Ys hdd.1,Ys hdd.2,Yr hns];all_goals rfl
  have hf2:f=true:=by simpa using hf
  refine go ?_
  refine go ?_
  refine ln_ ((i+1,10*a - ((at0 (cF u) i - 48:Nat):Int),f)) (k:=?_)
  try dsimp only
  exact⟨a8,fun h=> by rw[hth h,hd2],hno,a8,a8⟩
 have hE:f=true→gy (cF u) 0=some a:=fun hf=> by
  obtain rfl:i=u.size:=a8
  rw[hth hf,←hul,List.drop_length];all_goals rfl
 refine gk (k:=dQ 7 70 (k:=fun h10=>gk (k:=cY 3 69 (k:=fun h11=>gk (k:=edq)) (q:=gk (k:=edq)))) (q:=go ?_))
 refine wi_ (k:=fun h12=>?_) (m:=fun h12=>?_)
 ·have hbad:=h12
  have hN:gh (cF q)=none:=by
   cases f with
   |false=> rw[hP,hno rfl]
   |true=>
    rw[hP,hE rfl]
    simp at hbad
    obtain⟨c1,c2⟩:=hbad
    simp only[c1,cond_false]
    rw[Ys (show a= -9223372036854775808 from c2)];all_goals rfl
  refine gk (k:=rt_ Tryz.results159 (k:=?_))
  refine⟨_,hsb,?_,rfl⟩
  rw[hN];exact rfl
 have hgood:=h12
 obtain⟨hf,hg2⟩:=hgood
 rw[hE hf]at hP
 dsimp only at hP
 refine gk (k:=wi_ (k:=fun h13=>?_) (m:=fun h13=>?_))
 ·have hm:=h13
  have hb0:jF (cF q) [45]=false:=by simpa using hm
  have hne:¬a= -9223372036854775808:=hg2.resolve_left (by rw[hb0];decide)
  rw[hb0,Yr hne]at hP
  refine wr_ (e_ mv (k:=?_))
  refine e_ (FQ rfl (a8)) (k:=?_)
  refine gk (k:=rt_ Tryz.results159 (k:=?_))
  exact⟨_,hsb,by rw[hP];exact⟨rfl,a8,a8⟩,rfl⟩
 have hm:=h13
 have hb0:jF (cF q) [45]=true:=by simpa using hm
 rw[hb0]at hP
 refine gk (k:=rt_ Tryz.results159 (k:=?_))
 exact⟨_,hsb,by rw[hP];exact⟨rfl,a8,a8⟩,rfl⟩
section
variable {G:cM}{P:Program}{t:Tm}{H:cG}{dst:Option Tmp}{ty:TypeId}{pos:String}{after:Array Edge}{g:Option (Nat×Bool)}
theorem yB {T E:TypeId}{x:Operand}{b n sz bb:Nat}{z:Value}(hx:evo t x=some (.pointer (some ⟨b,0,none⟩))) [hT:Und P T (.array n E)] [hE:Inf P E sz bb z] (hn:0<n):
 Ev G P ⟨dst, .slice T x none none none,ty,pos,after,g⟩ t H (SV.mk (some ⟨b,0,none⟩) n n).val:=
 fun ρ hρ w _=> by
  have h0:¬(n=0):=a8
  simp[execOp,hρ _ _ hx,Instr.sliceAt,df (T:=T),Instr.sureAddr,dZ (T:=E) (s:=sz),Instr.sliceBounds,iK,SV.val]
theorem Lx {b:Nat}{l:List Value}{α:Type}{e:Enc α}{xs:List α}{n:Nat} [h:dh H b l] (hl:l=e.all xs) (hn:n=xs.length):Sl H ⟨some ⟨b,0,none⟩,n,n⟩ e xs:=
 ⟨fun L hL=> by
  obtain⟨E,fz,hm⟩:=h.mem L hL
  refine⟨hn,Nat.le_refl _, .inr ⟨b,0,l.toArray,E,fz,rfl,hm,?_,?_⟩⟩
  ·rw[hl];simp only[List.size_toArray,e.all_length];rw[hn];omega
  ·intro j v hv;rw[Nat.zero_add,hl];simpa using hv⟩
def xk (v:Int):Nat:=(v % 18446744073709551616).toNat
theorem yH {S D:TypeId}{ds:TypeDesc}{x:Operand}{i:Int} [hs:Und P S ds] [hd:Und P D (.int .u64)] (hx:evo t x=some (.int .i64 i)):
 Ev G P ⟨dst, .convert S D x,ty,pos,after,g⟩ t H (.int .u64 ((xk i:Nat):Int)):=
 fun ρ hρ w _=> by
  have e:(underlying S).run P w= .ok ds w:=by simp[underlying,hs.out]
  have e2:(underlying D).run P w= .ok (.int .u64) w:=by simp[underlying,hd.out]
  have e3:IntKind.wrap .u64 i=((xk i:Nat):Int):=by
   have h1:0≤i % 18446744073709551616:=Int.emod_nonneg _ (ag)
   rw[xk,Int.toNat_of_nonneg h1];all_goals rfl
  simp only[execOp,convert,hρ _ _ hx,Sem.run_bind,e,e2,Result.andThen_ok]
  cases ds <;> simp[Conv.intToInt,e3]
end
theorem Lz {x:Nat}(h:x<18446744073709551616):x ^^^ 9223372036854775808=(x+9223372036854775808) % 18446744073709551616:=by
 have low:∀y:Nat,y<9223372036854775808→y ^^^ 9223372036854775808=y+9223372036854775808:=by
  intro y hy
  have h1:2 ^ 63*1+y=2 ^ 63*1 |||y:=Nat.two_pow_add_eq_or_of_lt (i:=63) hy 1
  have h2:y ^^^ 9223372036854775808=2 ^ 63*1 |||y:=by
   apply Nat.eq_of_testBit_eq
   intro i
   rw[Nat.testBit_xor,Nat.testBit_or,show(9223372036854775808:Nat)=2 ^ 63 from rfl,Nat.mul_one,Nat.testBit_two_pow]
   by_cases hi:63=i
   ·subst hi
    rw[Nat.testBit_lt_two_pow hy];all_goals rfl
   ·rw[Yr hi];simp
  rw[h2,←h1];omega
 by_cases hx:x<9223372036854775808
 ·rw[low x hx];omega
 ·have h1:=low (x - 9223372036854775808) (a8)
  have h2:x=(x - 9223372036854775808) ^^^ 9223372036854775808:=by rw[h1];omega
  have h3:x ^^^ 9223372036854775808=x - 9223372036854775808:=by
   conv=> lhs;rw[h2]
   rw[Nat.xor_assoc,Nat.xor_self,Nat.xor_zero]
  rw[h3];omega
theorem Jz (v:Int):xk v<18446744073709551616:=by
 have h1:0≤v % 18446744073709551616:=Int.emod_nonneg _ (ag)
 have h2:v % 18446744073709551616<18446744073709551616:=Int.emod_lt_of_pos _ (ag)
 rw[xk];omega
def tZ (v:Int):Nat:=(xk v+9223372036854775808) % 18446744073709551616
def yk (v:Int) (i:Nat):Nat:=tZ v / 2 ^ (56 - 8*i) % 256
def jn (v:Int):List Nat:=(List.range 8).map (yk v)
def rl (v:Int) (i:Nat):List Nat:=(jn v).take i++List.replicate (8 - i) 0
theorem mx (v:Int):(jn v).length=8:=by simp[jn]
theorem ET (v:Int) {i:Nat}(h:i≤8):(rl v i).length=8:=by simp[rl,mx];omega
theorem ER (v:Int) {i:Nat}(h:i<8):(jn v)[i]? =some (yk v i):=by
 rw[jn,Xd,List.getElem?_range h];all_goals rfl
theorem vE (v:Int) {i:Nat}(h:i<8):(jn v).take (i+1)=(jn v).take i++ [yk v i]:=by
 rw[List.take_add_one,ER v h];all_goals rfl
theorem ES (v:Int) {i:Nat}(h:i<8):(rl v i).set i (yk v i)=rl v (i+1):=by
 have hl:((jn v).take i).length=i:=by rw[Yg,mx];omega
 rw[rl,List.set_append,if_neg (cc),hl,Nat.sub_self,show 8 - i=(8 - (i+1))+1 from a8,List.replicate_succ,List.set_cons_zero,rl,vE v h,Yf]
 all_goals rfl
theorem Bl (v:Int):∀x∈jn v,x<256:=by
 intro x hx
 obtain⟨i,_,rfl⟩:=List.mem_map.1 hx
 exact Nat.mod_lt _ (ag)
def u8s (l:List Nat):List Value:=l.map fun(n:Nat)=> Value.int .u8 (n:Int)
theorem GK (l:List Nat):u8s l=eB.all l:=by
 rw[As,u8s,List.map_map];all_goals rfl
theorem Spl.at_ {l:List Nat}{i x:Nat}(h:i<l.length):Spl (u8s l) (0+i*1) [.int .u8 (x:Int)] (u8s (l.set i x)):=
 th (by simp[u8s];omega) (by
  rw[Nat.zero_add,Nat.mul_one,u8s,u8s,List.map_set,List.set_eq_take_append_cons_drop,if_pos (bY)]
  simp)
theorem CA (v:Int):u8s (rl v 0)= [.int .u8 0, .int .u8 0, .int .u8 0, .int .u8 0, .int .u8 0, .int .u8 0, .int .u8 0, .int .u8 0]:=by
 rw[rl,List.take_zero,Ye];all_goals rfl
theorem LF {G:cM}{H:cG}{v:Int}(hv: -9223372036854775808≤v∧v≤9223372036854775807):SC G Tryz.prog 194 [.int .i64 v] H (fun u H'=> u= .string (dO (jn v))∧H'=H):=by
 have hwl:=Jz v
 have hx:=Lz hwl
 refine sWk Tryz.func194 Tryz.ntmps194 ?_
 refine ws_ (wr_ (e_ asn (k:=on_ (qn_ (ws_ (wr_ (e_ mv (k:=?_))))))))
 refine e_ (yH rfl) (k:=?_)
 refine e_ (kT 18446744073709551616 rfl rfl rfl rfl (xk v) 9223372036854775808 rfl rfl hwl (ag)) (k:=?_)
 refine e_ (asv (v:=.int .u64 ((tZ v:Nat):Int)) rfl (by rw[hx];all_goals rfl)) (k:=?_)
 refine gk (k:=alc (k:=fun b4=>?_))
 rw[←CA v]
 refine gk (k:=dn (Nat) (fun y=> y≤8) (fun y=> [(9, .int .i64 ((y:Nat):Int))]) [(3,_),(4,_)] (fun y=> [Vr b4 (u8s (rl v y))]) _ (fun y=> 8 - y) (0) (h0:=?_) (k:=?_))
 ·try dsimp only
  exact Yl _
 rintro i hi
 try dsimp only[Yd,Ye]at*
 refine gk (k:=wi_ (k:=fun h1=>?_) (m:=fun h1=>?_))
 ·have hi8:i<8:=by omega
  haveI hSp:Spl (u8s (rl v i)) (0+i*1) [.int .u8 ((yk v i:Nat):Int)] (u8s ((rl v i).set i (yk v i))):=Spl.at_ (by rw[ET v (a8)];exact hi8)
  refine wk_ (qn_ (ws_ (wb_ (ws_ (wr_ (e_ mv (k:=e_ asn (k:=on_ (qn_ (wr_ (e_ mv (k:=e_ mv (k:=e_ mv (k:=?_))))))))))))))
  refine e_ iml (k:=e_ isb (k:=?_))
  refine e_ (ei rfl rfl (tZ v) (56 - 8*i) rfl (a8) (bS)) (k:=?_)
  refine e_ (dd 256 rfl rfl rfl (tZ v / 2 ^ (56 - 8*i)) rfl) (k:=?_)
  refine e_ (fO rfl rfl _ rfl (a8)) (k:=?_)
  refine s_ (dk (v:= .int .u8 ((yk v i:Nat):Int)) rfl rfl rfl) (k:=?_)
  rintro _ _ ⟨rfl,rfl⟩
  rw[ES v hi8]
  refine go ?_
  refine ln_ (i+1) (k:=?_)
  try dsimp only
  omega
 obtain rfl:i=8:=a8
 have h8:rl v 8=jn v:=by rw[rl,List.take_of_length_le (by rw[mx];omega)];simp
 rw[h8]
 haveI hSl:Sl (Vr b4 (u8s (jn v))::H) ⟨some ⟨b4,0,none⟩,8,8⟩ eB (jn v):=Lx (GK _) (by rw[mx])
 refine we_ (qe_ (le_ (bh_ (qn_ (ws_ (wr_ (?_)))))))
 refine e_ (yB rfl (ag)) (k:=?_)
 refine e_ (cV rfl) (k:=?_)
 refine gk (k:=rt_ Tryz.results194 (k:=?_))
 exact⟨_,hsb,rfl,rfl⟩
theorem M0 {G:cM}{H:cG}{v:Int}(hv: -9223372036854775808≤v∧v≤9223372036854775807):SC G Tryz.prog 186 [.int .i64 v] H (fun u H'=> u= .string (dO (jn v))∧H'=H):=by
 refine sWk Tryz.func186 Tryz.ntmps186 ?_
 refine ws_ (wr_ (e_ asn (k:=on_ (qn_ (ws_ (wr_ (e_ mv (k:=?_))))))))
 refine e_ (yH rfl) (k:=?_)
 refine e_ (lV 18446744073709551616 rfl rfl rfl rfl (xk v) 9223372036854775808 rfl rfl) (k:=?_)
 refine e_ (asv (v:=.int .u64 ((tZ v:Nat):Int)) rfl rfl) (k:=?_)
 refine go ?_
 refine s_ (cZ eB rfl) (k:=?_)
 rintro _ _ ⟨s9,rfl,rfl⟩
 refine gk (k:=dn (SV×Nat) (fun y=> y.2≤8) (fun y=> [(4,y.1.val),(5, .int .i64 ((y.2:Nat):Int))]) [(3,_)] (fun y=> [Row y.1 eB ((jn v).take y.2)]) _ (fun y=> 8 - y.2) ((s9,0)) (h0:=?_) (k:=?_))
 ·try dsimp only
  exact Yl _
 rintro⟨s,i⟩ hi
 try dsimp only[Yd,Ye]at*
 refine gk (k:=wi_ (k:=fun h1=>?_) (m:=fun h1=>?_))
 ·have hi8:i<8:=by omega
  have hlen:((jn v).take i).length≤8:=ax
  refine wk_ (qn_ (ws_ (wb_ (wr_ (e_ mv (k:=e_ mv (k:=e_ mv (k:=e_ iml (k:=e_ isb (k:=?_))))))))))
  refine e_ (ei rfl rfl (tZ v) (56 - 8*i) rfl (a8) (bS)) (k:=?_)
  refine e_ (gQ rfl rfl (tZ v / 2 ^ (56 - 8*i)) 256 rfl rfl (ag)) (k:=?_)
  refine e_ (cS 256 rfl rfl rfl (yk v i) rfl (Nat.mod_lt _ (ag))) (k:=?_)
  refine dD eB (k:=fun s22=>?_)
  refine app (k:=fun s23=>?_)
  rw[←vE v hi8]
  refine go ?_
  refine ln_ ((s23,i+1)) (k:=?_)
  try dsimp only
  omega
 obtain rfl:i=8:=a8
 rw[List.take_of_length_le (show(jn v).length≤8 by rw[mx];omega)]
 refine we_ (qe_ (le_ (bh_ (qn_ (ws_ (wr_ (e_ mv (k:=?_))))))))
 refine e_ (cV rfl) (k:=?_)
 refine gk (k:=rt_ Tryz.results186 (k:=?_))
 exact⟨_,hsb,rfl,rfl⟩
instance {t:Tok}:kK eT t (.agg [.string (dO t.text), .int .i64 ((t.value:Nat):Int), .int .i64 ((t.pos:Nat):Int), .int .i64 ((t.st:Nat):Int), .int .i64 ((t.en:Nat):Int)].toArray):=⟨rfl⟩
instance (priority:=low) {s:ByteArray}{a b c d:Nat}:fH eT (.agg [.string s, .int .i64 ((a:Nat):Int), .int .i64 ((b:Nat):Int), .int .i64 ((c:Nat):Int), .int .i64 ((d:Nat):Int)].toArray) ⟨cF s,a,b,c,d⟩:=⟨by show Value.agg (eT.f _).toArray=_;simp only[eT,jk]⟩
instance {s:ByteArray}{d:Nat}:fH eT (.agg [.string s, .int .i64 0, .int .i64 0, .int .i64 0, .int .i64 ((d:Nat):Int)].toArray) ⟨cF s,0,0,0,d⟩:=⟨by show Value.agg (eT.f _).toArray=_;simp only[eT,jk];all_goals rfl⟩
theorem Db (w:List Nat):∀(i:Nat) (a:Option Nat) (out:List Tok),eL w i=(a,out)→∀t∈out,∃j b k,t=⟨(w.take j).drop b,0,k,b,j⟩:=by
 intro i
 induction i with
 |zero=> intro a out h;cases h;simp
 |succ i ih=>
  intro a out h
  obtain⟨a0,o0,h0⟩:∃a0 o0,eL w i=(a0,o0):=⟨_,_,rfl⟩
  have h1:=ih a0 o0 h0
  cases hin:inW w i <;> cases a0 with
  |none=>
   first
   |(rw[oa h0 hin]at h;cases h;exact h1)
   |(rw[kW h0 hin]at h;cases h;exact h1)
  |some a0=>
   first
   |(rw[oc h0 hin]at h;cases h
     intro t ht
     rcases List.mem_append.1 ht with ht|ht
     ·exact h1 t ht
     ·obtain rfl:=List.mem_singleton.1 ht
      exact⟨_,_,_,rfl⟩)
   |(rw[qS h0 hin]at h;cases h;exact h1)
theorem zh {w:List Nat}{t:Tok}(h:t∈fe w):∃j b k,t=⟨(w.take j).drop b,0,k,b,j⟩:=Db w _ _ _ rfl t h
theorem xi {w:List Nat}(hw:∀x∈w,x<256) {t:Tok}(h:t∈fe w):(∀x∈t.text,x<256)∧t.text.length≤w.length:=by
 obtain⟨j,b,k,rfl⟩:=zh h
 refine⟨fun x hx=> hw x (Yq (Yp hx)),?_⟩
 simp only[Yo,Yg];omega
theorem me (w:List Nat):(fe w).length≤w.length+1:=(we w (w.length+1) _ _ rfl).1
def kz (p:FV) (t:Tok):Option Tok:=match jD p t.text with
 |some u=> if u.length≤64 then some ⟨u,t.value,t.pos,t.st,t.en⟩else none
 |none=> none
def dY (p:FV) (w:List Nat):List Tok:=
 if p.kind=1 then(fe w).filterMap (kz p)
 else if p.kind=2 then(if w.length≤64 then [⟨w,0,0,0,w.length⟩]else [])
 else if p.kind=3 then(match gh w with
  |some n=> [⟨jn n,0,0,0,w.length⟩]
  |none=> [])
 else []
theorem yu {p:FV}{t:Tok}{r:ByteArray}{b:Bool}(h:oM (jD p t.text) r b) (hb:b=true):kz p t=some ⟨cF r,t.value,t.pos,t.st,t.en⟩:=by
 rw[kz]
 cases hc:jD p t.text with
 |none=> rw[hc]at h;subst hb;exact absurd h (by simp[oM])
 |some u=>
  rw[hc]at h
  obtain⟨h1,h2⟩:=h
  subst hb
  have h3:u.length≤64:=by simpa using h2.symm
  simp only[h3,↓reduceIte,h1]
theorem Br {p:FV}{t:Tok}{r:ByteArray}{b:Bool}(h:oM (jD p t.text) r b) (hb:b=false):kz p t=none:=by
 rw[kz]
 cases hc:jD p t.text with
 |none=> rfl
 |some u=>
  rw[hc]at h
  obtain⟨h1,h2⟩:=h
  subst hb
  have h3:¬u.length≤64:=by simpa using h2.symm
  simp only[h3,↓reduceIte]
theorem Bw {α β:Type}{f:α→Option β}{l:List α}{i:Nat}{x:α}(h:l[i]? =some x):(l.take (i+1)).filterMap f=(l.take i).filterMap f++(f x).toList:=by
 rw[List.take_add_one,h,List.filterMap_append]
 simp only[Option.toList_some,List.filterMap_cons,List.filterMap_nil]
 cases f x <;> rfl
theorem FL {α β:Type}(f:α→Option β) (l:List α) (i:Nat):((l.take i).filterMap f).length≤l.length:=
 Xi (List.length_filterMap_le _ _) (ax)
theorem He {H:cG}{p:FV}{s s0:SV}(hm:Stp.stop s∈nK p s0) (h:Sl H s0 eS (bif p.stop then gW else [])):Sl H s eS gW:=by
 obtain⟨n,k,a,b,c⟩:=p
 simp only[nK,List.mem_append]at hm
 rcases hm with(hm|hm)|hm
 ·cases a <;> simp at hm
 ·cases b with
  |false=> simp at hm
  |true=> simp at hm;subst hm;exact h
 ·cases c <;> simp at hm
theorem C4 (p:FV) (s:SV):(nK p s).length≤3:=by
 obtain⟨n,k,a,b,c⟩:=p
 cases a <;> cases b <;> cases c <;> (simp[nK])
theorem EP {o:Option Int}{v:Value}(h:Gx o v):∃n b,v= .tuple #[.int .i64 n, .bool b]∧((b=true∧o=some n∧ -9223372036854775808≤n∧n≤9223372036854775807)∨(b=false∧o=none)):=by
 cases o with
 |none=> exact⟨0,false,h, .inr ⟨rfl,rfl⟩⟩
 |some n=> exact⟨n,true,h.1, .inl ⟨rfl,rfl,h.2⟩⟩
theorem AT {G:cM}{H:cG}{q:ByteArray}(hq:q.size≤1000000000):SC G Tryz.prog 174 [.string q] H (fun v H'=> ∃n b,v= .tuple #[.int .i64 n, .bool b]∧((b=true∧gh (cF q)=some n∧ -9223372036854775808≤n∧n≤9223372036854775807)∨(b=false∧gh (cF q)=none))∧H'=H):=
 (JJ hq).mono fun v H' h=> ct
theorem Ba {G:cM}{H:cG}{q:ByteArray}(hq:q.size≤1000000000):SC G Tryz.prog 159 [.string q] H (fun v H'=> ∃n b,v= .tuple #[.int .i64 n, .bool b]∧((b=true∧gh (cF q)=some n∧ -9223372036854775808≤n∧n≤9223372036854775807)∨(b=false∧gh (cF q)=none))∧H'=H):=
 (Kh hq).mono fun v H' h=> ct
theorem Jj {G:cM}{H:cG}{q u:ByteArray}:SC G Tryz.prog 185 [.string q, .string u] H (fun v H'=> ∃s:SV,v=s.val∧H'=Row s eT [⟨cF q,0,0,0,u.size⟩]::H):=by
 refine sWk Tryz.func185 Tryz.ntmps185 ?_
 refine ws_ (wr_ (e_ asn (k:=on_ (qn_ (ws_ (wr_ (e_ mv (k:=e_ mv (k:=e_ jA (k:=e_ (bld [(0,_),(4,_)]) (k:=dD eT (k:=fun s9=>?_))))))))))))
 refine gk (k:=rt_ Tryz.results185 (k:=?_))
 exact⟨_,hsb,_,rfl,rfl⟩
theorem tOf {G:cM}{H:cG}{q:ByteArray}(p:FV) [Spc H] (hS:gE G) (hq:q.size≤3000000):SC G Tryz.prog 175 [.agg [.string p.name, .int .i64 p.kind, .bool p.fold, .bool p.stop, .bool p.stem].toArray, .string q] H (fun v H'=> ∃s:SV,v=s.val∧H'=Row s eT (dY p (cF q))::H):=by
 have hl:=cJ q
 refine sWk Tryz.func175 Tryz.ntmps175 ?_
 refine gk (k:=bxx (k:=fun b2=>?_))
 refine e_ asn (k:=on_ (qn_ (ws_ (wr_ (e_ mv (k:=e_ mv (k:=e_ jA (k:=e_ (bld [(0,_),(4,_)]) (k:=alc (k:=fun b5=>?_))))))))))
 refine go ?_
 refine gk (k:=wi_ (k:=fun h1=>?_) (m:=fun h1=>?_))
 ·have hk:p.kind=1:=h1
  have hT:dY p (cF q)=(fe (cF q)).filterMap (kz p):=by rw[dY,if_pos hk]
  refine go ?_
  refine c1_ rfl (JR p hS) (k:=?_)
  rintro _ _ ⟨c7,s0,rfl,rfl⟩
  refine go ?_
  refine c1_ rfl (Du (a8)) (k:=?_)
  rintro _ _ ⟨s25,rfl,rfl⟩
  have hwn:=me (cF q)
  refine gk (k:=dn (SV×Nat) (fun y=> y.2≤(fe (cF q)).length) (fun y=> [(6,y.1.val),(27, .int .i64 ((y.2:Nat):Int))]) [(7,_),(25,_),(26,_)] (fun y=> [Row y.1 eT (((fe (cF q)).take y.2).filterMap (kz p))]) _ (fun y=> (fe (cF q)).length - y.2) ((SV.nil,0)) (h0:=?_) (k:=?_))
  ·try dsimp only
   exact Yl _
  rintro⟨s,i⟩ hi
  try dsimp only[Yd,Ye]at*
  refine gk (k:=wi_ (k:=fun h2=>?_) (m:=fun h2=>?_))
  ·obtain⟨t,ht⟩:∃t,(fe (cF q))[i]? =some t:=⟨_,Yi (a8)⟩
   obtain⟨htl,htz⟩:=xi (ko q) (Yj ht)
   have hbt:=dK htl
   have hts:=fg t.text
   have hfm:=Bw (f:=kz p) ht
   have hfl:=FL (kz p) (fe (cF q)) i
   refine gk (k:=alc (k:=fun b9=>?_))
   refine go ?_
   refine c2_ rfl (Dv (C4 p s0) (a8) (fun s hm=> He hm inferInstance)) (k:=?_)
   rintro _ _ ⟨r,b,rfl,hr,rfl⟩
   rw[zp,hbt]at hr
   refine gk (k:=wi_ (k:=fun h3=>?_) (m:=fun h3=>?_))
   ·have hk1:=yu hr h3
    rw[hk1,Option.toList_some]at hfm
    refine gk (k:=dD eT (k:=fun s43=>?_))
    refine app (k:=fun s44=>?_)
    rw[←hfm]
    refine go ?_
    refine ln_ ((s44,i+1)) (k:=?_)
    try dsimp only
    omega
   have hk0:=Br hr h3
   rw[hk0]at hfm
   rw[Option.toList_none,Ym]at hfm
   rw[←hfm]
   refine go ?_
   refine ln_ ((s,i+1)) (k:=?_)
   try dsimp only
   omega
  obtain rfl:i=(fe (cF q)).length:=a8
  rw[List.take_length]at*
  refine go ?_
  refine rt_ Tryz.results175 (k:=?_)
  rw[hT]
  exact⟨_,hsb,s,rfl,rfl⟩
 have hk1:¬p.kind=1:=h1
 refine gk (k:=wi_ (k:=fun h4=>?_) (m:=fun h4=>?_))
 ·have hk2:p.kind=2:=h4
  refine gk (k:=wi_ (k:=fun h5=>?_) (m:=fun h5=>?_))
  ·have hT:dY p (cF q)= [⟨cF q,0,0,0,q.size⟩]:=by rw[dY,if_neg hk1,if_pos hk2,if_pos (a8),hl]
   refine gk (k:=dD eT (k:=fun s53=>?_))
   refine gk (k:=rt_ Tryz.results175 (k:=?_))
   rw[hT]
   exact⟨_,hsb,_,rfl,rfl⟩
  have hT:dY p (cF q)= []:=by rw[dY,if_neg hk1,if_pos hk2,if_neg (a8)]
  refine gk (k:=rt_ Tryz.results175 (k:=?_))
  rw[hT]
  exact⟨_,hsb,SV.nil,rfl,rfl⟩
 have hk2:¬p.kind=2:=h4
 refine gk (k:=wi_ (k:=fun h6=>?_) (m:=fun h6=>?_))
 ·have hk3:p.kind=3:=h6
  refine go ?_
  refine c1_ rfl (AT (a8)) (k:=?_)
  rintro _ _ ⟨n,b,rfl,hnb,rfl⟩
  refine gk (k:=wi_ (k:=fun h7=>?_) (m:=fun h7=>?_))
  ·obtain⟨hP,hb⟩:gh (cF q)=some n∧(-9223372036854775808≤n∧n≤9223372036854775807):=by
    rcases hnb with⟨_,h1,h2⟩|⟨h1,_⟩
    ·exact⟨h1,h2⟩
    ·rw[h1]at h7;cases h7
   have hT:dY p (cF q)= [⟨jn n,0,0,0,q.size⟩]:=by rw[dY,if_neg hk1,if_neg hk2,if_pos hk3,hP,hl]
   refine go ?_
   refine d1_ rfl (LF hb) (k:=gk (k:=dD eT (k:=fun s66=>?_)))
   refine gk (k:=rt_ Tryz.results175 (k:=?_))
   rw[hT,dK (Bl n)]
   exact⟨_,hsb,_,rfl,rfl⟩
  have hP:gh (cF q)=none:=by
   rcases hnb with⟨h1,_⟩|⟨_,h1⟩
   ·rw[h1]at h7;cases h7
   ·exact h1
  have hT:dY p (cF q)= []:=by rw[dY,if_neg hk1,if_neg hk2,if_pos hk3,hP]
  refine gk (k:=rt_ Tryz.results175 (k:=?_))
  rw[hT]
  exact⟨_,hsb,SV.nil,rfl,rfl⟩
 have hk3:¬p.kind=3:=h6
 have hT:dY p (cF q)= []:=by rw[dY,if_neg hk1,if_neg hk2,if_neg hk3]
 refine gk (k:=rt_ Tryz.results175 (k:=?_))
 rw[hT]
 exact⟨_,hsb,SV.nil,rfl,rfl⟩
theorem rOf {G:cM}{H:cG}{q:ByteArray}(p:FV) (hq:q.size≤3000000):SC G Tryz.prog 160 [.agg [.string p.name, .int .i64 p.kind, .bool p.fold, .bool p.stop, .bool p.stem].toArray, .string q] H (fun v H'=> ∃s:SV,v=s.val∧H'=Row s eT (dY p (cF q))::H):=by
 have hl:=cJ q
 refine sWk Tryz.func160 Tryz.ntmps160 ?_
 refine gk (k:=bxx (k:=fun b2=>?_))
 refine go ?_
 refine s_ (cZ eT rfl) (k:=?_)
 rintro _ _ ⟨s12,rfl,rfl⟩
 refine go ?_
 refine gk (k:=wi_ (k:=fun h1=>?_) (m:=fun h1=>?_))
 ·have hk:p.kind=1:=h1
  have hT:dY p (cF q)=(fe (cF q)).filterMap (kz p):=by rw[dY,if_pos hk]
  refine go ?_
  refine c1_ rfl (Ec (a8)) (k:=?_)
  rintro _ _ ⟨s18,rfl,rfl⟩
  have hwn:=me (cF q)
  refine gk (k:=dn (SV×Nat) (fun y=> y.2≤(fe (cF q)).length) (fun y=> [(5,y.1.val),(20, .int .i64 ((y.2:Nat):Int))]) [(2,_),(18,_),(19,_)] (fun y=> [Row y.1 eT (((fe (cF q)).take y.2).filterMap (kz p))]) _ (fun y=> (fe (cF q)).length - y.2) ((s12,0)) (h0:=?_) (k:=?_))
  ·try dsimp only
   exact Yl _
  rintro⟨s,i⟩ hi
  try dsimp only[Yd,Ye]at*
  refine gk (k:=wi_ (k:=fun h2=>?_) (m:=fun h2=>?_))
  ·obtain⟨t,ht⟩:∃t,(fe (cF q))[i]? =some t:=⟨_,Yi (a8)⟩
   obtain⟨htl,htz⟩:=xi (ko q) (Yj ht)
   have hbt:=dK htl
   have hts:=fg t.text
   have hfm:=Bw (f:=kz p) ht
   have hfl:=FL (kz p) (fe (cF q)) i
   refine gk (k:=alc (k:=fun b7=>?_))
   refine go ?_
   refine c2_ rfl (Ek p (a8)) (k:=?_)
   rintro _ _ ⟨r,b,rfl,hr,rfl⟩
   rw[hbt]at hr
   refine gk (k:=wi_ (k:=fun h3=>?_) (m:=fun h3=>?_))
   ·have hk1:=yu hr h3
    rw[hk1,Option.toList_some]at hfm
    refine gk (k:=dD eT (k:=fun s36=>?_))
    refine app (k:=fun s37=>?_)
    rw[←hfm]
    refine go ?_
    refine ln_ ((s37,i+1)) (k:=?_)
    try dsimp only
    omega
   have hk0:=Br hr h3
   rw[hk0]at hfm
   rw[Option.toList_none,Ym]at hfm
   rw[←hfm]
   refine go ?_
   refine ln_ ((s,i+1)) (k:=?_)
   try dsimp only
   omega
  obtain rfl:i=(fe (cF q)).length:=a8
  rw[List.take_length]at*
  refine gk (k:=rt_ Tryz.results160 (k:=?_))
  rw[hT];exact⟨_,hsb,s,rfl,rfl⟩
 have hk1:¬p.kind=1:=h1
 refine gk (k:=wi_ (k:=fun h4=>?_) (m:=fun h4=>?_))
 ·have hk2:p.kind=2:=h4
  refine gk (k:=wi_ (k:=fun h5=>?_) (m:=fun h5=>?_))
  ·have hT:dY p (cF q)= [⟨cF q,0,0,0,q.size⟩]:=by rw[dY,if_neg hk1,if_pos hk2,if_pos (a8),hl]
   refine go ?_
   refine c2_ rfl (Jj) (k:=?_)
   rintro _ _ ⟨s46,rfl,rfl⟩
   refine gk (k:=rt_ Tryz.results160 (k:=?_))
   rw[hT]
   exact⟨_,hsb,_,rfl,rfl⟩
  have hT:dY p (cF q)= []:=by rw[dY,if_neg hk1,if_pos hk2,if_neg (a8)]
  refine gk (k:=rt_ Tryz.results160 (k:=?_))
  rw[hT]
  exact⟨_,hsb,_,rfl,rfl⟩
 have hk2:¬p.kind=2:=h4
 refine gk (k:=wi_ (k:=fun h6=>?_) (m:=fun h6=>?_))
 ·have hk3:p.kind=3:=h6
  refine go ?_
  refine c1_ rfl (Ba (a8)) (k:=?_)
  rintro _ _ ⟨n,b,rfl,hnb,rfl⟩
  refine gk (k:=wi_ (k:=fun h7=>?_) (m:=fun h7=>?_))
  ·obtain⟨hP,hb⟩:gh (cF q)=some n∧(-9223372036854775808≤n∧n≤9223372036854775807):=by
    rcases hnb with⟨_,h1,h2⟩|⟨h1,_⟩
    ·exact⟨h1,h2⟩
    ·rw[h1]at h7;cases h7
   have hT:dY p (cF q)= [⟨jn n,0,0,0,q.size⟩]:=by rw[dY,if_neg hk1,if_neg hk2,if_pos hk3,hP,hl]
   refine go ?_
   refine d1_ rfl (M0 hb) (k:=go ?_)
   refine c2_ rfl (Jj) (k:=?_)
   rintro _ _ ⟨s58,rfl,rfl⟩
   refine gk (k:=rt_ Tryz.results160 (k:=?_))
   rw[hT,dK (Bl n)]
   exact⟨_,hsb,_,rfl,rfl⟩
  have hP:gh (cF q)=none:=by
   rcases hnb with⟨h1,_⟩|⟨_,h1⟩
   ·rw[h1]at h7;cases h7
   ·exact h1
  have hT:dY p (cF q)= []:=by rw[dY,if_neg hk1,if_neg hk2,if_pos hk3,hP]
  refine gk (k:=rt_ Tryz.results160 (k:=?_))
  rw[hT]
  exact⟨_,hsb,_,rfl,rfl⟩
 have hk3:¬p.kind=3:=h6
 have hT:dY p (cF q)= []:=by rw[dY,if_neg hk1,if_neg hk2,if_neg hk3]
 refine gk (k:=rt_ Tryz.results160 (k:=?_))
 rw[hT]
 exact⟨_,hsb,_,rfl,rfl⟩
def eVl:Enc (ByteArray×ByteArray):=⟨fun p=> [.string p.1, .string p.2],2,true,fun _=> rfl,fun p v h=> by simp at h;rcases h with rfl|rfl <;> rfl,ag,fun h=> aR,ag⟩
instance {p:ByteArray×ByteArray}:kK eVl p (.agg [.string p.1, .string p.2].toArray):=⟨rfl⟩
instance {a b:ByteArray}:fH eVl (.agg [.string a, .string b].toArray) (a,b):=⟨rfl⟩
instance {l:List Nat}{a b c d:Nat}:fH eT (.agg [.string (dO l), .int .i64 ((a:Nat):Int), .int .i64 ((b:Nat):Int), .int .i64 ((c:Nat):Int), .int .i64 ((d:Nat):Int)].toArray) ⟨l,a,b,c,d⟩:=⟨rfl⟩
theorem evq {G:cM}{P:Program}{o:Oper}{t:Tm}{H:cG}{u v:Value}(h:Ev G P o t H u) (e:u=v):Ev G P o t H v:=e ▸ h
theorem GD (w:List Nat):∀(i:Nat) (a:Option Nat) (out:List Tok),eL w i=(a,out)→∀t∈out,t.pos≤out.length:=by
 intro i
 induction i with
 |zero=> intro a out h;cases h;simp
 |succ i ih=>
  intro a out h
  obtain⟨a0,o0,h0⟩:∃a0 o0,eL w i=(a0,o0):=⟨_,_,rfl⟩
  have h1:=ih a0 o0 h0
  cases hin:inW w i <;> cases a0 with
  |none=>
   first
   |(rw[oa h0 hin]at h;cases h;exact h1)
   |(rw[kW h0 hin]at h;cases h;exact h1)
  |some a0=>
   first
   |(rw[oc h0 hin]at h;cases h
     intro t ht
     simp only[Ya,Yb,Yc]
     rcases List.mem_append.1 ht with ht|ht
     ·have:=h1 t ht;omega
     ·obtain rfl:=List.mem_singleton.1 ht
      show o0.length≤_;omega)
   |(rw[qS h0 hin]at h;cases h;exact h1)
theorem xr {p:FV}{w:List Nat}{t:Tok}(h:t∈dY p w):t.pos≤w.length+1:=by
 rw[dY]at h
 split at h
 ·obtain⟨t0,h0,hk⟩:=List.mem_filterMap.1 h
  have h1:t0.pos≤(fe w).length:=GD w _ _ _ rfl t0 h0
  have h2:=me w
  rw[kz]at hk
  split at hk
  ·split at hk
   ·cases hk;show t0.pos≤_;omega
   ·cases hk
  ·cases hk
 ·split at h
  ·split at h
   ·obtain rfl:=List.mem_singleton.1 h;exact Yl _
   ·cases h
  ·split at h
   ·split at h
    ·obtain rfl:=List.mem_singleton.1 h;exact Yl _
    ·cases h
   ·cases h
theorem pM (p:FV) (w:List Nat):(dY p w).length≤w.length+1:=by
 rw[dY]
 split
 ·exact Xi (List.length_filterMap_le _ _) (me w)
 ·split
  ·split <;> simp
  ·split
   ·split <;> simp
   ·simp
def sj (i b:Nat) (t:Tok):Tok:=⟨t.text,i,t.pos+b,t.st,t.en⟩
def fR (p:FV) (w:List Nat):Nat:=if p.kind=1 then(fe w).length else 1
def fm (p:FV) (vs:List (ByteArray×ByteArray)):Nat→Nat×List Tok
 | 0=> (0, [])
 |i+1=> match vs[i]? with
  |none=> fm p vs i
  |some v=> if cF v.1=cF p.name then((fm p vs i).1+(fR p (cF v.2)+16),(fm p vs i).2++(dY p (cF v.2)).map (sj i (fm p vs i).1))else fm p vs i
def dF (fs:List FV) (k:Nat) (vs:List (ByteArray×ByteArray)):List Tok:=match fs[k]? with
 |some p=> (fm p vs vs.length).2
 |none=> []
def vsz (vs:List (ByteArray×ByteArray)):Nat:=(vs.map fun v=> v.2.size+20).sum
theorem tl {vs:List (ByteArray×ByteArray)}{i:Nat}{v:ByteArray×ByteArray}(h:vs[i]? =some v):vsz (vs.take (i+1))=vsz (vs.take i)+(v.2.size+20):=by
 simp[vsz,List.take_add_one,h]
theorem nJ:∀(l:List Nat) (i:Nat),(l.take i).sum≤l.sum
 | [],i=> aj
 |x::l,0=> aj
 |x::l,i+1=> by
  have:=nJ l i
  simp only[List.take_succ_cons,List.sum_cons];omega
theorem qU (vs:List (ByteArray×ByteArray)) (i:Nat):vsz (vs.take i)≤vsz vs:=by
 rw[vsz,vsz,List.map_take];exact nJ _ _
theorem wO {p:FV}{vs:List (ByteArray×ByteArray)}{i b:Nat}{out:List Tok}{v:ByteArray×ByteArray}(h:fm p vs i=(b,out)) (hv:vs[i]? =some v) (hn:¬cF v.1=cF p.name):fm p vs (i+1)=(b,out):=by
 rw[fm,hv];simp only[if_neg hn];exact h
theorem sX {p:FV}{vs:List (ByteArray×ByteArray)}{i b:Nat}{out:List Tok}{v:ByteArray×ByteArray}(h:fm p vs i=(b,out)) (hv:vs[i]? =some v) (hn:cF v.1=cF p.name):fm p vs (i+1)=(b+(fR p (cF v.2)+16),out++(dY p (cF v.2)).map (sj i b)):=by
 rw[fm,hv];simp only[if_pos hn,h]
theorem tj (p:FV) (w:List Nat):fR p w≤w.length+1:=by
 rw[fR];split
 ·exact me w
 ·omega
theorem wP (p:FV) (vs:List (ByteArray×ByteArray)):∀(i b:Nat) (out:List Tok),fm p vs i=(b,out)→b≤vsz (vs.take i)∧out.length≤vsz (vs.take i):=by
 intro i
 induction i with
 |zero=> intro b out h;cases h;simp
 |succ i ih=>
  intro b out h
  obtain⟨b0,o0,h0⟩:∃b0 o0,fm p vs i=(b0,o0):=⟨_,_,rfl⟩
  obtain⟨h1,h2⟩:=ih b0 o0 h0
  cases hv:vs[i]? with
  |none=>
   have e:fm p vs (i+1)=fm p vs i:=by rw[fm,hv]
   rw[e,h0]at h;cases h
   have:vs.take (i+1)=vs.take i:=by rw[List.take_add_one,hv];simp
   rw[this];exact⟨h1,h2⟩
  |some v=>
   rw[tl hv]
   have hl:=cJ v.2
   by_cases hn:cF v.1=cF p.name
   ·rw[sX h0 hv hn]at h;cases h
    have h3:=tj p (cF v.2)
    have h4:=pM p (cF v.2)
    simp only[Ya,Yh]
    omega
   ·rw[wO h0 hv hn]at h;cases h;omega
theorem lQ {α β:Type}{f:α→β}{l:List α}{j:Nat}{x:α}(h:l[j]? =some x):(l.take (j+1)).map f=(l.take j).map f++ [f x]:=by
 rw[List.take_add_one,h];simp
end Go.Sx
