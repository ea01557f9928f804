import Derived.Test.YtefgpomabdplbaaGreatDoorQ18
set_option linter.unusedVariables false
set_option linter.unusedSimpArgs false
set_option linter.unusedSectionVars false
set_option linter.unnecessarySimpa false
set_option maxHeartbeats 0
namespace Go.Sx
open Go Go.Proofs
set_option maxRecDepth 100000
def sL (o:Option (List Nat)) (r:ByteArray) (b:Bool):Prop:=match o with
 |some u=> cF r=u∧b=decide (u.length≤64)
 |none=> b=false
theorem CO {xs:List Stp}{i:Nat}{x:Stp}(h:xs[i]? =some x) (w:List Nat):nD (xs.drop i) w=match jI x w with
 |some u=> nD (xs.drop (i+1)) u
 |none=> none:=by
 have hi:=(Yk.1 h).1
 have e:xs[i]=x:=(Yk.1 h).2
 rw[List.drop_eq_getElem_cons hi,nD,e]
 all_goals (cases jI x w <;> rfl)
theorem Fb {x:Stp}{w u:List Nat}(h:jI x w=some u):u.length≤w.length+100:=by
 cases x with
 |fold=> simp only[jI,Option.some.injEq]at h;rw[←h,gR];omega
 |stop s=>
  simp only[jI]at h
  cases hd:decide (w∈jh) <;> rw[hd]at h
  ·simp only[cond_false,Option.some.injEq]at h;rw[h];omega
  ·cases h
 |stem=> simp only[jI,Option.some.injEq]at h;rw[←h];exact Fc w
theorem EP {G:cK}{H:cG}{s:SV}{xs:List Stp}{q:ByteArray} [hx:Sl H s pn xs] (hn:xs.length≤3) (hq:q.size≤4000000) (hs:∀s,Stp.stop s∈xs→Sl H s eS jH):SC G Tryz.prog 197 [s.val, .string q] H (fun v H'=> ∃r b,v= .tuple #[.string r, .bool b]∧sL (nD xs (cF q)) r b∧H'=H):=by
 refine sWk Tryz.func197 Tryz.ntmps197 ?_
 refine go ?_
 refine gk (k:=dt (Nat×ByteArray) (fun y=> y.1≤xs.length∧nD xs (cF q)=nD (xs.drop y.1) (cF y.2)∧y.2.size≤q.size+100*y.1) (fun y=> [(1, .string y.2),(11, .int .i64 ((y.1:Nat):Int))]) [(9,_),(10,_)] (fun y=> []) _ (fun y=> xs.length - y.1) ((0,q)) (h0:=?_) (k:=?_))
 ·try dsimp only
  exact⟨Yl _,rfl,Nat.le_refl _⟩
 rintro⟨i,u⟩ ⟨hi,hth,hz⟩
 try dsimp only[Yd,Ye]at*
 refine gk (k:=wi_ (k:=fun h1=>?_) (m:=fun h1=>?_))
 ·obtain⟨x,hxi⟩:∃x,xs[i]? =some x:=⟨_,Yi (aa)⟩
  have hd:=CO hxi (cF u)
  have hss:∀s,x= .stop s→Sl H s eS jH:=fun s e=> hs s (by rw[←e];exact Yj hxi)
  refine go ?_
  refine go ?_
  refine s_ (Mj (x:=x) rfl rfl (aa) hss) (k:=?_)
  rintro _ _ ⟨r,b,rfl,hw,rfl⟩
  have hul:=cL u
  refine gk (k:=wi_ (k:=fun h2=>?_) (m:=fun h2=>?_))
  ·obtain rfl:b=false:=by simpa using h2
   have hN:nD xs (cF q)=none:=by
    rw[hth,hd]
    cases hso:jI x (cF u)with
    |none=> rfl
    |some w=> rw[hso]at hw;exact absurd hw.2 (ag)
   refine gk (k:=rt_ Tryz.results197 (k:=?_))
   refine⟨_,hsb,_,_,rfl,?_,rfl⟩
   rw[hN];exact rfl
  obtain rfl:b=true:=by simpa using h2
  obtain⟨w,hso,hrw⟩:∃w,jI x (cF u)=some w∧cF r=w:=by
   cases hso:jI x (cF u)with
   |none=> rw[hso]at hw;exact absurd hw (by simp[rk])
   |some w=> rw[hso]at hw;exact⟨w,rfl,hw.1⟩
  have hz2:=Fb hso
  have hrl:=cL r
  refine go ?_
  refine ln_ ((i+1,r)) (k:=?_)
  try dsimp only
  refine⟨aa,?_,by rw[hrw]at hrl;omega⟩
  rw[hth,hd,hso,hrw]
 obtain rfl:i=xs.length:=aa
 rw[List.drop_length,nD]at hth
 have hul:=cL u
 refine go ?_
 refine gk (k:=rt_ Tryz.results197 (k:=?_))
 refine⟨_,hsb,_,_,rfl,?_,rfl⟩
 rw[hth];exact⟨rfl,by rw[hul];congr 1;apply propext;omega⟩
def nH (p:FV) (s:SV):List Stp:=(bif p.fold then [Stp.fold]else [])++(bif p.stop then [Stp.stop s]else [])++(bif p.stem then [Stp.stem]else [])
def py (p:FV) (w:List Nat):Option (List Nat):=
 bif p.stop && decide ((bif p.fold then je w else w)∈jh)then none else some (bif p.stem then lF (bif p.fold then je w else w)else(bif p.fold then je w else w))
theorem A0 (p:FV) (s:SV) (w:List Nat):nD (nH p s) w=py p w:=by
 obtain⟨n,k,a,b,c⟩:=p
 unfold nH py
 cases a <;> cases b <;> cases c <;> simp only[cond_true,cond_false,Ye,Ym,Yd,nD,jI,Bool.true_and,Bool.false_and]
 all_goals first
  |rfl
  |(cases decide (w∈jh) <;> rfl)
  |(cases decide (je w∈jh) <;> rfl)
class Spc (H:cG):Prop where
 out:∀L,Sep H L→∃E fz,(26,Obj.cells ((List.range 256).map fun i=> Value.int .u8 (if i=9∨i=10∨i=11∨i=12∨i=13∨i=32 then 1 else 0)).toArray E fz)∈L
instance Spc.tail {A:Hp}{H:cG} [h:Spc H]:Spc (A::H):=
 ⟨fun L hL=> bO⟩
def gU (G:cK):Prop:=∀H,Spc H→SC G Tryz.prog 221 [] H (fun v H'=> ∃s:SV,v=s.val∧H'=Row s eS jH::H)
section
variable {G:cK}{t:Tm}{H:cG}{dst:Option Tmp}{ty:TypeId}{pos:String}{after:Array Edge}{g:Option (Nat×Bool)}
theorem OC (v:Value) (W:World):(Instr.makeInterface 337 v).run Tryz.prog W= .ok (.iface 337 v) W:=a8
theorem Lb (v:Value) (W:World):(Instr.makeInterface 340 v).run Tryz.prog W= .ok (.iface 340 v) W:=a8
theorem BZ (v:Value) (W:World):(Instr.makeInterface 341 v).run Tryz.prog W= .ok (.iface 341 v) W:=a8
theorem mM {x:Operand}{v:Value}{T:TypeId}(h:∀v W,(Instr.makeInterface T v).run Tryz.prog W= .ok (.iface T v) W) (hx:evo t x=some v):Ev G Tryz.prog ⟨dst, .makeInterface T x,ty,pos,after,g⟩ t H (.iface T v):=
 fun ρ hρ w _=> by
  simp only[execOp,hρ _ _ hx,Sem.run_bind,h,Result.andThen_ok,Sem.run_pure]
end
theorem IM {G:cK}{H:cG}(p:FV) [Spc H] (hS:gU G):SC G Tryz.prog 196 [.agg [.string p.name, .int .i64 p.kind, .bool p.fold, .bool p.stop, .bool p.stem].toArray] (Row SV.nil pn []::H) (fun v H'=> ∃c s:SV,v=c.val∧H'=Row c pn (nH p s)::Row s eS (bif p.stop then jH else [])::H):=by
 obtain⟨n,k,a,b,c⟩:=p
 dsimp only
 refine sWk Tryz.func196 Tryz.ntmps196 ?_
 refine gk (k:=bxx (k:=fun b1=>?_))
 refine e_ asn (k:=on_ (qn_ (ws_ (wr_ (?_)))))
 refine e_ (asv (v:=SV.nil.val) rfl rfl) (k:=?_)
 refine gk (k:=wi_ (k:=fun h1=>?_) (m:=fun h1=>?_))
 ·subst h1
  refine wr_ (e_ mv (k:=e_ (bld []) (k:=?_)))
  refine e_ (mM OC rfl) (k:=?_)
  refine gz pn (k:=fun s9=>?_)
  refine app (k:=fun s10=>?_)
  refine gk (k:=wi_ (k:=fun h2=>?_) (m:=fun h2=>?_))
  ·subst h2
   refine go ?_
   refine c0_ rfl (hS _ inferInstance) (k:=?_)
   rintro _ _ ⟨s5,rfl,rfl⟩
   refine e_ (bld [(0,_)]) (k:=?_)
   refine e_ (mM Lb rfl) (k:=?_)
   refine gz pn (k:=fun s17=>?_)
   refine app (k:=fun s18=>?_)
   refine gk (k:=wi_ (k:=fun h3=>?_) (m:=fun h3=>?_))
   ·subst h3
    refine wr_ (e_ mv (k:=e_ (bld []) (k:=?_)))
    refine e_ (mM BZ rfl) (k:=?_)
    refine gz pn (k:=fun s24=>?_)
    refine app (k:=fun s25=>?_)
    refine gk (k:=rt_ Tryz.results196 (k:=?_))
    first|exact⟨_,hsb,_,s5,rfl,rfl⟩|exact⟨_,hsb,_,SV.nil,rfl,rfl⟩
   subst h3
   refine gk (k:=rt_ Tryz.results196 (k:=?_))
   first|exact⟨_,hsb,_,s5,rfl,rfl⟩|exact⟨_,hsb,_,SV.nil,rfl,rfl⟩
  subst h2
  refine gk (k:=wi_ (k:=fun h4=>?_) (m:=fun h4=>?_))
  ·subst h4
   refine wr_ (e_ mv (k:=e_ (bld []) (k:=?_)))
   refine e_ (mM BZ rfl) (k:=?_)
   refine gz pn (k:=fun s24=>?_)
   refine app (k:=fun s25=>?_)
   refine gk (k:=rt_ Tryz.results196 (k:=?_))
   first|exact⟨_,hsb,_,s5,rfl,rfl⟩|exact⟨_,hsb,_,SV.nil,rfl,rfl⟩
  subst h4
  refine gk (k:=rt_ Tryz.results196 (k:=?_))
  first|exact⟨_,hsb,_,s5,rfl,rfl⟩|exact⟨_,hsb,_,SV.nil,rfl,rfl⟩
 subst h1
 refine gk (k:=wi_ (k:=fun h5=>?_) (m:=fun h5=>?_))
 ·subst h5
  refine go ?_
  refine c0_ rfl (hS _ inferInstance) (k:=?_)
  rintro _ _ ⟨s5,rfl,rfl⟩
  refine e_ (bld [(0,_)]) (k:=?_)
  refine e_ (mM Lb rfl) (k:=?_)
  refine gz pn (k:=fun s17=>?_)
  refine app (k:=fun s18=>?_)
  refine gk (k:=wi_ (k:=fun h6=>?_) (m:=fun h6=>?_))
  ·subst h6
   refine wr_ (e_ mv (k:=e_ (bld []) (k:=?_)))
   refine e_ (mM BZ rfl) (k:=?_)
   refine gz pn (k:=fun s24=>?_)
   refine app (k:=fun s25=>?_)
   refine gk (k:=rt_ Tryz.results196 (k:=?_))
   first|exact⟨_,hsb,_,s5,rfl,rfl⟩|exact⟨_,hsb,_,SV.nil,rfl,rfl⟩
  subst h6
  refine gk (k:=rt_ Tryz.results196 (k:=?_))
  first|exact⟨_,hsb,_,s5,rfl,rfl⟩|exact⟨_,hsb,_,SV.nil,rfl,rfl⟩
 subst h5
 refine gk (k:=wi_ (k:=fun h7=>?_) (m:=fun h7=>?_))
 ·subst h7
  refine wr_ (e_ mv (k:=e_ (bld []) (k:=?_)))
  refine e_ (mM BZ rfl) (k:=?_)
  refine gz pn (k:=fun s24=>?_)
  refine app (k:=fun s25=>?_)
  refine gk (k:=rt_ Tryz.results196 (k:=?_))
  first|exact⟨_,hsb,_,s5,rfl,rfl⟩|exact⟨_,hsb,_,SV.nil,rfl,rfl⟩
 subst h7
 refine gk (k:=rt_ Tryz.results196 (k:=?_))
 first|exact⟨_,hsb,_,s5,rfl,rfl⟩|exact⟨_,hsb,_,SV.nil,rfl,rfl⟩
theorem Mg {G:cK}{H:cG}(p:FV) [Spc H] (hS:gU G):SC G Tryz.prog 196 [.agg [.string p.name, .int .i64 p.kind, .bool p.fold, .bool p.stop, .bool p.stem].toArray] H (fun v H'=> ∃c s:SV,v=c.val∧H'=Row c pn (nH p s)::Row s eS (bif p.stop then jH else [])::H):=
 SC.less (cJ.nilRow cJ.refl) (IM p hS)
section
variable {G:cK}{P:Program}{t:Tm}{H:cG}{dst:Option Tmp}{ty:TypeId}{pos:String}{after:Array Edge}{g:Option (Nat×Bool)}
theorem K5 {T U:TypeId}{x y:Operand}{i j:Int}(hx:evo t x=some (.int .i64 i)) (hy:evo t y=some (.int .i64 j)) (hp:0<j) (hl: -9223372036854775808≤i∧i≤9223372036854775807):
 Ev G P ⟨dst, .binOp .quo T x y U,ty,pos,after,g⟩ t H (.int .i64 (i.tdiv j)):=
 fun ρ hρ w _=> by
  have h0:¬(j=0):=aa
  have e:IntKind.wrap .i64 (i.tdiv j)=i.tdiv j:=by
   refine iq ?_
   have h1:(i.tdiv j).natAbs≤i.natAbs:=by rw[Int.natAbs_tdiv];exact Nat.div_le_self _ _
   by_cases hi:0≤i
   ·have h2:=Int.tdiv_nonneg hi (show 0≤j from aa);omega
   ·have h2:0≤(-i).tdiv j:=Int.tdiv_nonneg (aa) (aa)
    rw[Int.neg_tdiv]at h2;omega
  simp only[execOp,hρ _ _ hx,hρ _ _ hy,eqGuard,binOp,Op.intDiv]
  simp only[Sem.run_bind,Sem.run_pure,ne_eq,not_true_eq_false,↓reduceIte,h0,e]
  rfl
end
def fV:List Nat→Int→Option Int
 | [],v=> some v
 |d::l,v=> bif decide (48≤d) && decide (d≤57) && !decide (10*v - ((d - 48:Nat):Int)< -9223372036854775808)then fV l (10*v - ((d - 48:Nat):Int))else none
def gi (w:List Nat):Option Int:=
 bif decide ((bif j9 w [45]then w.drop 1 else w)= [])then none else
  match fV (bif j9 w [45]then w.drop 1 else w) 0 with
  |none=> none
  |some v=> bif j9 w [45]then some v else bif decide (v= -9223372036854775808)then none else some (-v)
def HU (o:Option Int) (v:Value):Prop:=match o with
 |some n=> v= .tuple #[.int .i64 n, .bool true]∧ -9223372036854775808≤n∧n≤9223372036854775807
 |none=> v= .tuple #[.int .i64 0, .bool false]
theorem rF {w:List Nat}{i:Nat}(hi:i<w.length) (v:Int):fV (w.drop i) v=bif decide (48≤at0 w i) && decide (at0 w i≤57) && !decide (10*v - ((at0 w i - 48:Nat):Int)< -9223372036854775808)then fV (w.drop (i+1)) (10*v - ((at0 w i - 48:Nat):Int))else none:=by
 rw[List.drop_eq_getElem_cons hi,fV]
 have e:w[i]=at0 w i:=by
  have:=sK hi
  rw[Yi hi]at this
  exact Option.some.inj this
 rw[e]
theorem EC {v:Int}{d:Nat}(hv:v≤0) (hl: -9223372036854775808≤v) (hd:48≤d∧d≤57):v<((-9223372036854775808:Int)+((d - 48:Nat):Int)).tdiv 10↔10*v - ((d - 48:Nat):Int)< -9223372036854775808:=by
 have e:((-9223372036854775808:Int)+((d - 48:Nat):Int)).tdiv 10= -((9223372036854775808 - ((d - 48:Nat):Int)) / 10):=by
  rw[show(-9223372036854775808:Int)+((d - 48:Nat):Int)= -(9223372036854775808 - ((d - 48:Nat):Int))from aa,Int.neg_tdiv,Int.tdiv_eq_ediv_of_nonneg (aa)]
 rw[e]
 omega
theorem zh (q:ByteArray) (e:ByteArray) (he:cF e= [45]):cF (pw q e)=bif j9 (cF q) [45]then(cF q).drop 1 else cF q:=by
 have hs:e.size=1:=by have:=cL e;rw[he]at this;exact this.symm
 rw[pw,he,hs]
 cases j9 (cF q) [45]with
 |false=> rfl
 |true=>
  simp only[cond_true]
  rw[gT,←cL,List.take_length]
theorem LJ {G:cK}{H:cG}{q:ByteArray}(hq:q.size≤1000000000):SC G Tryz.prog 169 [.string q] H (fun v H'=> HU (gi (cF q)) v∧H'=H):=by
 obtain⟨u,hu⟩:∃u,u=pw q ⟨#[45]⟩:=⟨_,rfl⟩
 have hub:cF u=bif j9 (cF q) [45]then(cF q).drop 1 else cF q:=by rw[hu];exact zh q _ rfl
 have hul:=cL u
 have huz:u.size≤q.size:=by
  have hl:=cL q
  rw[←hul,hub]
  cases j9 (cF q) [45] <;> simp only[cond_true,cond_false,Yo] <;> omega
 have hP:gi (cF q)=bif decide (cF u= [])then none else match fV (cF u) 0 with
  |none=> none
  |some v=> bif j9 (cF q) [45]then some v else bif decide (v= -9223372036854775808)then none else some (-v):=by
  rw[gi,←hub]
  all_goals (cases fV (cF u) 0 <;> rfl)
 refine sWk Tryz.func169 Tryz.ntmps169 ?_
 refine go ?_
 refine d2_ rfl (DP (aa) (ag)) (k:=?_)
 rw[←hu]
 refine e_ mv (k:=e_ exr (k:=e_ exr (k:=e_ asn (k:=e_ asn (k:=on_ (qn_ (ws_ (ws_ (wr_ (e_ mv (k:=e_ y5 (k:=go ?_))))))))))))
 refine wi_ (k:=fun h1=>?_) (m:=fun h1=>?_)
 ·have hN:gi (cF q)=none:=by rw[hP,Ys (show cF u= []from h1)];all_goals rfl
  refine gk (k:=rt_ Tryz.results169 (k:=?_))
  refine⟨_,hsb,?_,rfl⟩
  rw[hN];exact rfl
 rw[Yr (show ¬cF u= []from h1)]at hP
 simp only[cond_false]at hP
 refine go ?_
 refine gk (k:=dt (Nat×Int) (fun y=> y.1≤u.size∧fV (cF u) 0=fV ((cF u).drop y.1) y.2∧ -9223372036854775808≤y.2∧y.2≤0) (fun y=> [(6, .int .i64 y.2),(18, .int .i64 ((y.1:Nat):Int))]) [(4,_),(5,_),(17,_)] (fun y=> []) _ (fun y=> u.size - y.1) ((0,0)) (h0:=?_) (k:=?_))
 ·try dsimp only
  exact⟨Yl _,rfl,ag,ag⟩
 rintro⟨i,a⟩ ⟨hi,hth,ha1,ha2⟩
 try dsimp only[Yd,Ye]at*
 refine gk (k:=wi_ (k:=fun h2=>?_) (m:=fun h2=>?_))
 ·have hd:=rF (w:=cF u) (i:=i) (aa) a
  refine go ?_
  refine gk (k:=dN 5 30 (k:=fun h3=>gk (k:=edq)) (q:=gk (k:=wi_ (k:=fun h4=>?_) (m:=fun h4=>?_))))
  ·have hN:gi (cF q)=none:=by
    rw[hP,hth,hd,show(decide (48≤at0 (cF u) i) && decide (at0 (cF u) i≤57))=false by simp only[Bool.and_eq_false_iff,decide_eq_false_iff_not];omega];all_goals rfl
   refine gk (k:=rt_ Tryz.results169 (k:=?_))
   refine⟨_,hsb,?_,rfl⟩
   rw[hN];exact rfl
  have hdd:48≤at0 (cF u) i∧at0 (cF u) i≤57:=aa
  have hts:=EC ha2 ha1 hdd
  refine wk_ (qn_ (ws_ (wr_ (e_ mv (k:=e_ mv (k:=e_ ixs (k:=?_)))))))
  refine e_ (wQ 256 rfl rfl rfl rfl _ 48 rfl rfl (aa) (aa)) (k:=?_)
  refine e_ (dy rfl (aa)) (k:=?_)
  refine e_ asn (k:=on_ (qn_ (ws_ (ws_ (wr_ (e_ mv (k:=e_ mv (k:=e_ iad (k:=?_)))))))))
  refine e_ (K5 rfl rfl (ag) (aa)) (k:=?_)
  refine gk (k:=wi_ (k:=fun h5=>?_) (m:=fun h5=>?_))
  ·have hN:gi (cF q)=none:=by
    rw[hP,hth,hd,Ys (hts.1 (aa))];simp
   refine gk (k:=rt_ Tryz.results169 (k:=?_))
   refine⟨_,hsb,?_,rfl⟩
   rw[hN];exact rfl
  have hns:¬(10*a - ((at0 (cF u) i - 48:Nat):Int)< -9223372036854775808):=fun h=> by have h2:=hts.2 h;omega
  have hd2:fV ((cF u).drop i) a=fV ((cF u).drop (i+1)) (10*a - ((at0 (cF u) i - 48:Nat):Int)):=by
   rw[hd,Ys hdd.1,Ys hdd.2,Yr hns];all_goals rfl
  refine go ?_
  refine go ?_
  refine ln_ ((i+1,10*a - ((at0 (cF u) i - 48:Nat):Int))) (k:=?_)
  try dsimp only
  exact⟨aa,by rw[hth,hd2],aa,aa⟩
 have hE:fV (cF u) 0=some a:=by
  obtain rfl:i=u.size:=aa
  rw[hth,←hul,List.drop_length];all_goals rfl
 rw[hE]at hP
 simp only at hP
 refine gk (k:=wi_ (k:=fun h6=>?_) (m:=fun h6=>?_))
 ·rw[show j9 (cF q) [45]=true from h6]at hP
  refine gk (k:=rt_ Tryz.results169 (k:=?_))
  refine⟨_,hsb,?_,rfl⟩
  rw[hP];exact⟨rfl,ha1,aa⟩
 rw[show j9 (cF q) [45]=false from h6]at hP
 simp only[cond_false]at hP
 refine gk (k:=wi_ (k:=fun h7=>?_) (m:=fun h7=>?_))
 ·rw[Ys (show a= -9223372036854775808 from h7)]at hP
  refine gk (k:=rt_ Tryz.results169 (k:=?_))
  refine⟨_,hsb,?_,rfl⟩
  rw[hP];exact rfl
 have hne:=h7
 rw[Yr (show ¬a= -9223372036854775808 from hne)]at hP
 refine wk_ (qn_ (ws_ (wr_ (e_ mv (k:=?_)))))
 refine e_ (Ha rfl (aa)) (k:=?_)
 refine gk (k:=rt_ Tryz.results169 (k:=?_))
 refine⟨_,hsb,?_,rfl⟩
 rw[hP];exact⟨rfl,aa,aa⟩
theorem Pj (w:List Nat):j9 w [45]=true↔0<w.length∧at0 w 0=45:=by
 cases w with
 |nil=> simp[j9]
 |cons a l=> simp[j9,at0]
theorem Mz {G:cK}{H:cG}{q:ByteArray}(hq:q.size≤1000000000):SC G Tryz.prog 136 [.string q] H (fun v H'=> HU (gi (cF q)) v∧H'=H):=by
 have hl:=cL q
 have h45:=Pj (cF q)
 obtain⟨u,hu⟩:∃u,u=bif j9 (cF q) [45]then q.extract 1 q.size else q:=⟨_,rfl⟩
 have hub:cF u=bif j9 (cF q) [45]then(cF q).drop 1 else cF q:=by
  rw[hu]
  cases j9 (cF q) [45]with
  |false=> rfl
  |true=> simp only[cond_true];rw[gT,←hl,List.take_length]
 have hul:=cL u
 have huz:u.size≤q.size:=by
  rw[←hul,hub]
  cases j9 (cF q) [45] <;> simp only[cond_true,cond_false,Yo] <;> omega
 have hP:gi (cF q)=bif decide (cF u= [])then none else match fV (cF u) 0 with
  |none=> none
  |some v=> bif j9 (cF q) [45]then some v else bif decide (v= -9223372036854775808)then none else some (-v):=by
  rw[gi,←hub]
  all_goals (cases fV (cF u) 0 <;> rfl)
 refine sWk Tryz.func136 Tryz.ntmps136 ?_
 refine gk (k:=dh 4 18 (k:=fun h1=>gk (k:=edq)) (q:=?_))
 refine e_ (asv (v:=.bool (j9 (cF q) [45])) rfl (vb (by rw[h45];simp only[Bool.and_eq_true,decide_eq_true_eq];omega))) (k:=?_)
 refine on_ (qn_ (ws_ (wr_ (e_ mv (k:=e_ asn (k:=on_ (qn_ (mf [(5, .string u)] [5,20,21,22] ?_ ?_))))))))
 ·refine gk (k:=wi_ (k:=fun h2=>?_) (m:=fun h2=>?_))
  ·rw[show j9 (cF q) [45]=true from h2]at hu
   obtain rfl:u=q.extract 1 q.size:=hu
   have hq0:=h45.1 h2
   refine wr_ (e_ mv (k:=e_ (J1 (a:=1)) (k:=gk (k:=jne))))
  rw[show j9 (cF q) [45]=false from h2]at hu
  obtain rfl:u=q:=hu
  refine gk (k:=jne)
 refine gk (k:=wi_ (k:=fun h3=>?_) (m:=fun h3=>?_))
 ·have hN:gi (cF q)=none:=by rw[hP,Ys (show cF u= []from List.eq_nil_of_length_eq_zero (aa))];all_goals rfl
  refine gk (k:=rt_ Tryz.results136 (k:=?_))
  refine⟨_,hsb,?_,rfl⟩
  rw[hN];exact rfl
 rw[Yr (show ¬cF u= []from fun h=> by rw[h]at hul;simp at hul;omega)]at hP
 simp only[cond_false]at hP
 refine go ?_
 refine gk (k:=dt (Nat×Int×Bool) (fun y=> y.1≤u.size∧(y.2.2=true→fV (cF u) 0=fV ((cF u).drop y.1) y.2.1)∧(y.2.2=false→fV (cF u) 0=none)∧ -9223372036854775808≤y.2.1∧y.2.1≤0) (fun y=> [(6, .int .i64 y.2.1),(7, .bool y.2.2),(8, .int .i64 ((y.1:Nat):Int))]) [(4,_),(5,_)] (fun y=> []) _ (fun y=> u.size - y.1) ((0,0,true)) (h0:=?_) (k:=?_))
 ·try dsimp only
  exact⟨Yl _,fun _=> rfl,fun h=> (aW),ag,ag⟩
 rintro⟨i,a,f⟩ ⟨hi,hth,hno,ha1,ha2⟩
 try dsimp only[Yd,Ye]at*
 refine gk (k:=wi_ (k:=fun h4=>?_) (m:=fun h4=>?_))
 ·have hd:=rF (w:=cF u) (i:=i) (aa) a
  refine go ?_
  refine gk (k:=dN 3 40 (k:=fun h5=>gk (k:=edq)) (q:=gk (k:=wi_ (k:=fun h6=>?_) (m:=fun h6=>?_))))
  ·have hN:gi (cF q)=none:=by
    cases f with
    |false=> rw[hP,hno rfl]
    |true=> rw[hP,hth rfl,hd,show(decide (48≤at0 (cF u) i) && decide (at0 (cF u) i≤57))=false by simp only[Bool.and_eq_false_iff,decide_eq_false_iff_not];omega];all_goals rfl
   refine gk (k:=rt_ Tryz.results136 (k:=?_))
   refine⟨_,hsb,?_,rfl⟩
   rw[hN];exact rfl
  have hdd:48≤at0 (cF u) i∧at0 (cF u) i≤57:=aa
  refine wk_ (qn_ (ws_ (wr_ (e_ mv (k:=?_)))))
  refine e_ (wQ 256 rfl rfl rfl rfl _ 48 rfl rfl (aa) (aa)) (k:=?_)
  refine e_ (dy rfl (aa)) (k:=?_)
  refine gk (k:=dN 3 49 (k:=fun h7=>gk (k:=edq)) (q:=gk (k:=dN 6 56 (k:=fun h8=>gk (k:=edq)) (q:=go ?_))))
  refine wi_ (k:=fun h9=>?_) (m:=fun h9=>?_)
  ·have hf:=h9
   have hnn:fV (cF u) 0=none:=by
    cases f with
    |false=> exact hno rfl
    |true=>
     have h3:10*a - ((at0 (cF u) i - 48:Nat):Int)< -9223372036854775808:=by
      simp at hf;omega
     rw[hth rfl,hd,Ys h3];simp
   refine go ?_
   refine ln_ ((i+1,a,false)) (k:=?_)
   try dsimp only
   exact⟨aa,fun h=> (aW),fun _=> hnn,ha1,ha2⟩
  obtain⟨⟨hf,hz1⟩,hz2⟩:=h9
  have hns:¬(10*a - ((at0 (cF u) i - 48:Nat):Int)< -9223372036854775808):=aa
  have hd2:fV ((cF u).drop i) a=fV ((cF u).drop (i+1)) (10*a - ((at0 (cF u) i - 48:Nat):Int)):=by
   rw[hd,Ys hdd.1,Ys hdd.2,Yr hns];all_goals rfl
  have hf2:f=true:=by simpa using hf
  refine go ?_
  refine go ?_
  refine ln_ ((i+1,10*a - ((at0 (cF u) i - 48:Nat):Int),f)) (k:=?_)
  try dsimp only
  exact⟨aa,fun h=> by rw[hth h,hd2],hno,aa,aa⟩
 have hE:f=true→fV (cF u) 0=some a:=fun hf=> by
  obtain rfl:i=u.size:=aa
  rw[hth hf,←hul,List.drop_length];all_goals rfl
 refine gk (k:=dN 7 70 (k:=fun h10=>gk (k:=dh 3 69 (k:=fun h11=>gk (k:=edq)) (q:=gk (k:=edq)))) (q:=go ?_))
 refine wi_ (k:=fun h12=>?_) (m:=fun h12=>?_)
 ·have hbad:=h12
  have hN:gi (cF q)=none:=by
   cases f with
   |false=> rw[hP,hno rfl]
   |true=>
    rw[hP,hE rfl]
    simp at hbad
    obtain⟨c1,c2⟩:=hbad
    simp only[c1,cond_false]
    rw[Ys (show a= -9223372036854775808 from c2)];all_goals rfl
  refine gk (k:=rt_ Tryz.results136 (k:=?_))
  refine⟨_,hsb,?_,rfl⟩
  rw[hN];exact rfl
 have hgood:=h12
 obtain⟨hf,hg2⟩:=hgood
 rw[hE hf]at hP
 dsimp only at hP
 refine gk (k:=wi_ (k:=fun h13=>?_) (m:=fun h13=>?_))
 ·have hm:=h13
  have hb0:j9 (cF q) [45]=false:=by simpa using hm
  have hne:¬a= -9223372036854775808:=hg2.resolve_left (by rw[hb0];decide)
  rw[hb0,Yr hne]at hP
  refine wr_ (e_ mv (k:=?_))
  refine e_ (Ha rfl (aa)) (k:=?_)
  refine gk (k:=rt_ Tryz.results136 (k:=?_))
  exact⟨_,hsb,by rw[hP];exact⟨rfl,aa,aa⟩,rfl⟩
 have hm:=h13
 have hb0:j9 (cF q) [45]=true:=by simpa using hm
 rw[hb0]at hP
 refine gk (k:=rt_ Tryz.results136 (k:=?_))
 exact⟨_,hsb,by rw[hP];exact⟨rfl,aa,aa⟩,rfl⟩
section
variable {G:cK}{P:Program}{t:Tm}{H:cG}{dst:Option Tmp}{ty:TypeId}{pos:String}{after:Array Edge}{g:Option (Nat×Bool)}
theorem yN {T E:TypeId}{x:Operand}{b n sz bb:Nat}{z:Value}(hx:evo t x=some (.pointer (some ⟨b,0,none⟩))) [hT:Und P T (.array n E)] [hE:Inf P E sz bb z] (hn:0<n):
 Ev G P ⟨dst, .slice T x none none none,ty,pos,after,g⟩ t H (SV.mk (some ⟨b,0,none⟩) n n).val:=
 fun ρ hρ w _=> by
  have h0:¬(n=0):=aa
  simp[execOp,hρ _ _ hx,Instr.sliceAt,da (T:=T),Instr.sureAddr,dQ (T:=E) (s:=sz),Instr.sliceBounds,gN,SV.val]
theorem NI {b:Nat}{l:List Value}{α:Type}{e:Enc α}{xs:List α}{n:Nat} [h:cQ H b l] (hl:l=e.all xs) (hn:n=xs.length):Sl H ⟨some ⟨b,0,none⟩,n,n⟩ e xs:=
 ⟨fun L hL=> by
  obtain⟨E,fz,hm⟩:=h.mem L hL
  refine⟨hn,Nat.le_refl _, .inr ⟨b,0,l.toArray,E,fz,rfl,hm,?_,?_⟩⟩
  ·rw[hl];simp only[List.size_toArray,e.all_length];rw[hn];omega
  ·intro j v hv;rw[Nat.zero_add,hl];simpa using hv⟩
def zX (v:Int):Nat:=(v % 18446744073709551616).toNat
theorem He {S D:TypeId}{ds:TypeDesc}{x:Operand}{i:Int} [hs:Und P S ds] [hd:Und P D (.int .u64)] (hx:evo t x=some (.int .i64 i)):
 Ev G P ⟨dst, .convert S D x,ty,pos,after,g⟩ t H (.int .u64 ((zX i:Nat):Int)):=
 fun ρ hρ w _=> by
  have e:(underlying S).run P w= .ok ds w:=by simp[underlying,hs.out]
  have e2:(underlying D).run P w= .ok (.int .u64) w:=by simp[underlying,hd.out]
  have e3:IntKind.wrap .u64 i=((zX i:Nat):Int):=by
   have h1:0≤i % 18446744073709551616:=Int.emod_nonneg _ (ag)
   rw[zX,Int.toNat_of_nonneg h1];all_goals rfl
  simp only[execOp,convert,hρ _ _ hx,Sem.run_bind,e,e2,Result.andThen_ok]
  cases ds <;> simp[Conv.intToInt,e3]
end
theorem NN {x:Nat}(h:x<18446744073709551616):x ^^^ 9223372036854775808=(x+9223372036854775808) % 18446744073709551616:=by
 have low:∀y:Nat,y<9223372036854775808→y ^^^ 9223372036854775808=y+9223372036854775808:=by
  intro y hy
  have h1:2 ^ 63*1+y=2 ^ 63*1 |||y:=Nat.two_pow_add_eq_or_of_lt (i:=63) hy 1
  have h2:y ^^^ 9223372036854775808=2 ^ 63*1 |||y:=by
   apply Nat.eq_of_testBit_eq
   intro i
   rw[Nat.testBit_xor,Nat.testBit_or,show(9223372036854775808:Nat)=2 ^ 63 from rfl,Nat.mul_one,Nat.testBit_two_pow]
   by_cases hi:63=i
   ·subst hi
    rw[Nat.testBit_lt_two_pow hy];all_goals rfl
   ·rw[Yr hi];simp
  rw[h2,←h1];omega
 by_cases hx:x<9223372036854775808
 ·rw[low x hx];omega
 ·have h1:=low (x - 9223372036854775808) (aa)
  have h2:x=(x - 9223372036854775808) ^^^ 9223372036854775808:=by rw[h1];omega
  have h3:x ^^^ 9223372036854775808=x - 9223372036854775808:=by
   conv=> lhs;rw[h2]
   rw[Nat.xor_assoc,Nat.xor_self,Nat.xor_zero]
  rw[h3];omega
theorem Lw (v:Int):zX v<18446744073709551616:=by
 have h1:0≤v % 18446744073709551616:=Int.emod_nonneg _ (ag)
 have h2:v % 18446744073709551616<18446744073709551616:=Int.emod_lt_of_pos _ (ag)
 rw[zX];omega
def BV (v:Int):Nat:=(zX v+9223372036854775808) % 18446744073709551616
def As (v:Int) (i:Nat):Nat:=BV v / 2 ^ (56 - 8*i) % 256
def kA (v:Int):List Nat:=(List.range 8).map (As v)
def qP (v:Int) (i:Nat):List Nat:=(kA v).take i++List.replicate (8 - i) 0
theorem nR (v:Int):(kA v).length=8:=by simp[kA]
theorem G2 (v:Int) {i:Nat}(h:i≤8):(qP v i).length=8:=by simp[qP,nR];omega
theorem G0 (v:Int) {i:Nat}(h:i<8):(kA v)[i]? =some (As v i):=by
 rw[kA,Xd,List.getElem?_range h];all_goals rfl
theorem De (v:Int) {i:Nat}(h:i<8):(kA v).take (i+1)=(kA v).take i++ [As v i]:=by
 rw[List.take_add_one,G0 v h];all_goals rfl
theorem G1 (v:Int) {i:Nat}(h:i<8):(qP v i).set i (As v i)=qP v (i+1):=by
 have hl:((kA v).take i).length=i:=by rw[Yg,nR];omega
 rw[qP,List.set_append,if_neg (by rw[hl];omega),hl,Nat.sub_self,show 8 - i=(8 - (i+1))+1 from aa,List.replicate_succ,List.set_cons_zero,qP,De v h,Yf]
 all_goals rfl
theorem Jy (v:Int):∀x∈kA v,x<256:=by
 intro x hx
 obtain⟨i,_,rfl⟩:=List.mem_map.1 hx
 exact Nat.mod_lt _ (ag)
def u8s (l:List Nat):List Value:=l.map fun(n:Nat)=> Value.int .u8 (n:Int)
theorem Ih (l:List Nat):u8s l=eB.all l:=by
 rw[B8,u8s,List.map_map];all_goals rfl
theorem Spl.at_ {l:List Nat}{i x:Nat}(h:i<l.length):Spl (u8s l) (0+i*1) [.int .u8 (x:Int)] (u8s (l.set i x)):=
 oC (by simp[u8s];omega) (by
  rw[Nat.zero_add,Nat.mul_one,u8s,u8s,List.map_set,List.set_eq_take_append_cons_drop,if_pos (aY)]
  simp)
theorem Df (v:Int):u8s (qP v 0)= [.int .u8 0, .int .u8 0, .int .u8 0, .int .u8 0, .int .u8 0, .int .u8 0, .int .u8 0, .int .u8 0]:=by
 rw[qP,List.take_zero,Ye];all_goals rfl
theorem NS {G:cK}{H:cG}{v:Int}(hv: -9223372036854775808≤v∧v≤9223372036854775807):SC G Tryz.prog 198 [.int .i64 v] H (fun u H'=> u= .string (dL (kA v))∧H'=H):=by
 have hwl:=Lw v
 have hx:=NN hwl
 refine sWk Tryz.func198 Tryz.ntmps198 ?_
 refine ws_ (wr_ (e_ asn (k:=on_ (qn_ (ws_ (wr_ (e_ mv (k:=?_))))))))
 refine e_ (He rfl) (k:=?_)
 refine e_ (mK 18446744073709551616 rfl rfl rfl rfl (zX v) 9223372036854775808 rfl rfl hwl (ag)) (k:=?_)
 refine e_ (asv (v:=.int .u64 ((BV v:Nat):Int)) rfl (by rw[hx];all_goals rfl)) (k:=?_)
 refine gk (k:=alc (k:=fun b4=>?_))
 rw[←Df v]
 refine gk (k:=dt (Nat) (fun y=> y≤8) (fun y=> [(9, .int .i64 ((y:Nat):Int))]) [(3,_),(4,_)] (fun y=> [Vr b4 (u8s (qP v y))]) _ (fun y=> 8 - y) (0) (h0:=?_) (k:=?_))
 ·try dsimp only
  exact Yl _
 rintro i hi
 try dsimp only[Yd,Ye]at*
 refine gk (k:=wi_ (k:=fun h1=>?_) (m:=fun h1=>?_))
 ·have hi8:i<8:=by omega
  haveI hSp:Spl (u8s (qP v i)) (0+i*1) [.int .u8 ((As v i:Nat):Int)] (u8s ((qP v i).set i (As v i))):=Spl.at_ (by rw[G2 v (aa)];exact hi8)
  refine wk_ (qn_ (ws_ (wb_ (ws_ (wr_ (e_ mv (k:=e_ asn (k:=on_ (qn_ (wr_ (e_ mv (k:=e_ mv (k:=e_ mv (k:=?_))))))))))))))
  refine e_ iml (k:=e_ isb (k:=?_))
  refine e_ (fC rfl rfl (BV v) (56 - 8*i) rfl (aa) (by show _≤64;omega)) (k:=?_)
  refine e_ (dj 256 rfl rfl rfl (BV v / 2 ^ (56 - 8*i)) rfl) (k:=?_)
  refine e_ (eM rfl rfl _ rfl (aa)) (k:=?_)
  refine s_ (dM (v:= .int .u8 ((As v i:Nat):Int)) rfl rfl rfl) (k:=?_)
  rintro _ _ ⟨rfl,rfl⟩
  rw[G1 v hi8]
  refine go ?_
  refine ln_ (i+1) (k:=?_)
  try dsimp only
  omega
 obtain rfl:i=8:=aa
 have h8:qP v 8=kA v:=by rw[qP,List.take_of_length_le (by rw[nR];omega)];simp
 rw[h8]
 haveI hSl:Sl (Vr b4 (u8s (kA v))::H) ⟨some ⟨b4,0,none⟩,8,8⟩ eB (kA v):=NI (Ih _) (by rw[nR])
 refine we_ (qe_ (le_ (bh_ (qn_ (ws_ (wr_ (?_)))))))
 refine e_ (yN rfl (ag)) (k:=?_)
 refine e_ (eN rfl) (k:=?_)
 refine gk (k:=rt_ Tryz.results198 (k:=?_))
 exact⟨_,hsb,rfl,rfl⟩
instance {t:Tok}:jG eT t (.agg [.string (dL t.text), .int .i64 ((t.value:Nat):Int), .int .i64 ((t.pos:Nat):Int), .int .i64 ((t.st:Nat):Int), .int .i64 ((t.en:Nat):Int)].toArray):=⟨rfl⟩
instance (priority:=low) {s:ByteArray}{a b c d:Nat}:fK eT (.agg [.string s, .int .i64 ((a:Nat):Int), .int .i64 ((b:Nat):Int), .int .i64 ((c:Nat):Int), .int .i64 ((d:Nat):Int)].toArray) ⟨cF s,a,b,c,d⟩:=⟨by show Value.agg (eT.f _).toArray=_;simp only[eT,gO]⟩
instance {s:ByteArray}{d:Nat}:fK eT (.agg [.string s, .int .i64 0, .int .i64 0, .int .i64 0, .int .i64 ((d:Nat):Int)].toArray) ⟨cF s,0,0,0,d⟩:=⟨by show Value.agg (eT.f _).toArray=_;simp only[eT,gO];all_goals rfl⟩
theorem E9 (w:List Nat):∀(i:Nat) (a:Option Nat) (out:List Tok),ej w i=(a,out)→∀t∈out,∃j b k,t=⟨(w.take j).drop b,0,k,b,j⟩:=by
 intro i
 induction i with
 |zero=> intro a out h;cases h;simp
 |succ i ih=>
  intro a out h
  obtain⟨a0,o0,h0⟩:∃a0 o0,ej w i=(a0,o0):=⟨_,_,rfl⟩
  have h1:=ih a0 o0 h0
  cases hin:inW w i <;> cases a0 with
  |none=>
   first
   |(rw[pC h0 hin]at h;cases h;exact h1)
   |(rw[lC h0 hin]at h;cases h;exact h1)
  |some a0=>
   first
   |(rw[pD h0 hin]at h;cases h
     intro t ht
     rcases List.mem_append.1 ht with ht|ht
     ·exact h1 t ht
     ·obtain rfl:=List.mem_singleton.1 ht
      exact⟨_,_,_,rfl⟩)
   |(rw[sN h0 hin]at h;cases h;exact h1)
theorem zP {w:List Nat}{t:Tok}(h:t∈gC w):∃j b k,t=⟨(w.take j).drop b,0,k,b,j⟩:=E9 w _ _ _ rfl t h
theorem Eb {w:List Nat}(hw:∀x∈w,x<256) {t:Tok}(h:t∈gC w):(∀x∈t.text,x<256)∧t.text.length≤w.length:=by
 obtain⟨j,b,k,rfl⟩:=zP h
 refine⟨fun x hx=> hw x (Yq (Yp hx)),?_⟩
 simp only[Yo,Yg];omega
theorem o8 (w:List Nat):(gC w).length≤w.length+1:=(Bo w (w.length+1) _ _ rfl).1
def lR (p:FV) (t:Tok):Option Tok:=match py p t.text with
 |some u=> if u.length≤64 then some ⟨u,t.value,t.pos,t.st,t.en⟩else none
 |none=> none
def fO (p:FV) (w:List Nat):List Tok:=
 if p.kind=1 then(gC w).filterMap (lR p)
 else if p.kind=2 then(if w.length≤64 then [⟨w,0,0,0,w.length⟩]else [])
 else if p.kind=3 then(match gi w with
  |some n=> [⟨kA n,0,0,0,w.length⟩]
  |none=> [])
 else []
theorem Gq {p:FV}{t:Tok}{r:ByteArray}{b:Bool}(h:sL (py p t.text) r b) (hb:b=true):lR p t=some ⟨cF r,t.value,t.pos,t.st,t.en⟩:=by
 rw[lR]
 cases hc:py p t.text with
 |none=> rw[hc]at h;subst hb;exact absurd h (by simp[sL])
 |some u=>
  rw[hc]at h
  obtain⟨h1,h2⟩:=h
  subst hb
  have h3:u.length≤64:=by simpa using h2.symm
  simp only[h3,↓reduceIte,h1]
theorem JJ {p:FV}{t:Tok}{r:ByteArray}{b:Bool}(h:sL (py p t.text) r b) (hb:b=false):lR p t=none:=by
 rw[lR]
 cases hc:py p t.text with
 |none=> rfl
 |some u=>
  rw[hc]at h
  obtain⟨h1,h2⟩:=h
  subst hb
  have h3:¬u.length≤64:=by simpa using h2.symm
  simp only[h3,↓reduceIte]
theorem JV {α β:Type}{f:α→Option β}{l:List α}{i:Nat}{x:α}(h:l[i]? =some x):(l.take (i+1)).filterMap f=(l.take i).filterMap f++(f x).toList:=by
 rw[List.take_add_one,h,List.filterMap_append]
 simp only[Option.toList_some,List.filterMap_cons,List.filterMap_nil]
 cases f x <;> rfl
theorem Nq {α β:Type}(f:α→Option β) (l:List α) (i:Nat):((l.take i).filterMap f).length≤l.length:=
 Xi (List.length_filterMap_le _ _) (aA)
theorem IT {H:cG}{p:FV}{s s0:SV}(hm:Stp.stop s∈nH p s0) (h:Sl H s0 eS (bif p.stop then jH else [])):Sl H s eS jH:=by
 obtain⟨n,k,a,b,c⟩:=p
 simp only[nH,List.mem_append]at hm
 rcases hm with(hm|hm)|hm
 ·cases a <;> simp at hm
 ·cases b with
  |false=> simp at hm
  |true=> simp at hm;subst hm;exact h
 ·cases c <;> simp at hm
theorem CW (p:FV) (s:SV):(nH p s).length≤3:=by
 obtain⟨n,k,a,b,c⟩:=p
 cases a <;> cases b <;> cases c <;> (simp[nH])
theorem FZ {o:Option Int}{v:Value}(h:HU o v):∃n b,v= .tuple #[.int .i64 n, .bool b]∧((b=true∧o=some n∧ -9223372036854775808≤n∧n≤9223372036854775807)∨(b=false∧o=none)):=by
 cases o with
 |none=> exact⟨0,false,h, .inr ⟨rfl,rfl⟩⟩
 |some n=> exact⟨n,true,h.1, .inl ⟨rfl,rfl,h.2⟩⟩
theorem BA {G:cK}{H:cG}{q:ByteArray}(hq:q.size≤1000000000):SC G Tryz.prog 169 [.string q] H (fun v H'=> ∃n b,v= .tuple #[.int .i64 n, .bool b]∧((b=true∧gi (cF q)=some n∧ -9223372036854775808≤n∧n≤9223372036854775807)∨(b=false∧gi (cF q)=none))∧H'=H):=
 (LJ hq).mono fun v H' h=> cz
theorem Jl {G:cK}{H:cG}{q:ByteArray}(hq:q.size≤1000000000):SC G Tryz.prog 136 [.string q] H (fun v H'=> ∃n b,v= .tuple #[.int .i64 n, .bool b]∧((b=true∧gi (cF q)=some n∧ -9223372036854775808≤n∧n≤9223372036854775807)∨(b=false∧gi (cF q)=none))∧H'=H):=
 (Mz hq).mono fun v H' h=> cz
end Go.Sx
