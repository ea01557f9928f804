import Derived.Test.YtefgpomabdplbaaGreatDoorQ34
set_option linter.unusedVariables false
set_option linter.unusedSimpArgs false
set_option linter.unusedSectionVars false
set_option linter.unnecessarySimpa false
set_option maxHeartbeats 0
namespace Go.Sx
open Go Go.Proofs
set_option maxRecDepth 100000
def yE:List Value:= [.string (dL [101,110,100]), .int .i64 0, .string (dL [110,111,110,101]), .int .i64 0, .string (dL [97,108,108]), .int .i64 0, .string (dL [104,97,115]), .int .i64 1, .string (dL [116,101,114,109]), .int .i64 2, .string (dL [112,104,114,97,115,101]), .int .i64 2, .string (dL [97,110,100]), .int .i64 0, .string (dL [111,114]), .int .i64 0, .string (dL [109,97,120]), .int .i64 0, .string (dL [111,112,116]), .int .i64 0, .string (dL [101,120,99,101,112,116]), .int .i64 0, .string (dL [110,111,116]), .int .i64 0, .string (dL [115,99,97,108,101]), .int .i64 1, .string (dL [102,105,120]), .int .i64 1, .string (dL [108,101,97,115,116]), .int .i64 2, .string (dL [109,105,115,115]), .int .i64 1, .string (dL [104,105,116]), .int .i64 1]
class Isa (H:cG):Prop where
 at_:cQ H 24 yE
instance Isa.tail {A:Hp}{H:cG} [h:Isa H]:Isa (A::H):=⟨@cQ.tail _ _ _ _ h.at_⟩
instance {H:cG} [h:Isa H]:cQ H 24 yE:=h.at_
theorem MO:∀i:Fin 17,yE[i.val*2+1]? =(ni i.val).map (fun k:Nat=> Value.int .i64 (k:Int)):=by
 intro⟨i,h⟩
 match i,h with
 | 0,_=> rfl
 | 1,_=> rfl
 | 2,_=> rfl
 | 3,_=> rfl
 | 4,_=> rfl
 | 5,_=> rfl
 | 6,_=> rfl
 | 7,_=> rfl
 | 8,_=> rfl
 | 9,_=> rfl
 | 10,_=> rfl
 | 11,_=> rfl
 | 12,_=> rfl
 | 13,_=> rfl
 | 14,_=> rfl
 | 15,_=> rfl
 | 16,_=> rfl
 |n+17,h=> exact absurd h (aa)
theorem DW {op:Nat}(h:op<17):∃k,ni op=some k∧k≤2∧yE[op*2+1]? =some (.int .i64 ((k:Nat):Int)):=by
 have h1:∀i:Fin 17,∃k,ni i.val=some k∧k≤2:=ag
 obtain⟨k,h2,h3⟩:=h1 ⟨op,h⟩
 have h4:=MO ⟨op,h⟩
 simp only at h2 h4
 rw[h2]at h4
 exact⟨k,h2,h3,h4⟩
theorem DX {op:Nat}(h:17≤op):ni op=none:=List.getElem?_eq_none h
theorem O7 {G:cK}{H:cG}{op:Nat} [hi:Isa H]:SC G Tryz.prog 41 [.int .i64 ((op:Nat):Int)] H (fun v H'=> ((∃k,ni op=some k∧k≤2∧v= .tuple #[.int .i64 ((k:Nat):Int), .bool true])∨(ni op=none∧v= .tuple #[.int .i64 0, .bool false]))∧H'=H):=by
 refine sWk Tryz.func41 Tryz.ntmps41 ?_
 refine ws_ (wr_ (e_ asn (k:=e_ asn (k:=on_ (qn_ (ws_ (ws_ (wr_ (e_ mv (k:=e_ ilt (k:=e_ mv (k:=dN 3 9 (k:=fun h1=>eg_ mv (k:=eg_ ige (k:=e_ pkf (k:=on_ (edq))))) (q:=on_ (?_))))))))))))))
 refine qn_ (wi_ (k:=fun h2=>?_) (m:=fun h2=>?_))
 ·have hno:=DX (op:=op) (aQ)
  refine ws_ (wr_ (e_ asn (k:=e_ asn (k:=on_ (qn_ (wt_ (qr_ (rt_ Tryz.results41 (k:=?_)))))))))
  exact⟨_,hsb, .inr ⟨hno,rfl⟩,rfl⟩
 have hop:op<17:=aQ
 obtain⟨k,hk1,hk2,hk3⟩:=DW hop
 refine wk_ (qn_ (ws_ (wr_ (e_ mv (k:=?_)))))
 refine e_ (eM rfl rfl op rfl hop) (k:=?_)
 refine e_ fla (k:=?_)
 refine e_ (kH rfl (v:= .int .i64 ((k:Nat):Int)) (by rw[show 0+op*2+1=op*2+1 from aa];exact hk3)) (k:=?_)
 refine e_ asn (k:=e_ asn (k:=on_ (qn_ (wt_ (rt_ Tryz.results41 (k:=?_))))))
 exact⟨_,hsb, .inl ⟨k,hk1,hk2,rfl⟩,rfl⟩
def rL (rs:List Nat) (o:Option (List Nat×List Nat)):Option (List Nat×List Nat):=o.map fun p=> (rs++p.1,p.2)
theorem DY {n j v m:Nat}{l rs:List Nat}(h:gP 0 l= .ok (v,m)) (hj:j<n):rL rs (n6 (n - j) l)=rL (rs++ [v]) (n6 (n - (j+1)) (l.drop m)):=by
 obtain⟨d,hd⟩:∃d,n - j=d+1:=⟨n - j - 1,aa⟩
 rw[hd,show n - (j+1)=d from aa,n6,h]
 simp only[]
 cases n6 d (l.drop m)with
 |none=> rfl
 |some p=> simp[rL]
theorem HE {n j e:Nat}{l rs:List Nat}(h:gP 0 l= .error e) (hj:j<n):rL rs (n6 (n - j) l)=none:=by
 obtain⟨d,hd⟩:∃d,n - j=d+1:=⟨n - j - 1,aa⟩
 rw[hd,n6,h];all_goals rfl
theorem Hu (f:Nat):lq f []=some []:=by cases f <;> rfl
theorem DO {f x:Nat}{l:List Nat}(h:ni x=none):lq (f+1) (x::l)=none:=by rw[lq,h]
theorem DN {f x n:Nat}{l:List Nat}(h:ni x=some n) (h2:n6 n l=none):lq (f+1) (x::l)=none:=by rw[lq,h];simp only[];rw[h2]
theorem Cu {f x n:Nat}{l vs r:List Nat}(h:ni x=some n) (h2:n6 n l=some (vs,r)):lq (f+1) (x::l)=(lq f r).map (Gv x vs:: ·):=by
 rw[lq,h];simp only[];rw[h2];simp only[]
 all_goals (cases lq f r <;> rfl)
def vE (rs:List Ins) (o:Option (List Ins)):Option (List Ins):=o.map fun p=> rs++p
theorem tZ {rs:List Ins}{x:Ins}{o:Option (List Ins)}:vE rs (o.map (x:: ·))=vE (rs++ [x]) o:=by cases o <;> simp[vE]
theorem L9 {n va vb:Nat}(hn:n≤2) (h0:n<1→va=0) (hb:n<2→vb=0) (x:Nat):Gv x (([va,vb]:List Nat).take n)=(x,va,vb):=by
 match n,hn,h0,hb with
 | 0,_,h0,hb=> rw[h0 (ag),hb (ag)];all_goals rfl
 | 1,_,_,hb=> rw[hb (ag)];all_goals rfl
 | 2,_,_,_=> rfl
theorem BF {G:cK}{H:cG}{s:SV}{xs:List Nat} [hg:Glb G H] [hi:Isa H] [hs:Sl H s eB xs] (hn:xs.length≤100000000) (hb:∀x∈xs,x<256):SC G Tryz.prog 16 [s.val] H (fun v H'=> (lq xs.length xs=none∧v= .tuple #[.slice none 0 0,G.err 20]∧H'=H)∨(∃(s':SV) (l:List Ins),lq xs.length xs=some l∧v= .tuple #[s'.val, .nilIface]∧H'=Row s' oE l::H)):=by
 refine sWk Tryz.func16 Tryz.ntmps16 ?_
 refine go ?_
 refine c1_ rfl (iS (xs:=xs) (aa)) (k:=?_)
 rintro _ _ ⟨br,rfl,rfl⟩
 refine du (cJ.nilRow (e:=oE) cJ.refl) ?_
 refine gk (k:=dt (Nat×Nat×SV×(List Ins)) (fun y=> y.1≤xs.length∧xs.length - y.1≤y.2.1∧lq xs.length xs=vE y.2.2.2 (lq y.2.1 (xs.drop y.1))∧y.2.2.2.length≤y.1) (fun y=> [(4,y.2.2.1.val)]) [(5,_)] (fun y=> [Row y.2.2.1 oE y.2.2.2,Rd br (xs,y.1)]) _ (fun y=> xs.length - y.1) ((0,xs.length,SV.nil, [])) (h0:=?_) (k:=?_))
 ·try dsimp only
  exact⟨Yl _,aa,by rw[List.drop_zero];cases lq xs.length xs <;> simp[vE],Yl _⟩
 rintro⟨k,f,u,out⟩ ⟨hk,hf,hdec,hol⟩
 try dsimp only[Yd,Ye]at*
 refine go ?_
 refine d1_ rfl (BD (aa) (aa)) (k:=gk (k:=wi_ (k:=fun h1=>?_) (m:=fun h1=>?_)))
 ·obtain⟨x,hx⟩:∃x,xs[k]? =some x:=⟨_,Yi (az)⟩
  have hxb:=hb x (Yj hx)
  have hdk:xs.drop k=x::xs.drop (k+1):=dF hx
  have hkl:=(Yk.1 hx).1
  obtain⟨f,rfl⟩:∃g,f=g+1:=⟨f - 1,aa⟩
  rw[hdk]at hdec
  refine go ?_
  refine d1_ rfl (BG hx (aa)) (k:=e_ mv (k:=e_ exr (k:=e_ exr (k:=e_ asn (k:=e_ asn (k:=on_ (qn_ (ws_ (wr_ (e_ mv (k:=?_)))))))))))
  refine e_ (dy rfl (aa)) (k:=?_)
  refine e_ (bld [(0,_)]) (k:=alc (k:=fun b8=>?_))
  refine go ?_
  refine c1_ rfl (O7 (op:=x)) (k:=?_)
  rintro _ _ ⟨(⟨n,hn1,hn2,rfl⟩|⟨hno,rfl⟩),rfl⟩
  ·refine go ?_
   refine eg (k:=go ?_)
   refine s_ (dC ePt [(b8,1),(b8,2)] (bQ) rfl (ay)) (k:=?_)
   rintro _ _ ⟨s41,rfl,rfl⟩
   refine gk (k:=dt (Nat×Nat×Nat×Nat) (fun y=> (y.1=0∨y.1=1∨y.1=2)∧y.1≤n∧k+1≤y.2.1∧y.2.1≤xs.length∧y.2.2.1<18446744073709551616∧y.2.2.2<18446744073709551616∧(y.1<1→y.2.2.1=0)∧(y.1<2→y.2.2.2=0)∧n6 n (xs.drop (k+1))=rL (([y.2.2.1,y.2.2.2]:List Nat).take y.1) (n6 (n - y.1) (xs.drop y.2.1))) (fun y=> [(43, .int .i64 ((y.1:Nat):Int))]) [(4,_),(5,_),(8,_),(9,_),(41,_),(42,_)] (fun y=> [Rd br (xs,y.2.1),Vr b8 [.int .i64 ((x:Nat):Int), .int .u64 ((y.2.2.1:Nat):Int), .int .u64 ((y.2.2.2:Nat):Int)]]) _ (fun y=> 2 - y.1) ((0,k+1,0,0)) (h0:=?_) (k:=?_))
   ·try dsimp only
    exact⟨.inl rfl,Yl _,Nat.le_refl _,aa,ag,ag,fun _=> rfl,fun _=> rfl,by cases n6 n (xs.drop (k+1)) <;> simp[rL]⟩
   rintro⟨j,kk,va,vb⟩ ⟨hj,hjn,hkk,hkx,hva,hvb,hz1,hz2,harg⟩
   try dsimp only[Yd,Ye]at*
   have hpl:([(b8,1),(b8,2)]:List (Nat×Nat)).length=2:=rfl
   refine gk (k:=wi_ (k:=fun h2=>?_) (m:=fun h2=>?_))
   ·have hj1:j=0∨j=1:=by have h9:=h2;omega
    have hpj:([(b8,1),(b8,2)]:List (Nat×Nat))[j]? =some (b8,j+1):=by rcases hj1 with rfl|rfl <;> rfl
    haveI hspl:∀v:Nat,Spl [.int .i64 ((x:Nat):Int), .int .u64 ((va:Nat):Int), .int .u64 ((vb:Nat):Int)] (j+1) [.int .u64 ((v:Nat):Int)] [.int .i64 ((x:Nat):Int), .int .u64 (((if j=0 then v else va):Nat):Int), .int .u64 (((if j=0 then vb else v):Nat):Int)]:=fun v=> by
     rcases hj1 with rfl|rfl
     ·exact oC (an) rfl
     ·exact oC (an) rfl
    refine go ?_
    refine gk (k:=wi_ (k:=fun h3=>?_) (m:=fun h3=>?_))
    ·have hjn2:j=n:=by have h9:=h3;omega
     have hfin:n6 n (xs.drop (k+1))=some (([va,vb]:List Nat).take n,xs.drop kk):=by rw[harg,hjn2,Nat.sub_self];simp[n6,rL]
     rw[Cu hn1 hfin,L9 hn2 (aa) (aa),tZ]at hdec
     refine gk (k:=bm_ (k:=gk (k:=gz oE (k:=fun s65=>?_))))
     refine app (k:=fun s66=>?_)
     refine go ?_
     refine ln_ ((kk,f,s66,out++ [(x,va,vb)])) (k:=?_)
     try dsimp only
     exact⟨hkx,aa,hdec,bY⟩
    have hjl:j<n:=cj
    refine go ?_
    refine c1_ rfl (lN hkx (aa) hb) (k:=?_)
    rintro _ _ (⟨e,he,rfl,rfl⟩|⟨v,m,he,rfl,rfl⟩)
    ·rw[HE he hjl]at harg
     rw[DN hn1 harg]at hdec
     refine e_ mv (k:=e_ exr (k:=e_ exr (k:=e_ asn (k:=e_ asn (k:=on_ (qn_ (ws_ (ws_ (wr_ (e_ mv (k:=?_)))))))))))
     refine e_ (cZ rfl) (k:=?_)
     refine gk (k:=ift (k:=go ?_))
     refine cX cI (as_ 0 (q:=ldv) (k:=as_ 1 (q:=asn) (k:=as_ 2 (q:=asn) (k:=az_ (k:=go ?_)))))
     refine gk (k:=rt_ Tryz.results16 (k:=?_))
     exact⟨_,hsb, .inl ⟨hdec,rfl,rfl⟩⟩
    obtain⟨q1,q2,q3,q4,q5,q6⟩:=j5 _ 0 v m (fun y hy=> hb y (Yp hy)) (aa) he
    rw[Yo]at q4
    rw[DY he hjl,List.drop_drop]at harg
    refine e_ mv (k:=e_ exr (k:=e_ exr (k:=e_ asn (k:=e_ asn (k:=on_ (qn_ (ws_ (ws_ (wr_ (e_ mv (k:=?_)))))))))))
    refine e_ (cM rfl) (k:=?_)
    refine gk (k:=eg (k:=go ?_))
    refine go ?_
    refine ln_ ((j+1,kk+m,(if j=0 then v else va),(if j=0 then vb else v))) (k:=?_)
    try dsimp only
    rcases hj1 with rfl|rfl
    ·exact⟨.inr (.inl rfl),hjl,aa,aa,by simpa using (by omega:v<18446744073709551616),by simpa using hvb,aa,fun _=> by simpa using hz2 (ag),by simpa using harg⟩
    ·exact⟨.inr (.inr rfl),hjl,aa,aa,by simpa using hva,by simpa using (by omega:v<18446744073709551616),aa,aa,by simpa using harg⟩
   have hj2:j=2∧n=2:=aQ
   have hfin:n6 n (xs.drop (k+1))=some (([va,vb]:List Nat).take n,xs.drop kk):=by rw[harg,hj2.1,hj2.2];simp[n6,rL]
   rw[Cu hn1 hfin,L9 hn2 (aa) (aa),tZ]at hdec
   refine gk (k:=gz oE (k:=fun s65=>?_))
   refine app (k:=fun s66=>?_)
   refine go ?_
   refine ln_ ((kk,f,s66,out++ [(x,va,vb)])) (k:=?_)
   try dsimp only
   exact⟨hkx,aa,hdec,bY⟩
  rw[DO hno]at hdec
  refine go ?_
  refine ift (k:=go ?_)
  refine cX cI (as_ 0 (q:=ldv) (k:=as_ 1 (q:=asn) (k:=as_ 2 (q:=asn) (k:=az_ (k:=gk (k:=rt_ Tryz.results16 (k:=?_)))))))
  exact⟨_,hsb, .inl ⟨hdec,rfl,rfl⟩⟩
 have hke:k=xs.length:=az
 rw[hke,List.drop_length,Hu]at hdec
 have hdec2:lq xs.length xs=some out:=by rw[hdec];simp[vE]
 refine gk (k:=rt_ Tryz.results16 (k:=?_))
 exact⟨_,hsb, .inr ⟨u,out,hdec2,rfl,rfl⟩⟩
theorem xJ {G:cK}{H:cG}{x n:Int}:SC G Tryz.prog 162 [.int .i64 x, .int .i64 n] H (fun v H'=> v= .bool (decide (0≤x) && decide (x<n))∧H'=H):=by
 refine sWk Tryz.func162 Tryz.ntmps162 ?_
 refine gk (k:=dh 4 11 (k:=fun h1=>gk (k:=edq)) (q:=go ?_))
 refine gk (k:=rt_ Tryz.results162 (k:=?_))
 exact⟨_,hsb,rfl,rfl⟩
theorem Lo {op A B h:Nat}(h1:1≤op) (h2:op≤5):iW (op,A,B) h=some (h+1):=by
 match op,h1,h2 with
 | 1,_,_=> rfl
 | 2,_,_=> rfl
 | 3,_,_=> rfl
 | 4,_,_=> rfl
 | 5,_,_=> rfl
theorem Hk {op A B h:Nat}(h1:6≤op) (h2:op≤10):iW (op,A,B) h=if 2≤h then some (h - 1)else none:=by
 match op,h1,h2 with
 | 6,_,_=> rfl
 | 7,_,_=> rfl
 | 8,_,_=> rfl
 | 9,_,_=> rfl
 | 10,_,_=> rfl
theorem P5 {op A B h:Nat}(h1:¬op=0) (h2:¬(1≤op∧op≤10)) (h3:¬op=14):iW (op,A,B) h=if 1≤h then some h else none:=by
 match op,h1,h2,h3 with
 | 0,h1,_,_=> exact absurd rfl h1
 | 1,_,h2,_=> exact absurd (ag) h2
 | 2,_,h2,_=> exact absurd (ag) h2
 | 3,_,h2,_=> exact absurd (ag) h2
 | 4,_,h2,_=> exact absurd (ag) h2
 | 5,_,h2,_=> exact absurd (ag) h2
 | 6,_,h2,_=> exact absurd (ag) h2
 | 7,_,h2,_=> exact absurd (ag) h2
 | 8,_,h2,_=> exact absurd (ag) h2
 | 9,_,h2,_=> exact absurd (ag) h2
 | 10,_,h2,_=> exact absurd (ag) h2
 | 11,_,_,_=> rfl
 | 12,_,_,_=> rfl
 | 13,_,_,_=> rfl
 | 14,_,_,h3=> exact absurd rfl h3
 |n+15,_,_,_=> rfl
def NL (x:Ins) (h:Nat) (v:Value):Prop:=(∃h':Nat,iW x h=some h'∧v= .tuple #[.int .i64 ((h':Nat):Int), .bool true])∨(iW x h=none∧∃k:Int,v= .tuple #[.int .i64 k, .bool false])
theorem B7 {x:Ins}{h r:Nat}{b:Bool}{k:Int}{p:Prop} [Decidable p] (h1:iW x h=if p then some r else none) (h2:b=decide p) (h3:p→k=((r:Nat):Int)):NL x h (.tuple #[.int .i64 k, .bool b]):=by
 by_cases hp:p
 ·left;exact⟨r,by rw[h1,if_pos hp],by rw[h2,h3 hp,Ys hp]⟩
 ·right;exact⟨by rw[h1,if_neg hp],k,by rw[h2,Yr hp]⟩
theorem IF {G:cK}{H:cG}{op A B h:Nat}(hh:h≤1000000000) (hA:A<18446744073709551616):SC G Tryz.prog 127 [.agg [.int .i64 ((op:Nat):Int), .int .u64 ((A:Nat):Int), .int .u64 ((B:Nat):Int)].toArray, .int .i64 ((h:Nat):Int)] H (fun v H'=> NL (op,A,B) h v∧H'=H):=by
 refine sWk Tryz.func127 Tryz.ntmps127 ?_
 refine gk (k:=bxx (k:=fun b2=>?_))
 refine e_ asn (k:=e_ asn (k:=on_ (qn_ (ws_ (ws_ (wr_ (e_ fla (k:=e_ ldv (k:=on_ (qn_ (wb_ (mf [(8, .bool (decide (1≤op∧op≤5)))] [8,9,10,11,12,13] ?_ ?_))))))))))))
 ·refine gk (k:=wi_ (k:=fun h1=>?_) (m:=fun h1=>?_))
  ·refine gk (k:=jne (hs:=.cons (by first|exact rfl|exact jb (by refine bq ?_;simp;omega)) (.nil)))
  refine gk (k:=wi_ (k:=fun h2=>?_) (m:=fun h2=>?_))
  ·refine gk (k:=jne (hs:=.cons (by first|exact rfl|exact jb (by refine bq ?_;simp;omega)) (.nil)))
  refine gk (k:=wi_ (k:=fun h3=>?_) (m:=fun h3=>?_))
  ·refine gk (k:=jne (hs:=.cons (by first|exact rfl|exact jb (by refine bq ?_;simp;omega)) (.nil)))
  refine gk (k:=wi_ (k:=fun h4=>?_) (m:=fun h4=>?_))
  ·refine gk (k:=jne (hs:=.cons (by first|exact rfl|exact jb (by refine bq ?_;simp;omega)) (.nil)))
  refine gk (k:=jne (hs:=.cons (by first|exact rfl|exact jb (by refine bq ?_;simp;omega)) (.nil)))
 refine wi_ (k:=fun h5=>?_) (m:=fun h5=>?_)
 ·have ho:1≤op∧op≤5:=h5
  refine gk (k:=rt_ Tryz.results127 (k:=?_))
  exact⟨_,hsb, .inl ⟨h+1,Lo ho.1 ho.2,rfl⟩,rfl⟩
 have ho:¬(1≤op∧op≤5):=h5
 refine mf [(16, .bool (decide (6≤op∧op≤10)))] [16,17,18,19,20,21] ?_ ?_
 ·refine gk (k:=wi_ (k:=fun h6=>?_) (m:=fun h6=>?_))
  ·refine gk (k:=jne (hs:=.cons (by first|exact rfl|exact jb (by refine bq ?_;simp;omega)) (.nil)))
  refine gk (k:=wi_ (k:=fun h7=>?_) (m:=fun h7=>?_))
  ·refine gk (k:=jne (hs:=.cons (by first|exact rfl|exact jb (by refine bq ?_;simp;omega)) (.nil)))
  refine gk (k:=wi_ (k:=fun h8=>?_) (m:=fun h8=>?_))
  ·refine gk (k:=jne (hs:=.cons (by first|exact rfl|exact jb (by refine bq ?_;simp;omega)) (.nil)))
  refine gk (k:=wi_ (k:=fun h9=>?_) (m:=fun h9=>?_))
  ·refine gk (k:=jne (hs:=.cons (by first|exact rfl|exact jb (by refine bq ?_;simp;omega)) (.nil)))
  refine gk (k:=jne (hs:=.cons (by first|exact rfl|exact jb (by refine bq ?_;simp;omega)) (.nil)))
 refine wi_ (k:=fun h10=>?_) (m:=fun h10=>?_)
 ·have ho2:6≤op∧op≤10:=h10
  refine gk (k:=rt_ Tryz.results127 (k:=?_))
  exact⟨_,hsb,B7 (Hk ho2.1 ho2.2) (decide_eq_decide.2 (aa)) (fun _=> aa),rfl⟩
 have ho2:¬(6≤op∧op≤10):=h10
 refine gk (k:=wi_ (k:=fun h11=>?_) (m:=fun h11=>?_))
 ·have ho3:op=14:=by have h9:=h11;omega
  subst ho3
  refine ws_ (ws_ (wr_ (e_ mv (k:=?_))))
  refine e_ (cU 18446744073709551616 rfl rfl rfl h rfl (aa)) (k:=?_)
  refine gk (k:=wi_ (k:=fun h12=>?_) (m:=fun h12=>?_))
  ·refine gk (k:=rt_ Tryz.results127 (k:=?_))
   exact⟨_,hsb, .inr ⟨by show(if h<A then none else some (h - A+1))=none;rw[if_pos (aa)],0,rfl⟩,rfl⟩
  refine wk_ (qn_ (ws_ (wr_ (e_ mv (k:=e_ fla (k:=e_ ldv (k:=?_)))))))
  refine e_ (dy rfl (aa)) (k:=?_)
  refine gk (k:=rt_ Tryz.results127 (k:=?_))
  exact⟨_,hsb, .inl ⟨h - A+1,by show(if h<A then none else some (h - A+1))=_;rw[if_neg (aa)],congrArg (fun k:Int=> Value.tuple #[.int .i64 k, .bool true]) (aa)⟩,rfl⟩
 have ho3:¬op=14:=by have h9:=h11;omega
 refine gk (k:=wi_ (k:=fun h13=>?_) (m:=fun h13=>?_))
 ·have ho4:op=0:=by have h9:=h13;omega
  subst ho4
  refine gk (k:=rt_ Tryz.results127 (k:=?_))
  exact⟨_,hsb,B7 (p:=h=1) rfl (decide_eq_decide.2 (aa)) (fun _=> rfl),rfl⟩
 have ho4:¬op=0:=by have h9:=h13;omega
 refine gk (k:=rt_ Tryz.results127 (k:=?_))
 exact⟨_,hsb,B7 (P5 ho4 (aa) ho3) (decide_eq_decide.2 (aa)) (fun _=> rfl),rfl⟩
theorem ME {p:PrG}{op A B:Nat}(h1:¬op=3) (h2:¬op=4) (h3:¬op=5) (h4:¬op=14):p9 p (op,A,B)=true:=by
 unfold p9
 split
 ·rename_i h;exact absurd h h1
 ·rename_i h;exact absurd h h2
 ·rename_i h;exact absurd h h3
 ·rename_i h;exact absurd h h4
 ·rfl
theorem CS {G:cK}{H:cG}{a:PrA}{p:PrG}{all:Bool}{op A B:Nat} [hp:gE H a p] (hA:A<18446744073709551616) (hB:B<18446744073709551616) (hl:p.avgs.length≤1000000000∧p.curs.length≤1000000000∧p.nears.length≤1000000000):SC G Tryz.prog 128 [.agg (prV a all).toArray, .agg [.int .i64 ((op:Nat):Int), .int .u64 ((A:Nat):Int), .int .u64 ((B:Nat):Int)].toArray] H (fun v H'=> v= .bool (p9 p (op,A,B))∧H'=H):=by
 obtain⟨hl1,hl2,hl3⟩:=hl
 have hnl:=hp.nr.1
 refine sWk Tryz.func128 Tryz.ntmps128 ?_
 refine gk (k:=bxx (k:=fun b2=>?_))
 refine bxx (k:=fun b3=>?_)
 refine go ?_
 refine gk (k:=wi_ (k:=fun h1=>?_) (m:=fun h1=>?_))
 ·have ho:op=3:=by have h9:=h1;omega
  subst ho
  refine ws_ (wr_ (e_ fla (k:=e_ ldv (k:=e_ fla (k:=e_ ldv (k:=e_ lnn (k:=?_)))))))
  refine e_ (cU 18446744073709551616 rfl rfl rfl p.avgs.length rfl (aa)) (k:=?_)
  refine gk (k:=rt_ Tryz.results128 (k:=?_))
  exact⟨_,hsb,congrArg Value.bool (decide_eq_decide.2 (show _↔A<p.avgs.length from aa)),rfl⟩
 have ho1:¬op=3:=az
 refine gk (k:=wi_ (k:=fun h2=>?_) (m:=fun h2=>?_))
 ·have ho:op=4:=by have h9:=h2;omega
  subst ho
  refine ws_ (wr_ (e_ fla (k:=e_ ldv (k:=e_ fla (k:=e_ ldv (k:=e_ lnn (k:=?_)))))))
  refine e_ (cU 18446744073709551616 rfl rfl rfl p.curs.length rfl (aa)) (k:=?_)
  refine gk (k:=rt_ Tryz.results128 (k:=?_))
  exact⟨_,hsb,congrArg Value.bool (decide_eq_decide.2 (show _↔A<p.curs.length from aa)),rfl⟩
 have ho2:¬op=4:=aQ
 refine gk (k:=wi_ (k:=fun h3=>?_) (m:=fun h3=>?_))
 ·have ho:op=5:=by have h9:=h3;omega
  subst ho
  refine ws_ (wr_ (e_ fla (k:=e_ ldv (k:=e_ fla (k:=e_ ldv (k:=e_ lnn (k:=?_)))))))
  refine e_ (cU 18446744073709551616 rfl rfl rfl a.nz.length rfl (aa)) (k:=?_)
  refine gk (k:=rt_ Tryz.results128 (k:=?_))
  exact⟨_,hsb,congrArg Value.bool (decide_eq_decide.2 (show _↔A<p.nears.length from aa)),rfl⟩
 have ho3:¬op=5:=cj
 refine gk (k:=wi_ (k:=fun h4=>?_) (m:=fun h4=>?_))
 ·have ho:op=14:=by have h9:=h4;omega
  subst ho
  refine gk (k:=dh 4 43 (k:=fun h5=>gk (k:=edq)) (q:=gk (k:=dh 6 50 (k:=fun h6=>gk (k:=edq)) (q:=go ?_))))
  refine gk (k:=rt_ Tryz.results128 (k:=?_))
  exact⟨_,hsb,congrArg Value.bool (bq (by show _↔(decide (1≤A) && decide (1≤B) && decide (B≤A))=true;simp;omega)),rfl⟩
 have ho4:¬op=14:=by have h9:=h4;omega
 refine gk (k:=rt_ Tryz.results128 (k:=?_))
 exact⟨_,hsb,by rw[ME ho1 ho2 ho3 ho4];all_goals rfl,rfl⟩
theorem nU {x:Int}{n:Nat}(h:0≤x∧x<(n:Int)):eh x n=true:=by simp[eh,h.1,h.2]
theorem nV {x:Int}{n:Nat}(h:¬(0≤x∧x<(n:Int))):eh x n=false:=by
 unfold eh
 by_cases h1:0≤x
 ·rw[Yr (fun h2:x<(n:Int)=> h ⟨h1,h2⟩),Bool.and_false]
 ·rw[Yr h1,Bool.false_and]
def vH (p:PrG) (k:Int):Int:=match p.curs[k.toNat]? with
 |some x=> x.1
 |none=> 0
theorem Av {p:PrG}{n:jT}{k o:Int}{r os:List Int}:rI p n (k::r) (o::os)=(eh k p.curs.length && eh o 2147483647 && decide (vH p k=vH p (n.cs.headD 0)) && rI p n r os):=rfl
theorem NW {G:cK}{H:cG}{a:PrA}{p:PrG}{all:Bool}{cs os:SV}{n:jT} [hp:gE H a p] [hc:Sl H cs eI n.cs] [ho:Sl H os eI n.offs] (hnl:n.cs.length≤1000000000):SC G Tryz.prog 163 [.agg (prV a all).toArray, .agg [cs.val,os.val, .int .i64 n.slop].toArray] H (fun v H'=> v= .bool (gl p n)∧H'=H):=by
 refine sWk Tryz.func163 Tryz.ntmps163 ?_
 refine gk (k:=bxx (k:=fun b2=>?_))
 refine bxx (k:=fun b3=>?_)
 refine gk (k:=dN 8 19 (k:=fun h1=>gk (k:=edq)) (q:=gk (k:=dN 5 25 (k:=fun h2=>gk (k:=kK (vs:=[_,_]) (hc:=(xJ)) (k:=eg_ k8 (k:=e_ pkf (k:=on_ (edq)))))) (q:=?_))))
 refine gk (k:=wi_ (k:=fun h3=>?_) (m:=fun h3=>?_))
 ·have hno:gl p n=false:=by
   have h9:=h3
   unfold gl
   by_cases c1:1≤n.cs.length
   ·by_cases c2:n.offs.length=n.cs.length
    ·rw[nV (aa)];simp
    ·rw[Yr c2];simp
   ·rw[Yr c1];simp
  refine gk (k:=rt_ Tryz.results163 (k:=?_))
  exact⟨_,hsb,by rw[hno];all_goals rfl,rfl⟩
 have hg1:1≤n.cs.length∧n.offs.length=n.cs.length∧0≤n.slop∧n.slop<2147483647:=cj
 obtain⟨hg1,hg2,hg3⟩:=hg1
 have hnr:gl p n=rI p n n.cs n.offs:=by unfold gl;rw[Ys hg1,Ys hg2,nU (aa)];simp
 obtain⟨c0,hc0⟩:∃c0,n.cs[0]? =some c0:=⟨_,Yi (aa)⟩
 have hhd:n.cs.headD 0=c0:=by rw[List.headD_eq_head?_getD,List.head?_eq_getElem?,hc0];all_goals rfl
 refine gk (k:=dt (Nat) (fun y=> y≤n.cs.length∧gl p n=rI p n (n.cs.drop y) (n.offs.drop y)∧(0<y→0≤c0∧c0<(p.curs.length:Int))) (fun y=> [(29, .int .i64 ((y:Nat):Int))]) [(2,_),(3,_),(27,_),(28,_)] (fun y=> []) _ (fun y=> n.cs.length - y) (0) (h0:=?_) (k:=?_))
 ·try dsimp only
  exact⟨Yl _,by rw[hnr];all_goals rfl,aa⟩
 rintro i ⟨hi,hrec,hin0⟩
 try dsimp only[Yd,Ye]at*
 refine gk (k:=wi_ (k:=fun h4=>?_) (m:=fun h4=>?_))
 ·obtain⟨k,hk⟩:∃k,n.cs[i]? =some k:=⟨_,Yi (aa)⟩
  obtain⟨o,hko⟩:∃o,n.offs[i]? =some o:=⟨_,Yi (aa)⟩
  rw[dF hk,dF hko,Av,hhd]at hrec
  refine wk_ (qn_ (ws_ (wb_ (ws_ (wr_ (e_ mv (k:=e_ ixa (k:=e_ lel (k:=e_ asn (k:=e_ asn (k:=on_ (qn_ (ws_ (?_))))))))))))))
  refine ws_ (wr_ (e_ mv (k:=e_ fla (k:=e_ ldv (k:=e_ lnn (k:=?_))))))
  refine d2_ rfl (xJ) (k:=e_ k8 (k:=e_ mv (k:=dN 8 48 (k:=fun h5=>eg_ fla (k:=eg_ ldv (k:=eg_ mv (k:=eg_ ixa (k:=eg_ (lel (hy:=hko)) (k:=kK (vs:=[_,_]) (hc:=(xJ)) (k:=eg_ k8 (k:=e_ pkf (k:=on_ (edq)))))))))) (q:=on_ (qn_ (wi_ (k:=fun h6=>?_) (m:=fun h6=>?_)))))))
  ·have hno:gl p n=false:=by
    have h9:=h6
    rw[hrec]
    by_cases c1:0≤k∧k<(p.curs.length:Int)
    ·rw[nV (x:=o) (aa)];simp
    ·rw[nV c1];simp
   refine gk (k:=rt_ Tryz.results163 (k:=?_))
   exact⟨_,hsb,by rw[hno];all_goals rfl,rfl⟩
  have hin:(0≤k∧k<(p.curs.length:Int))∧0≤o∧o<2147483647:=by have h9:=h6;omega
  have hin00:0≤c0∧c0<(p.curs.length:Int):=by
   rcases Nat.eq_zero_or_pos i with rfl|hi0
   ·rw[hk]at hc0;cases hc0;exact hin.1
   ·exact hin0 hi0
  rw[nU hin.1,nU hin.2]at hrec
  obtain⟨x,hx⟩:∃x,p.curs[k.toNat]? =some x:=⟨_,Yi (aa)⟩
  obtain⟨y,hy⟩:∃y,p.curs[c0.toNat]? =some y:=⟨_,Yi (aa)⟩
  have hfx:vH p k=x.1:=by unfold vH;rw[hx]
  have hfy:vH p c0=y.1:=by unfold vH;rw[hy]
  have hkn:k=((k.toNat:Nat):Int):=aa
  have hcn:c0=((c0.toNat:Nat):Int):=aa
  refine go ?_
  refine cX cI (as_ 0 (q:=fla) (k:=as_ 1 (q:=ldv) (k:=as_ 2 (q:=mv) (k:=as_ 3 (q:=ixa (i:=k.toNat) (hj:=hkn)) (k:=as_ 4 (q:=fle) (k:=as_ 5 (q:=lfl (hy:=hx)) (k:=as_ 6 (q:=fla) (k:=as_ 7 (q:=ldv) (k:=as_ 8 (q:=fla) (k:=as_ 9 (q:=ldv) (k:=as_ 10 (q:=ixa (i:=0)) (k:=as_ 11 (q:=lel (hy:=hc0)) (k:=as_ 12 (q:=ixa (i:=c0.toNat) (hj:=hcn)) (k:=?_))))))))))))))
  refine as_ 13 (q:=fle) (k:=as_ 14 (q:=lfl (hy:=hy)) (k:=as_ 15 (q:=ine) (k:=az_ (k:=gk (k:=wi_ (k:=fun h7=>?_) (m:=fun h7=>?_))))))
  ·have hno:gl p n=false:=by
    have h9:=h7
    rw[hrec,hfx,hfy,Yr h9];simp
   refine gk (k:=rt_ Tryz.results163 (k:=?_))
   exact⟨_,hsb,by rw[hno];all_goals rfl,rfl⟩
  have heq:x.1=y.1:=h7
  rw[hfx,hfy,Ys heq,Bool.and_true,Bool.true_and]at hrec
  refine go ?_
  refine ln_ (i+1) (k:=?_)
  try dsimp only
  exact⟨aa,by simpa using hrec,fun _=> hin00⟩
 obtain rfl:i=n.cs.length:=aa
 rw[List.drop_length]at hrec
 refine gk (k:=rt_ Tryz.results163 (k:=?_))
 exact⟨_,hsb,by rw[hrec];all_goals rfl,rfl⟩
structure HS (p:PrG):Prop where
 a:p.avgs.length≤1000000000
 c:p.curs.length≤1000000000
 n:p.nears.length≤1000000000
 d:p.drive.length≤1000000000
 k:p.code.length≤100000000
 ns:∀n∈p.nears,n.cs.length≤1000000000
 ct:∀c∈p.curs,c.2.size≤1000000000
 cb:∀x∈p.code,x<256
theorem all_drop {α:Type}{f:α→Bool}{l:List α}{i:Nat}{x:α}(h:l[i]? =some x):(l.drop i).all f=(f x && (l.drop (i+1)).all f):=by rw[dF h,List.all_cons]
theorem uo {p:PrG}{b:Option Int}{k:Int}{r:List Int}:jx p b (k::r)=(eh k p.curs.length && (match b with|none=> true|some x=> decide (x<k)) && jx p (some k) r):=rfl
def yh (l:List Int) (i:Nat):Option Int:=if i=0 then none else l[i - 1]?
theorem Ir {G:cK}{H:cG}{a:PrA}{p:PrG} [hp:gE H a p] (hs:HS p):SC G Tryz.prog 125 [.agg (prV a p.all).toArray] H (fun v H'=> v= .bool (ie p)∧H'=H):=by
 have hs1:=hs.a
 have hs2:=hs.c
 have hs3:=hs.n
 have hs4:=hs.d
 have hnl:=hp.nr.1
 have hdef:ie p=(decide (1≤p.avgs.length) && decide (p.avgs.length≤16) && p.avgs.all (fun a=> decide (0≤a)) && p.curs.all (fun c=> eh c.1 p.avgs.length && decide (c.2.size≤64)) && p.nears.all (gl p) && !(p.all && decide (0<p.drive.length)) && jx p none p.drive):=rfl
 refine sWk Tryz.func125 Tryz.ntmps125 ?_
 refine gk (k:=bxx (k:=fun b1=>?_))
 refine gk (k:=dN 5 20 (k:=fun h1=>gk (k:=edq)) (q:=go ?_))
 refine wi_ (k:=fun h2=>?_) (m:=fun h2=>?_)
 ·have hno:ie p=false:=by
   have h9:=h2
   rw[hdef]
   by_cases c1:1≤p.avgs.length
   ·rw[Yr (p:=p.avgs.length≤16) (aa)];simp
   ·rw[Yr c1];simp
  refine gk (k:=rt_ Tryz.results125 (k:=?_))
  exact⟨_,hsb,by rw[hno];all_goals rfl,rfl⟩
 have hg1:1≤p.avgs.length∧p.avgs.length≤16:=aQ
 rw[Ys hg1.1,Ys hg1.2,Bool.true_and,Bool.true_and]at hdef
 refine gk (k:=dt (Nat) (fun y=> y≤p.avgs.length∧p.avgs.all (fun a=> decide (0≤a))=(p.avgs.drop y).all (fun a=> decide (0≤a))) (fun y=> [(24, .int .i64 ((y:Nat):Int))]) [(1,_),(22,_),(23,_)] (fun y=> []) _ (fun y=> p.avgs.length - y) (0) (h0:=?_) (k:=?_))
 ·try dsimp only
  exact⟨Yl _,by rw[List.drop_zero]⟩
 rintro i ⟨hi,hal⟩
 try dsimp only[Yd,Ye]at*
 refine gk (k:=wi_ (k:=fun h3=>?_) (m:=fun h3=>?_))
 ·obtain⟨x,hx⟩:∃x,p.avgs[i]? =some x:=⟨_,Yi (aa)⟩
  rw[all_drop hx]at hal
  refine go ?_
  refine gk (k:=wi_ (k:=fun h4=>?_) (m:=fun h4=>?_))
  ·rw[Yr (by have h9:=h4;omega:¬0≤x),Bool.false_and]at hal
   rw[hal]at hdef
   refine gk (k:=rt_ Tryz.results125 (k:=?_))
   exact⟨_,hsb,by rw[hdef];all_goals rfl,rfl⟩
  rw[Ys (by have h9:=h4;omega:0≤x),Bool.true_and]at hal
  refine go ?_
  refine ln_ (i+1) (k:=?_)
  try dsimp only
  exact⟨aa,hal⟩
 obtain rfl:i=p.avgs.length:=aa
 rw[List.drop_length,List.all_nil]at hal
 rw[hal,Bool.true_and]at hdef
 refine go ?_
 refine gk (k:=dt (Nat) (fun y=> y≤p.curs.length∧p.curs.all (fun c=> eh c.1 p.avgs.length && decide (c.2.size≤64))=(p.curs.drop y).all (fun c=> eh c.1 p.avgs.length && decide (c.2.size≤64))) (fun y=> [(34, .int .i64 ((y:Nat):Int))]) [(1,_),(32,_),(33,_)] (fun y=> []) _ (fun y=> p.curs.length - y) (0) (h0:=?_) (k:=?_))
 ·try dsimp only
  exact⟨Yl _,by rw[List.drop_zero]⟩
 rintro j ⟨hj,hbl⟩
 try dsimp only[Yd,Ye]at*
 refine gk (k:=wi_ (k:=fun h5=>?_) (m:=fun h5=>?_))
 ·obtain⟨x,hx⟩:∃x,p.curs[j]? =some x:=⟨_,Yi (aa)⟩
  have hxs:=hs.ct x (Yj hx)
  rw[all_drop hx]at hbl
  refine wk_ (qn_ (ws_ (wb_ (ws_ (wr_ (e_ ixa (k:=e_ (jn (hy:=hx)) (k:=alc (k:=fun b6=>?_)))))))))
  refine go ?_
  refine d2_ rfl (xJ) (k:=gk (k:=dN 5 50 (k:=fun h6=>gk (k:=edq)) (q:=gk (k:=wi_ (k:=fun h7=>?_) (m:=fun h7=>?_)))))
  ·have hno:(eh x.1 p.avgs.length && decide (x.2.size≤64))=false:=by
    have h9:=h7
    by_cases c1:0≤x.1∧x.1<(p.avgs.length:Int)
    ·rw[Yr (aa),Bool.and_false]
    ·rw[nV c1,Bool.false_and]
   rw[hno,Bool.false_and]at hbl
   rw[hbl]at hdef
   refine gk (k:=rt_ Tryz.results125 (k:=?_))
   exact⟨_,hsb,by rw[hdef];all_goals rfl,rfl⟩
  have hyes:(eh x.1 p.avgs.length && decide (x.2.size≤64))=true:=by
   have h9:=h7
   rw[nU (aa),Ys (aa)];all_goals rfl
  rw[hyes,Bool.true_and]at hbl
  refine go ?_
  refine ln_ (j+1) (k:=?_)
  try dsimp only
  exact⟨aa,hbl⟩
 obtain rfl:j=p.curs.length:=aa
 rw[List.drop_length,List.all_nil]at hbl
 rw[hbl,Bool.true_and]at hdef
 refine go ?_
 refine gk (k:=dt (Nat) (fun y=> y≤p.nears.length∧p.nears.all (gl p)=(p.nears.drop y).all (gl p)) (fun y=> [(55, .int .i64 ((y:Nat):Int))]) [(1,_),(53,_),(54,_)] (fun y=> []) _ (fun y=> p.nears.length - y) (0) (h0:=?_) (k:=?_))
 ·try dsimp only
  exact⟨Yl _,by rw[List.drop_zero]⟩
 rintro k ⟨hk,hcl⟩
 try dsimp only[Yd,Ye]at*
 refine gk (k:=wi_ (k:=fun h8=>?_) (m:=fun h8=>?_))
 ·obtain⟨z,n,hz,hn,hz1,hz2,hz3⟩:=hp.nr.get (i:=k) (aa)
  have hnn:=hs.ns n (Yj hn)
  rw[all_drop hn]at hcl
  obtain⟨z1,z2,z3⟩:=z
  simp only at hz1 hz2 hz3
  subst hz3
  refine wk_ (qn_ (ws_ (wb_ (ws_ (wr_ (e_ ixa (k:=e_ (jn (hy:=hz)) (k:=alc (k:=fun b8=>?_)))))))))
  refine go ?_
  refine d2_ rfl (NW (p:=p) (n:=n) hnn) (k:=gk (k:=wi_ (k:=fun h9=>?_) (m:=fun h9=>?_)))
  ·have hno:gl p n=false:=by have h9:=h9;simpa using h9
   rw[hno,Bool.false_and]at hcl
   rw[hcl]at hdef
   refine gk (k:=rt_ Tryz.results125 (k:=?_))
   exact⟨_,hsb,by rw[hdef];all_goals rfl,rfl⟩
  have hyes:gl p n=true:=by have h9:=h9;simpa using h9
  rw[hyes,Bool.true_and]at hcl
  refine go ?_
  refine ln_ (k+1) (k:=?_)
  try dsimp only
  exact⟨aa,hcl⟩
 obtain rfl:k=p.nears.length:=aa
 rw[List.drop_length,List.all_nil]at hcl
 rw[hcl,Bool.true_and]at hdef
 refine gk (k:=dh 5 71 (k:=fun h10=>gk (k:=edq)) (q:=go ?_))
 refine wi_ (k:=fun h11=>?_) (m:=fun h11=>?_)
 ·have hno:(!(p.all && decide (0<p.drive.length)))=false:=by have h9:=h11;obtain⟨c1,c2⟩:=h9;rw[c1,Ys (aa)];all_goals rfl
  rw[hno,Bool.false_and]at hdef
  refine gk (k:=rt_ Tryz.results125 (k:=?_))
  exact⟨_,hsb,by rw[hdef];all_goals rfl,rfl⟩
 have hyes:(!(p.all && decide (0<p.drive.length)))=true:=by
  have h9:=h11
  cases hpa:p.all with
  |false=> rfl
  |true=> rw[Yr (by rcases h9 with c1|c1;rw[hpa]at c1;cases c1;omega)];all_goals rfl
 rw[hyes,Bool.true_and]at hdef
 refine gk (k:=dt (Nat) (fun y=> y≤p.drive.length∧jx p none p.drive=jx p (yh p.drive y) (p.drive.drop y)) (fun y=> [(75, .int .i64 ((y:Nat):Int))]) [(1,_),(73,_),(74,_)] (fun y=> []) _ (fun y=> p.drive.length - y) (0) (h0:=?_) (k:=?_))
 ·try dsimp only
  exact⟨Yl _,by rw[List.drop_zero];all_goals rfl⟩
 rintro m ⟨hm,hdl⟩
 try dsimp only[Yd,Ye]at*
 refine gk (k:=wi_ (k:=fun h12=>?_) (m:=fun h12=>?_))
 ·obtain⟨x,hx⟩:∃x,p.drive[m]? =some x:=⟨_,Yi (aa)⟩
  rw[dF hx,uo]at hdl
  have hnx:yh p.drive (m+1)=some x:=by unfold yh;rw[if_neg (aa),Nat.add_sub_cancel,hx]
  obtain⟨w,hw⟩:∃w:Int,0<m→p.drive[m - 1]? =some w:=by
   rcases Nat.eq_zero_or_pos m with h9|h9
   ·exact⟨0,fun h=> aa⟩
   ·exact⟨p.drive[m - 1]'(aa),fun _=> Yi _⟩
  have hpv:(match yh p.drive m with|none=> true|some y=> decide (y<x))=(decide (m=0) ||decide (w<x)):=by
   rcases Nat.eq_zero_or_pos m with h9|h9
   ·subst h9;rfl
   ·unfold yh;rw[if_neg (aa),hw h9,Yr (by omega:¬m=0),Bool.false_or]
  rw[hpv]at hdl
  refine go ?_
  refine go ?_
  refine d2_ rfl (xJ) (k:=gk (k:=dN 13 99 (c:=decide (0<((m:Nat):Int)) && decide (x≤w)) (k:=fun h14=>?_) (q:=?_)))
  ·refine gk (k:=dh 9 98 (c:=decide (x≤w)) (k:=fun h16=>?_) (q:=?_))
   ·have hm0:0<m:=by have h9:=h16;omega
    have hwm:=hw hm0
    refine eg_ mv (k:=eg_ fla (k:=eg_ ldv (k:=eg_ mv (k:=?_))))
    refine eg_ (evq isb (congrArg (Value.int .i64) (show _=((m - 1:Nat):Int)from aa))) (k:=?_)
    refine eg_ ixa (k:=eg_ (lel (hy:=hwm)) (k:=gk (k:=edq)))
   refine gk (k:=edq)
  refine gk (k:=wi_ (k:=fun h17=>?_) (m:=fun h17=>?_))
  ·have hno:(eh x p.curs.length && (decide (m=0) ||decide (w<x)) && jx p (some x) (p.drive.drop (m+1)))=false:=by
    have h9:=h17
    by_cases c1:0≤x∧x<(p.curs.length:Int)
    ·rw[Yr (by omega:¬m=0),Yr (by omega:¬w<x),Bool.or_self,Bool.and_false,Bool.false_and]
    ·rw[nV c1,Bool.false_and,Bool.false_and]
   rw[hno]at hdl
   refine gk (k:=rt_ Tryz.results125 (k:=?_))
   exact⟨_,hsb,by rw[hdef,hdl];all_goals rfl,rfl⟩
  have hyes:(eh x p.curs.length && (decide (m=0) ||decide (w<x)))=true:=by
   have h9:=h17
   rw[nU (aa),Bool.true_and,Bool.or_eq_true,decide_eq_true_eq,decide_eq_true_eq]
   omega
  rw[hyes,Bool.true_and,←hnx]at hdl
  refine go ?_
  refine ln_ (m+1) (k:=?_)
  try dsimp only
  exact⟨aa,hdl⟩
 obtain rfl:m=p.drive.length:=aa
 rw[List.drop_length]at hdl
 refine gk (k:=rt_ Tryz.results125 (k:=?_))
 exact⟨_,hsb,by rw[hdef,hdl];all_goals rfl,rfl⟩
end Go.Sx
