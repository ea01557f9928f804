import Derived.Recover
import Derived.Test.YtefgpomabdplbaaGreatDoorQ29
set_option linter.unusedVariables false
set_option linter.unusedSimpArgs false
set_option linter.unusedSectionVars false
set_option linter.unnecessarySimpa false
set_option maxHeartbeats 0
namespace Go.Sx
open Go Go.Proofs
set_option maxRecDepth 100000
theorem j7 (l:List En) (k:Nat):∀n,k≤n→∃r r',(dn l n).1=(dn l k).1++r∧(dn l n).2=(dn l k).2++r'
 | 0,h=> by obtain rfl:k=0:=by omega
            exact⟨[], [],an,an⟩
 |n+1,h=> by
  by_cases he:k=n+1
  ·subst he;exact⟨[], [],an,an⟩
  ·obtain⟨r,r',h1,h2⟩:=j7 l k n (aa)
   exact⟨r++uv (dI [] (eC l n)).length,r'++dI [] (eC l n),by rw[dn];simp only[h1,Yf],by rw[dn];simp only[h2,Yf]⟩
theorem DK {l:List En}{j:Nat}(h:j<eQ l):∃r,(fA l).drop ((uv l.length).length+(dn l j).1.length)=uv (dI [] (eC l j)).length++r∧(dI [] (eC l j)).length≤r.length:=by
 obtain⟨r,r',h1,h2⟩:=j7 l (j+1) (eQ l) (aa)
 rw[dn]at h1 h2
 simp only at h1 h2
 refine⟨r++((dn l j).2++dI [] (eC l j)++r'),?_,ai⟩
 rw[fA,h1,h2,←Ya]
 simp only[Yf]
 rw[←Yf,List.drop_left]
theorem Hr {l:List En}{j:Nat}(h:j<eQ l):∃r,(fA l).drop ((uv l.length).length+(dn l (eQ l)).1.length+(dn l j).2.length)=dI [] (eC l j)++r:=by
 obtain⟨r,r',h1,h2⟩:=j7 l (j+1) (eQ l) (aa)
 rw[dn]at h2
 simp only at h2
 refine⟨r',?_⟩
 have e:fA l=(uv l.length++(dn l (eQ l)).1++(dn l j).2)++(dI [] (eC l j)++r'):=by rw[fA,h2];simp only[Yf]
 rw[e,←Ya,←Ya,List.drop_left]
theorem Hi (p:List Nat) (e:En):1≤(lZ p e).length:=by
 have:=oV (dE p (cF e.key))
 simp only[lZ,Ya];omega
theorem yX:∀(l:List En) (p:List Nat),l.length≤(dI p l).length
 | [],_=> an
 |e::r,p=> by
  have h1:=Hi p e
  have h2:=yX r (cF e.key)
  simp only[dI,Ya,Yb];omega
theorem vS (l:List En):∀k,min (16*k) l.length≤(dn l k).2.length
 | 0=> an
 |k+1=> by
  have h1:=vS l k
  have h2:=yX (eC l k) []
  rw[o6]at h2
  simp only[dn,Ya];omega
theorem Ht (l:List En):l.length≤(fA l).length:=by
 have h1:=vS l (eQ l)
 have h2:l.length≤16*eQ l:=cq
 simp only[fA,Ya];omega
theorem DM (l:List En):(fA l).length=(uv l.length).length+(dn l (eQ l)).1.length+(dn l (eQ l)).2.length:=by simp only[fA,Ya]
theorem Ky {l:List En}{j k:Nat}{e:En}{xs r:List Nat}{P:Nat}(hx:xs.drop P=dI [] (eC l j)++r) (hk:k<16) (he:l[16*j+k]? =some e):∃r',xs.drop (P+(dI [] ((eC l j).take k)).length)=lZ (kC [] ((eC l j).take k)) e++r':=by
 have hb:=zx l j k hk
 rw[he]at hb
 have h1:eC l j=(eC l j).take (k+1)++(eC l j).drop (k+1):=(List.take_append_drop ..).symm
 have h2:dI [] (eC l j)=dI [] ((eC l j).take (k+1))++dI (kC [] ((eC l j).take (k+1))) ((eC l j).drop (k+1)):=by
  conv=> lhs;rw[h1]
  exact ow _ _ _
 rw[mT hb]at h2
 refine⟨dI (kC [] ((eC l j).take (k+1))) ((eC l j).drop (k+1))++r,?_⟩
 rw[←List.drop_drop,hx,h2]
 simp only[Yf]
 rw[List.drop_left]
def kl (l:List En) (j:Nat):List Int:=(List.range j).map fun k=> (((dI [] (eC l k)).length:Nat):Int)
theorem xX (l:List En) (j:Nat):kl l (j+1)=kl l j++ [(((dI [] (eC l j)).length:Nat):Int)]:=by simp[kl,List.range_succ]
theorem tn (l:List En) (j:Nat):(kl l j).length=j:=by simp[kl]
theorem Ac {l:List En}{n j:Nat}(h:j<n):(kl l n)[j]? =some (((dI [] (eC l j)).length:Nat):Int):=by
 rw[kl,Xd,List.getElem?_range h];all_goals rfl
theorem ru {G:cK}{H:cG}:SC G Tryz.prog 187 [.bool true] H (fun v H'=> v= .tuple #[]∧H'=H):=by
 refine sWk Tryz.func187 Tryz.ntmps187 ?_
 refine gk (k:=wi_ (k:=fun h1=>?_) (m:=fun h1=>?_))
 ·exact absurd h1 (ag)
 refine gk (k:=rt_ Tryz.results187 (k:=?_))
 exact⟨_,hsb,rfl,rfl⟩
theorem Iq {G:cK}{H R:cG}{b k most m:Nat}{xs q:List Nat} [hg:Glb G R] [hr:Rem H Rd b (xs,k) R] (hk:k≤xs.length) (hn:xs.length≤1000000000000) (hb:∀x∈xs,x<256) (hm:most≤4611686018427387904) (h:jK most (xs.drop k)= .ok (q,m)):SC G Tryz.prog 156 [.pointer (some ⟨b,0,none⟩), .int .i64 ((most:Nat):Int)] H (fun v H'=> v= .tuple #[.string (dL q), .nilIface]∧H'=Rd b (xs,k+m)::R):=
 SC.mono (L0 hk hn hb hm) fun v H' h2=> by
  rcases h2 with⟨e,h3,_⟩|⟨n',m',h3,h4,h5⟩
  ·rw[h]at h3;cases h3
  ·rw[h]at h3;cases h3;exact⟨h4,h5⟩
theorem sj {G:cK}{H R:cG}{b k most n m:Nat}{xs:List Nat} [hg:Glb G R] [hr:Rem H Rd b (xs,k) R] (hk:k≤xs.length) (hn:xs.length≤1000000000000) (hb:∀x∈xs,x<256) (hm:most≤4611686018427387904) (h:fG most (xs.drop k)= .ok (n,m)):SC G Tryz.prog 155 [.pointer (some ⟨b,0,none⟩), .int .i64 ((most:Nat):Int)] H (fun v H'=> v= .tuple #[.int .i64 ((n:Nat):Int), .nilIface]∧H'=Rd b (xs,k+m)::R):=
 SC.mono (ye hk hn hb hm) fun v H' h2=> by
  rcases h2 with⟨e,h3,_⟩|⟨n',m',h3,h4,h5⟩
  ·rw[h]at h3;cases h3
  ·rw[h]at h3;cases h3;exact⟨h4,h5⟩
theorem sn {G:cK}{H R:cG}{b k most n m:Nat}{xs:List Nat} [hg:Glb G R] [hr:Rem H Rd b (xs,k) R] (hk:k≤xs.length) (hn:xs.length≤1000000000000) (hb:∀x∈xs,x<256) (hm:most≤4611686018427387904) (h:fG most (xs.drop k)= .ok (n,m)):SC G Tryz.prog 186 [.pointer (some ⟨b,0,none⟩), .int .i64 ((most:Nat):Int)] H (fun v H'=> v= .int .i64 ((n:Nat):Int)∧H'=Rd b (xs,k+m)::R):=by
 refine sWk Tryz.func186 Tryz.ntmps186 ?_
 refine go ?_
 refine d2_ rfl (sj hk hn hb hm h) (k:=e_ mv (k:=e_ exr (k:=e_ exr (k:=e_ asn (k:=e_ asn (k:=on_ (qn_ (ws_ (wr_ (e_ mv (k:=?_)))))))))))
 refine e_ (fy rfl) (k:=?_)
 refine d1_ rfl (ru) (k:=gk (k:=rt_ Tryz.results186 (k:=?_)))
 exact⟨_,hsb,rfl,rfl⟩
def ePt:Enc (Nat×Nat):=⟨fun p=> [.pointer (some ⟨p.1,p.2,none⟩)],1,false,fun _=> rfl,fun _ v h=> ba,ag,fun _=> rfl,ag⟩
instance {b o:Nat}:fK ePt (.pointer (some ⟨b,o,none⟩)) (b,o):=⟨rfl⟩
instance {p:Nat×Nat}:jG ePt p (.pointer (some ⟨p.1,p.2,none⟩)):=⟨rfl⟩
theorem Gp (a b:List Nat):a.take (dE a b)++b.drop (dE a b)=b:=by rw[pQ,List.take_append_drop]
theorem F4 {G:cK}{H R:cG}{b k:Nat}{xs rest:List Nat}{last:ByteArray}{first:Bool}{e:En} [hg:Glb G R] [hr:Rem H Rd b (xs,k) R] (hk:k≤xs.length) (hn:xs.length≤1000000000) (hb:∀x∈xs,x<256) (h:xs.drop k=lZ (cF last) e++rest) (hks:1≤e.key.size∧e.key.size≤65) (hls:last.size≤65) (hnm:∀x∈gG e,x≤2147483647):
 SC G Tryz.prog 188 [.pointer (some ⟨b,0,none⟩), .string last, .bool first] H (fun v H'=> v= .agg [.string e.key, .int .i64 ((e.docs:Nat):Int), .int .i64 ((e.tot:Nat):Int), .int .i64 ((e.at_:Nat):Int), .int .i64 ((e.size:Nat):Int)].toArray∧H'=Rd b (xs,k+(lZ (cF last) e).length)::R):=by
 obtain⟨hs1,hs2⟩:=km (cF last) (cF e.key)
 have hbl:=cL last
 have hbk:=cL e.key
 have hkx:k+(lZ (cF last) e).length+rest.length=xs.length:=by
  have:=congrArg List.length h
  rw[Yo,Ya]at this;omega
 obtain⟨sh,hsh⟩:∃sh,sh=dE (cF last) (cF e.key):=⟨_,rfl⟩
 rw[←hsh]at hs1 hs2
 have he:lZ (cF last) e=uv sh++(uv ((cF e.key).length - sh)++(cF e.key).drop sh)++(uv e.docs++uv e.tot++uv e.at_++uv e.size):=by rw[lZ,hsh]
 have hdl:((cF e.key).drop sh).length=(cF e.key).length - sh:=Yo ..
 have h0:fG last.size (xs.drop k)= .ok (sh,(uv sh).length):=by
  rw[h,he];simp only[Yf];exact ey _ (aa) (aa)
 have hd1:xs.drop (k+(uv sh).length)=uv ((cF e.key).drop sh).length++(cF e.key).drop sh++(uv e.docs++(uv e.tot++(uv e.at_++(uv e.size++rest)))):=by
  rw[←List.drop_drop,h,he,hdl];simp only[Yf];rw[List.drop_left]
 have h1:jK (65 - sh) (xs.drop (k+(uv sh).length))= .ok ((cF e.key).drop sh,(uv ((cF e.key).drop sh).length).length+((cF e.key).drop sh).length):=by
  rw[hd1];exact vl _ (aa) (aa)
 obtain⟨k1,hk1⟩:∃k1,k1=k+(uv sh).length+((uv ((cF e.key).drop sh).length).length+((cF e.key).drop sh).length):=⟨_,rfl⟩
 have hd2:xs.drop k1=uv e.docs++(uv e.tot++(uv e.at_++(uv e.size++rest))):=by
  rw[hk1,←List.drop_drop,hd1,←Ya,List.drop_left]
 have hlen:(lZ (cF last) e).length=k1 - k+((uv e.docs).length+(uv e.tot).length+(uv e.at_).length+(uv e.size).length):=by
  rw[he,hk1,hdl];simp only[Ya,hdl];omega
 have hk1x:k1+((uv e.docs).length+(uv e.tot).length+(uv e.at_).length+(uv e.size).length)≤xs.length:=aa
 have hkey:last.extract 0 sh++dL ((cF e.key).drop sh)=e.key:=by
  apply kM.1
  rw[fQ,fa (fun x hx=> k7 _ x (Yp hx)),gT,List.drop_zero,hsh]
  exact Gp _ _
 have hn1:=hnm e.docs (by simp[gG])
 have hn2:=hnm e.tot (by simp[gG])
 have hn3:=hnm e.at_ (by simp[gG])
 have hn4:=hnm e.size (by simp[gG])
 have hss:(dL ((cF e.key).drop sh)).size=(cF e.key).length - sh:=by rw[jg,hdl]
 have hse:(last.extract 0 sh).size=sh:=by rw[ByteArray.size_extract];omega
 refine sWk Tryz.func188 Tryz.ntmps188 ?_
 refine gk (k:=alc (k:=fun b6=>?_))
 refine go ?_
 refine d2_ rfl (sn hk (aa) hb (aa) h0) (k:=e_ asn (k:=on_ (qn_ (ws_ (wr_ (e_ mv (k:=e_ mv (k:=?_))))))))
 refine e_ (evq isb (congrArg (Value.int .i64) (by omega:(65:Int) - ((sh:Nat):Int)=((65 - sh:Nat):Int)))) (k:=?_)
 refine d2_ rfl (Iq (most:=65 - sh) (aa) (aa) hb (aa) h1) (k:=?_)
 rw[←hk1]
 refine e_ mv (k:=e_ exr (k:=e_ exr (k:=e_ asn (k:=e_ asn (k:=on_ (qn_ (ws_ (wr_ (e_ mv (k:=?_))))))))))
 refine e_ (fy rfl) (k:=?_)
 refine d1_ rfl (ru) (k:=on_ (qn_ (ws_ (wr_ (e_ mv (k:=e_ mv (k:=e_ (Ab (b:=sh)) (k:=e_ mv (k:=e_ Mq (k:=?_))))))))))
 rw[hkey]
 refine e_ (bld [(0,_)]) (k:=alc (k:=fun b10=>?_))
 refine gk (k:=dh 10 47 (k:=fun h1=>gk (k:=dN 7 46 (k:=fun h2=>gk (k:=kK (vs:=[_,_]) (hc:=(Bv (aa) (aa))) (k:=eg_ mv (k:=eg_ (evq ieq (congrArg Value.bool (Ys (aa)))) (k:=gk (k:=edq)))))) (q:=gk (k:=edq)))) (q:=?_))
 rw[show(decide ((0:Int)<((e.key.size:Nat):Int)) && (first ||true))=true from by rw[Ys (aa)];simp]
 refine d1_ rfl (ru) (k:=go ?_)
 refine s_ (dC ePt [(b10,1),(b10,2),(b10,3),(b10,4)] (bQ) rfl (ay)) (k:=?_)
 rintro _ _ ⟨s53,rfl,rfl⟩
 refine gk (k:=dt (Nat×Nat×Nat×Nat×Nat×Nat) (fun y=> (y.1=0∧y.2.1=k1∨y.1=1∧y.2.1=k1+(uv e.docs).length∧y.2.2.1=e.docs∨y.1=2∧y.2.1=k1+(uv e.docs).length+(uv e.tot).length∧y.2.2.1=e.docs∧y.2.2.2.1=e.tot∨y.1=3∧y.2.1=k1+(uv e.docs).length+(uv e.tot).length+(uv e.at_).length∧y.2.2.1=e.docs∧y.2.2.2.1=e.tot∧y.2.2.2.2.1=e.at_∨y.1=4∧y.2.1=k1+(uv e.docs).length+(uv e.tot).length+(uv e.at_).length+(uv e.size).length∧y.2.2.1=e.docs∧y.2.2.2.1=e.tot∧y.2.2.2.2.1=e.at_∧y.2.2.2.2.2=e.size)) (fun y=> [(55, .int .i64 ((y.1:Nat):Int))]) [(0,_),(6,_),(10,_),(53,_),(54,_)] (fun y=> [Rd b (xs,y.2.1),Vr b10 [.string e.key, .int .i64 ((y.2.2.1:Nat):Int), .int .i64 ((y.2.2.2.1:Nat):Int), .int .i64 ((y.2.2.2.2.1:Nat):Int), .int .i64 ((y.2.2.2.2.2:Nat):Int)]]) _ (fun y=> 4 - y.1) ((0,k1,0,0,0,0)) (h0:=?_) (k:=?_))
 ·try dsimp only
  exact .inl ⟨rfl,rfl⟩
 rintro⟨j,kk,va,vb,vc,vd⟩ hj
 try dsimp only[Yd,Ye]at*
 have hpl:([(b10,1),(b10,2),(b10,3),(b10,4)]:List (Nat×Nat)).length=4:=rfl
 refine gk (k:=wi_ (k:=fun h3=>?_) (m:=fun h3=>?_))
 ·obtain⟨pj,hpj⟩:∃pj,([(b10,1),(b10,2),(b10,3),(b10,4)]:List (Nat×Nat))[j]? =some pj:=⟨_,Yi (aa)⟩
  have hd3:xs.drop (k1+(uv e.docs).length)=uv e.tot++(uv e.at_++(uv e.size++rest)):=by rw[←List.drop_drop,hd2,List.drop_left]
  have hd4:xs.drop (k1+(uv e.docs).length+(uv e.tot).length)=uv e.at_++(uv e.size++rest):=by rw[←List.drop_drop,hd3,List.drop_left]
  have hd5:xs.drop (k1+(uv e.docs).length+(uv e.tot).length+(uv e.at_).length)=uv e.size++rest:=by rw[←List.drop_drop,hd4,List.drop_left]
  obtain⟨nj,hnj,hrj,hkx⟩:∃nj,(gG e)[j]? =some nj∧fG 2147483647 (xs.drop kk)= .ok (nj,(uv nj).length)∧kk≤xs.length:=by
   rcases hj with⟨rfl,rfl⟩|⟨rfl,rfl,_⟩|⟨rfl,rfl,_⟩|⟨rfl,rfl,_⟩|⟨rfl,_⟩
   ·exact⟨e.docs,rfl,by rw[hd2];exact ey _ (aa) hn1,aa⟩
   ·exact⟨e.tot,rfl,by rw[hd3];exact ey _ (aa) hn2,aa⟩
   ·exact⟨e.at_,rfl,by rw[hd4];exact ey _ (aa) hn3,aa⟩
   ·exact⟨e.size,rfl,by rw[hd5];exact ey _ (aa) hn4,aa⟩
   ·omega
  refine go ?_
  refine d2_ rfl (sn (most:=2147483647) hkx (aa) hb (aa) hrj) (k:=?_)
  rcases hj with⟨rfl,rfl⟩|⟨rfl,rfl,rfl⟩|⟨rfl,rfl,rfl,rfl⟩|⟨rfl,rfl,rfl,rfl,rfl⟩|⟨rfl,_⟩
  all_goals (first|(simp only[Xb,Xc,gG,Option.some.injEq]at hpj hnj;subst hpj;subst hnj)|(exfalso;omega))
  ·refine go ?_
   refine ln_ ((1,kk+(uv e.docs).length,e.docs,vb,vc,vd)) (k:=?_)
   try dsimp only
   exact .inr (.inl ⟨rfl,rfl,rfl⟩)
  ·refine go ?_
   refine ln_ ((2,k1+(uv e.docs).length+(uv e.tot).length,e.docs,e.tot,vc,vd)) (k:=?_)
   try dsimp only
   exact .inr (.inr (.inl ⟨rfl,rfl,rfl,rfl⟩))
  ·refine go ?_
   refine ln_ ((3,k1+(uv e.docs).length+(uv e.tot).length+(uv e.at_).length,e.docs,e.tot,e.at_,vd)) (k:=?_)
   try dsimp only
   exact .inr (.inr (.inr (.inl ⟨rfl,rfl,rfl,rfl,rfl⟩)))
  refine go ?_
  refine ln_ ((4,k1+(uv e.docs).length+(uv e.tot).length+(uv e.at_).length+(uv e.size).length,e.docs,e.tot,e.at_,e.size)) (k:=?_)
  try dsimp only
  exact .inr (.inr (.inr (.inr ⟨rfl,rfl,rfl,rfl,rfl,rfl⟩)))
 rcases hj with⟨rfl,rfl⟩|⟨rfl,rfl,rfl⟩|⟨rfl,rfl,rfl,rfl⟩|⟨rfl,rfl,rfl,rfl,rfl⟩|⟨rfl,rfl,rfl,rfl,rfl,rfl⟩
 ·exfalso;omega
 ·exfalso;omega
 ·exfalso;omega
 ·exfalso;omega
 rw[show k1+(uv e.docs).length+(uv e.tot).length+(uv e.at_).length+(uv e.size).length=k+(lZ (cF last) e).length from aa]
 refine gk (k:=rt_ Tryz.results188 (k:=?_))
 exact⟨_,hsb,rfl,rfl⟩
theorem Q5 {G:cK}{P:Program}{t:Tm}{H:cG}{dst:Option Tmp}{ty:TypeId}{pos:String}{after:Array Edge}{g:Option (Nat×Bool)}{T U:TypeId}{x y:Operand}{a b:ByteArray}(hx:evo t x=some (.string a):=by exact rfl) (hy:evo t y=some (.string b):=by exact rfl):Ev G P ⟨dst, .binOp .gtr T x y U,ty,pos,after,g⟩ t H (.bool (decide (cF b<cF a))):=
 fun ρ hρ w _=> by
  have e:(!(Op.bytesLess a.toList b.toList ||a.toList==b.toList))=decide (cF b<cF a):=by
   rw[kN,xd,Bool.eq_iff_iff]
   simp only[Bool.not_eq_true',Bool.or_eq_false_iff,decide_eq_false_iff_not,decide_eq_true_eq]
   rw[←not_or,←List.le_iff_lt_or_eq,List.not_le]
  simp only[execOp,hρ _ _ hx,hρ _ _ hy,eqGuard,binOp_string_gtr,e]
  rfl
theorem BD {G:cK}{H R:cG}{b k:Nat}{xs:List Nat} [hr:Rem H Rd b (xs,k) R] (hk:k≤xs.length) (hn:xs.length≤1000000000000):SC G Tryz.prog 39 [.pointer (some ⟨b,0,none⟩)] H (fun v H'=> v= .int .i64 ((xs.length - k:Nat):Int)∧H'=Rd b (xs,k)::R):=
 SC.out (ya hr fun s=> SC.mono (left (k:=(k:Int)) (n:=(xs.length:Int)) (r:= [s.val]) (aa)) fun v H' ⟨h1,h2⟩=> ⟨Rd b (xs,k)::R,by rw[h2];exact hsb,by rw[h1];exact congrArg (Value.int .i64) (aa),rfl⟩)
theorem A4 {G:cK}{H R:cG}{b:Nat}{l:List En} [hg:Glb G R] [hr:Rem H Rd b (fA l,0) R] (hok:rV l) (hl:l.length≤100000000) (hn:(fA l).length≤1000000000):SC G Tryz.prog 158 [.pointer (some ⟨b,0,none⟩)] H (fun v H'=> ∃s:SV,v=s.val∧H'=Row s eEn l::R):=by
 have hb:=zj l
 have hge:=Ht l
 have hend:=DM l
 have hbk:16*eQ l≤l.length+15∧l.length≤16*eQ l:=cq
 obtain⟨xs,hxs⟩:∃xs,xs=fA l:=⟨_,rfl⟩
 rw[←hxs]at hb hge hend hn
 obtain⟨A,hA⟩:∃A,A=(uv l.length).length:=⟨_,rfl⟩
 obtain⟨B,hB⟩:∃B,B=eQ l:=⟨_,rfl⟩
 obtain⟨Z,hZ⟩:∃Z,Z=A+(dn l B).1.length:=⟨_,rfl⟩
 rw[←hB]at hbk hend
 have h0:fG (xs.length - 0) (xs.drop 0)= .ok (l.length,A):=by
  rw[List.drop_zero,Nat.sub_zero,hxs,fA,Yf,hA]
  exact ey _ (aa) (by rw[←Yf,←fA,←hxs];omega)
 have hD1:∀j,j<B→(dn l j).1.length≤(dn l B).1.length:=fun j hj=> by
  obtain⟨r,r',h1,_⟩:=j7 l j B (aa)
  rw[h1,Ya];omega
 have hD2:∀j,j≤B→(dn l j).2.length≤(dn l B).2.length:=fun j hj=> by
  obtain⟨r,r',_,h1⟩:=j7 l j B (aa)
  rw[h1,Ya];omega
 have hr':Rem H Rd b (xs,0) R:=by rw[hxs];exact hr
 clear hr
 refine SC.rem (h:=hr') ?_
 refine sWk Tryz.func158 Tryz.ntmps158 ?_
 refine go ?_
 refine d1_ rfl (BD (aa) (aa)) (k:=?_)
 refine d2_ rfl (sn (most:=xs.length - 0) (aa) (aa) hb (aa) h0) (k:=?_)
 refine du (cJ.nilRow (e:=eI) cJ.refl) ?_
 rw[show Row SV.nil eI ([]:List Int)=Row SV.nil eI (kl l 0)from rfl,Nat.zero_add]
 refine go ?_
 refine gk (k:=dt (Nat×Nat×SV×Nat) (fun y=> y.1=16*y.2.1∧y.2.1≤B∧y.2.2.2=A+(dn l y.2.1).1.length) (fun y=> [(4,y.2.2.1.val),(5, .int .i64 ((y.1:Nat):Int))]) [(0,_),(3,_)] (fun y=> [Row y.2.2.1 eI (kl l y.2.1),Rd b (xs,y.2.2.2)]) _ (fun y=> B - y.2.1) ((0,0,SV.nil,A)) (h0:=?_) (k:=?_))
 ·try dsimp only
  exact⟨rfl,Yl _,rfl⟩
 rintro⟨i,j,u,kk⟩ ⟨hi,hj,hkk⟩
 try dsimp only[Yd,Ye]at*
 refine gk (k:=wi_ (k:=fun h1=>?_) (m:=fun h1=>?_))
 ·have hjB:j<B:=by omega
  obtain⟨r,hdr,hdl⟩:=DK (l:=l) (j:=j) (aa)
  have hs1:=hD1 j hjB
  have hsl:=tn l j
  have hkx:kk≤xs.length:=aa
  have hdr2:xs.drop kk=uv (dI [] (eC l j)).length++r:=by rw[hxs,hkk,hA];exact hdr
  have hlr:=congrArg List.length hdr2
  rw[Yo,Ya]at hlr
  have hrd:fG (xs.length - kk) (xs.drop kk)= .ok ((dI [] (eC l j)).length,(uv (dI [] (eC l j)).length).length):=by
   rw[hdr2];exact ey _ (aa) (aa)
  refine go ?_
  refine d1_ rfl (BD hkx (aa)) (k:=?_)
  refine d2_ rfl (sn (most:=xs.length - kk) hkx (aa) hb (aa) hrd) (k:=gz eI (k:=fun s31=>?_))
  refine app (k:=fun s32=>?_)
  rw[←xX]
  refine go ?_
  refine ln_ ((i+16,j+1,s32,kk+(uv (dI [] (eC l j)).length).length)) (k:=?_)
  try dsimp only
  exact⟨aa,aa,by rw[dn];simp only[Ya];omega⟩
 have hjj:j=B:=aa
 rw[hjj]at hkk⊢
 have hsl:=tn l B
 rw[←hZ]at hkk
 refine we_ (qe_ (le_ (bh_ (qn_ (ws_ (wr_ (e_ asn (k:=on_ (qn_ (ws_ (ws_ (wr_ (?_)))))))))))))
 refine du (cJ.nilRow (e:=eEn) cJ.refl) ?_
 rw[show Row SV.nil eEn ([]:List En)=Row SV.nil eEn (l.take (16*0))from rfl]
 refine gk (k:=dt (Nat×SV×Nat) (fun y=> y.1≤B∧y.2.2=Z+(dn l y.1).2.length) (fun y=> [(6,y.2.1.val),(35, .int .i64 ((y.1:Nat):Int))]) [(0,_),(3,_),(33,_),(34,_)] (fun y=> [Row y.2.1 eEn (l.take (16*y.1)),Rd b (xs,y.2.2)]) (Row u eI (kl l B)::R) (fun y=> B - y.1) ((0,SV.nil,kk)) (h0:=?_) (k:=?_))
 ·try dsimp only
  exact⟨Yl _,hkk⟩
 rintro⟨j,w,kk⟩ ⟨hj,hkk⟩
 try dsimp only[Yd,Ye]at*
 refine gk (k:=wi_ (k:=fun h2=>?_) (m:=fun h2=>?_))
 ·have hjB:j<B:=by omega
  have hgt:=Ac (l:=l) hjB
  have hs2:=hD2 j (aa)
  have hs3:=hD2 (j+1) (aa)
  rw[dn]at hs3
  simp only[Ya]at hs3
  have hkx:kk≤xs.length:=aa
  obtain⟨r,hdr⟩:=Hr (l:=l) (j:=j) (aa)
  rw[←hxs,←hB,←hA,←hZ,←hkk]at hdr
  have hbel:=o6 l j
  refine go ?_
  refine go ?_
  refine d1_ rfl (tl) (k:=go ?_)
  refine d1_ rfl (BD hkx (aa)) (k:=?_)
  refine e_ (evq ile (congrArg Value.bool (Ys (aa)))) (k:=?_)
  refine d1_ rfl (ru) (k:=go ?_)
  refine gk (k:=dt (Nat×SV×ByteArray×Nat) (fun y=> y.1≤16∧(16*j+y.1≤l.length)∧cF y.2.2.1=kC [] ((eC l j).take y.1)∧y.2.2.1.size≤65∧y.2.2.2=kk+(dI [] ((eC l j).take y.1)).length) (fun y=> [(6,y.2.1.val),(10, .string y.2.2.1),(11, .int .i64 ((y.1:Nat):Int))]) [(0,_),(3,_),(9,_),(33,_),(34,_),(35,_)] (fun y=> [Row y.2.1 eEn (l.take (16*j+y.1)),Rd b (xs,y.2.2.2)]) (Row u eI (kl l B)::R) (fun y=> 16 - y.1) ((0,w,ByteArray.empty,kk)) (h0:=?_) (k:=?_))
  ·try dsimp only
   exact⟨aa,aa,rfl,ag,rfl⟩
  rintro⟨kn,y2,last,kq⟩ ⟨hk,hkl,hlk,hls,hkq⟩
  try dsimp only[Yd,Ye]at*
  have htl:(l.take (16*j+kn)).length=16*j+kn:=aA
  refine gk (k:=dh 5 59 (k:=fun h3=>gk (k:=edq)) (q:=gk (k:=wi_ (k:=fun h4=>?_) (m:=fun h4=>?_))))
  ·obtain⟨e,he⟩:∃e,l[16*j+kn]? =some e:=⟨_,Yi (aa)⟩
   obtain⟨r',hdq⟩:=Ky hdr (aa) he
   rw[←hkq,←hlk]at hdq
   obtain⟨e1,e2,e3,e4,e5,e6⟩:=hok.1 e (Yj he)
   have hbg:(eC l j)[kn]? =some e:=by rw[zx l j kn (aa)];exact he
   have hlq:=congrArg List.length hdq
   rw[Yo,Ya]at hlq
   have hkqx:kq≤xs.length:=by
    have h9:=congrArg List.length (show eC l j=(eC l j).take kn++(eC l j).drop kn from(List.take_append_drop ..).symm)
    have h8:dI [] (eC l j)=dI [] ((eC l j).take kn)++dI (kC [] ((eC l j).take kn)) ((eC l j).drop kn):=by
     conv=> lhs;rw[show eC l j=(eC l j).take kn++(eC l j).drop kn from(List.take_append_drop ..).symm]
     exact ow _ _ _
    have h7:=congrArg List.length h8
    rw[Ya]at h7
    omega
   have htk:=cP he
   refine go ?_
   refine d3_ rfl (F4 (e:=e) hkqx (aa) hb hdq ⟨e1,e2⟩ hls (fun x hx=> by simp only[gG,List.mem_cons,List.not_mem_nil,or_false]at hx;rcases hx with rfl|rfl|rfl|rfl <;> omega)) (k:=alc (k:=fun b12=>?_))
   refine go ?_
   refine df cI (fun i=> [15].contains i) (fun k H=> (k=1→Sl H y2 eEn (l.take (16*j+kn)))∧(k=5→cQ H b12 [.string e.key, .int .i64 ((e.docs:Nat):Int), .int .i64 ((e.tot:Nat):Int), .int .i64 ((e.at_:Nat):Int), .int .i64 ((e.size:Nat):Int)])∧(k=8→Sl H y2 eEn (l.take (16*j+kn)))∧(k=10→Sl H y2 eEn (l.take (16*j+kn)))∧(k=11→Sl H y2 eEn (l.take (16*j+kn)))∧(k=12→Sl H y2 eEn (l.take (16*j+kn)))) (af_ 0 (q:=cD fun H hH=>mv) (k:=?_))
   refine cE 1 rfl rfl (a8) rfl (cD fun H hH=>by have hN:=hH.1 rfl;exact lnn) (?_)
   refine af_ 2 (q:=cD fun H hH=>ieq) (k:=?_)
   refine gq 3 rfl rfl (a8) rfl (cD fun H hH=>mv) (fun h5=> ?_) (fun h5=> ?_)
   ·replace h5:=nrm h5
    refine ao_ 4 (k:=ao_ 5 (k:=ao_ 6 (k:=ao_ 7 (k:=ao_ 8 (k:=ao_ 9 (k:=ao_ 10 (k:=ao_ 11 (k:=ao_ 12 (k:=ao_ 13 (k:=af_ 14 (q:=cD fun H hH=>pkt) (k:=?_)))))))))))
    refine cN 15 rfl (a8) rfl (fun k hk=> ⟨fun hi=> ab,fun hi=> ab,fun hi=> ab,fun hi=> ab,fun hi=> ab,fun hi=> ab⟩) (cW (vs:= [_]) rfl (ru)) ?_
    rintro _ _ ⟨rfl,rfl⟩
    refine db (a8) (fun k hk=> ⟨fun hi=> ab,fun hi=> ab,fun hi=> ab,fun hi=> ab,fun hi=> ab,fun hi=> ab⟩) (gk (k:=gz eEn (k:=fun s85=>?_)))
    refine app (k:=fun s86=>?_)
    rw[show l.take (16*j+kn)++ [(⟨e.key,e.docs,e.tot,e.at_,e.size⟩:En)]=l.take (16*j+(kn+1))from htk.symm]
    refine go ?_
    refine go ?_
    refine ln_ ((kn+1,s86,e.key,kq+(lZ (cF last) e).length)) (k:=?_)
    try dsimp only
    exact⟨aa,aa,(pe hbg []).symm,e2,by rw[hkq,mT hbg,hlk,Ya];omega⟩
   replace h5:=nrm h5
   obtain⟨d,hd⟩:∃d,l[16*j+kn - 1]? =some d:=⟨_,Yi (aa)⟩
   have hlt:=hok.2 (16*j+kn - 1) d e hd (by rw[Nat.sub_add_cancel (aa)];exact he)
   have hd2:(l.take (16*j+kn))[(l.take (16*j+kn)).length - 1]? =some d:=by rw[htl,List.getElem?_take_of_lt (aa)];exact hd
   refine ag_ 4 (q:=cD fun H hH=>fla) (k:=?_)
   refine ld 5 rfl rfl rfl rfl (a8) rfl (cD fun H hH=>ar) (?_)
   refine ag_ 6 (q:=cD fun H hH=>mv) (k:=ag_ 7 (q:=cD fun H hH=>mv) (k:=?_))
   refine ld 8 rfl rfl rfl rfl (a8) rfl (cD fun H hH=>cf) (?_)
   refine ag_ 9 (q:=cD fun H hH=>isb) (k:=?_)
   refine ld 10 rfl rfl rfl rfl (a8) rfl (cD fun H hH=>bV) (?_)
   refine ld 11 rfl rfl rfl rfl (a8) rfl (cD fun H hH=>by have hN:=hH.2.2.2.2.1 rfl;exact fle) (?_)
   refine ld 12 rfl rfl rfl rfl (a8) rfl (cD fun H hH=>by have hN:=hH.2.2.2.2.2 rfl;exact lfl) (?_)
   refine ld 13 rfl rfl rfl rfl (a8) rfl (cD fun H hH=>evq Q5 (congrArg Value.bool (Ys hlt))) (?_)
   refine af_ 14 (q:=cD fun H hH=>pkf) (k:=?_)
   refine cN 15 rfl (a8) rfl (fun k hk=> ⟨fun hi=> ab,fun hi=> ab,fun hi=> ab,fun hi=> ab,fun hi=> ab,fun hi=> ab⟩) (cW (vs:= [_]) rfl (ru)) ?_
   rintro _ _ ⟨rfl,rfl⟩
   refine db (a8) (fun k hk=> ⟨fun hi=> ab,fun hi=> ab,fun hi=> ab,fun hi=> ab,fun hi=> ab,fun hi=> ab⟩) (gk (k:=gz eEn (k:=fun s85=>?_)))
   refine app (k:=fun s86=>?_)
   rw[show l.take (16*j+kn)++ [(⟨e.key,e.docs,e.tot,e.at_,e.size⟩:En)]=l.take (16*j+(kn+1))from htk.symm]
   refine go ?_
   refine go ?_
   refine ln_ ((kn+1,s86,e.key,kq+(lZ (cF last) e).length)) (k:=?_)
   try dsimp only
   exact⟨aa,aa,(pe hbg []).symm,e2,by rw[hkq,mT hbg,hlk,Ya];omega⟩
  have hbt:(eC l j).take kn=eC l j:=List.take_of_length_le (by rw[hbel];omega)
  rw[hbt]at hkq
  have hlt16:l.take (16*j+kn)=l.take (16*(j+1)):=by
   by_cases h9:kn=16
   ·rw[h9];all_goals rfl
   ·rw[List.take_of_length_le (aa),List.take_of_length_le (aa)]
  rw[hlt16]
  refine go ?_
  refine d1_ rfl (tl) (k:=e_ mv (k:=?_))
  refine e_ (evq ieq (congrArg Value.bool (Ys (aa)))) (k:=?_)
  refine d1_ rfl (ru) (k:=go ?_)
  refine ln_ ((j+1,y2,kq)) (k:=?_)
  try dsimp only
  exact⟨aa,by rw[dn];simp only[Ya];omega⟩
 have hjj:j=B:=aa
 rw[hjj]at hkk⊢
 rw[show l.take (16*B)=l from List.take_of_length_le (aa)]
 have hkx:kk=xs.length:=aa
 refine go ?_
 refine d1_ rfl (SC.mono (pO (aa)) (fun v H' h=> (by
  rcases h with⟨h1,(⟨h2,_⟩|⟨_,h3⟩)⟩
  ·omega
  ·exact⟨h3,h1⟩:v= .nilIface∧H'=_))) (k:=?_)
 refine e_ (fy rfl) (k:=?_)
 refine d1_ rfl (ru) (k:=gk (k:=rt_ Tryz.results158 (k:=?_)))
 exact⟨_,hsb,w,rfl,rfl⟩
theorem iV (a:Act) (ds:List Deferred) (dst:Option Tmp) (v:Value):({a with defers:=a.defers++ds}:Act).put dst v={a.put dst v with defers:=(a.put dst v).defers++ds}:=by cases dst <;> rfl
theorem rl {P:Program}{ops:Array Oper}{Q:Exit→Act→World→Prop}(ds:List Deferred):∀(l:List Oper) (a:Act) (w:World),wpList P ops (fun e a' w'=> Q e {a' with defers:=a'.defers++ds} w') l a w→wpList P ops Q l {a with defers:=a.defers++ds} w
 | [],_,_,h=> h
 |o::l,a,w,h=> by
  have ih:=rl (P:=P) (ops:=ops) (Q:=Q) ds l
  unfold wpList at h⊢
  by_cases hw:Region.wanted o (yielded ops a.tmps)=true
  ·rw[if_pos hw]at h
   rw[if_pos (by exact hw)]
   rcases h with h|⟨h,a0,w0,hq⟩
   ·left
    change o.upon P a _ _ ((execOp a.eval o).run P w)at h
    show o.upon P {a with defers:=a.defers++ds} _ _ ((execOp a.eval o).run P w)
    generalize (execOp a.eval o).run P w=r at h⊢
    unfold Oper.upon at h⊢
    split at h
    ·rw[iV];exact ih _ _ h
    ·rw[iV];exact ih _ _ h
    ·rename_i d w'
     have:=iV {a with defers:=d::a.defers} ds o.dst undef
     simp only at this⊢
     rw[show(d::(a.defers++ds))=(d::a.defers)++ds from rfl,this];exact ih _ _ h
    ·exact Calls.mono h fun e w' he=> by
       cases e with
       |returned v=> simp only at he⊢;rw[iV];exact ih _ _ he
       |panicked chain=> exact he
       |outgrown=> obtain⟨a0,w0,hq⟩:=he;exact⟨_,w0,hq⟩
    ·exact Rows.mono h fun v w' he=> by rw[iV];exact ih _ _ he
    ·exact h
    ·exact h.elim
   ·exact .inr ⟨h,_,w0,hq⟩
  ·rw[if_neg hw]at h
   rw[if_neg (by exact hw),iV]
   exact ih _ _ h
theorem rn {P:Program}{ops:Array Oper}{Q Q':Exit→Act→World→Prop}(hq:∀e a w,Q e a w→Q' e a w):∀(l:List Oper) (a:Act) (w:World),wpList P ops Q l a w→wpList P ops Q' l a w
 | [],_,_,h=> hq _ _ _ h
 |o::l,a,w,h=> by
  have ih:=rn (P:=P) (ops:=ops) hq l
  unfold wpList at h⊢
  by_cases hw:Region.wanted o (yielded ops a.tmps)=true
  ·rw[if_pos hw]at h⊢
   rcases h with h|⟨h,a0,w0,hq0⟩
   ·left
    change o.upon P a _ _ ((execOp a.eval o).run P w)at h
    show o.upon P a _ _ ((execOp a.eval o).run P w)
    generalize (execOp a.eval o).run P w=r at h⊢
    unfold Oper.upon at h⊢
    split at h
    ·exact ih _ _ h
    ·exact ih _ _ h
    ·exact ih _ _ h
    ·exact Calls.mono h fun e w' he=> by
       cases e with
       |returned v=> exact ih _ _ he
       |panicked chain=> exact hq _ _ _ he
       |outgrown=> obtain⟨a0,w0,hq0⟩:=he;exact⟨_,w0,hq _ _ _ hq0⟩
    ·exact Rows.mono h fun v w' he=> ih _ _ he
    ·exact hq _ _ _ h
    ·exact h.elim
   ·exact .inr ⟨h,_,w0,hq _ _ _ hq0⟩
  ·rw[if_neg hw]at h⊢
   exact ih _ _ h
theorem FA (b2 b3:Value) (w:World):CallsD Tryz.prog 157 #[b2,b3] .returning w fun e u' w'=> e= .returned (.tuple #[])∧u'= .returning∧w'=w:=by
 have hnn:∀w:World,(binOp BinOp.neq 20 .nilIface .nilIface).run Tryz.prog w= .ok (.bool false) w:=fun _=> a8
 refine callsD_of_wpS Tryz.func157 rfl fun c₀ cs hu=> ?_
 apply wpS_seq
 apply wpS_region
 simp[wpOpsS,go_sem,recoverD,hu,Tryz.ntmps157,Exit.thenS]
 apply wpS_seq
 apply wpS_region
 simp[wpOpsS,go_sem,hnn,Exit.thenS]
 refine wpS_cond (t:=false) (by simp[Act.eval,Array.replicate]) ?_
 simp only[Bool.false_eq_true,if_false]
 refine wpS_of_wp (wp_skip ?_)
 cases c₀
 simp_all [bodyPostS,results,Tryz.results157]
theorem ko {P:Program}{f:FuncId}{fn:Func}{c:Code}(hf:P.funcs[f]? =some fn) (hb:fn.body=some c) (hn:(fn.name== "runtime.NumGoroutine")=false) (xs:Array Value) (w:World):(callFunc f xs).run P w= .ok (.enter f xs) w:=by
 have hn':¬fn.name= "runtime.NumGoroutine" :=by simpa using hn
 simp[callFunc,hf,hb,hn']
theorem CU {G:cK}{H:cG}{s:SV}{l:List En} [hg:Glb G H] [hs:Sl H s eB (fA l)] (hok:rV l) (hl:l.length≤100000000) (hn:(fA l).length≤1000000000):SC G Tryz.prog 111 [s.val] H (fun v H'=> ∃(b:Nat) (se:SV),v= .tuple #[.pointer (some ⟨b,0,none⟩), .nilIface]∧H'=Vr b [se.val]::Row se eEn l::H):=by
 refine⟨ko Tryz.func111 rfl (a8),fun w hw=> ?_⟩
 refine calls_of_wp_defers Tryz.func111 rfl ?_
 have hN:Tryz.f111.ntmps=10:=rfl
 have ha0:Fr 10 (rO 0 [s.val]) {tmps:= [s.val].toArray++Array.replicate (Tryz.f111.ntmps - [s.val].toArray.size) undef,defers:= []}:=by
  refine⟨by simp[hN],rfl,fun n v hv=> ?_⟩
  obtain⟨_,h2⟩:=tM [s.val] 0 n v hv
  have hlt:=(Yk.1 h2).1
  rw[Array.getElem?_append_left (by simpa using hlt)]
  simpa using h2
 have hW0:W G Tryz.prog 10 (Code.region 0 [(⟨some 2, .alloc 104,0, "dict.go:79", #[],none⟩:Oper),⟨some 3, .alloc 49,0, "dict.go:79", #[],none⟩].toArray false) (fun e t H'=> e= .normal∧∃b2 b3:Nat,t=put (put (rO 0 [s.val]) (some 2) (.pointer (some ⟨b2,0,none⟩))) (some 3) (.pointer (some ⟨b3,0,none⟩))∧H'=Vr b3 [.nilIface]::Vr b2 [.pointer none]::H) (rO 0 [s.val]) H:=
  wr_ (alc (k:=fun b2=> alc (k:=fun b3=> on_ ⟨rfl,b2,b3,rfl,rfl⟩)))
 refine wp_seq (wp_mono (hW0.go _ w ha0 hw) ?_)
 rintro e a1 w1 ⟨t1,H1,ha1,hw1,rfl,b2,b3,rfl,rfl⟩
 simp only[Exit.then]
 have hL0:=ha1.look 0 s.val rfl
 have hL2:=ha1.look 2 _ rfl
 have hL3:=ha1.look 3 _ rfl
 refine wp_seq (wp_region_lit (l:= [(⟨some 4, .makeFunc (.func 157) #[] #[.tmp 2, .tmp 3],1, "dict.go:80", #[],none⟩:Oper),⟨none, .defer ⟨.value (.tmp 4), #[], #[]⟩,0, "dict.go:80", #[⟨0, .data⟩],none⟩]) ?_)
 have e2:a1.eval (.tmp 2)= .pointer (some ⟨b2,0,none⟩):=ha1.agree _ _ rfl
 have e3:a1.eval (.tmp 3)= .pointer (some ⟨b3,0,none⟩):=ha1.agree _ _ rfl
 unfold wpList
 rw[if_pos (cg)]
 left
 show Oper.upon _ _ _ _ _ ((execOp a1.eval _).run _ _)
 have hx:(execOp a1.eval ⟨some 4, .makeFunc (.func 157) #[] #[.tmp 2, .tmp 3],1, "dict.go:80", #[],none⟩).run Tryz.prog w1= .ok (.value (.func (.func 157) #[] #[.pointer (some ⟨b2,0,none⟩), .pointer (some ⟨b3,0,none⟩)])) w1:=by
  simp[execOp,Instr.makeFunc,e2,e3,Sem.run_bind,Sem.run_pure,Result.andThen_ok]
 rw[hx,Oper.upon_value]
 have ha2:=ha1.put (d:=some 4) rfl (.func (.func 157) #[] #[.pointer (some ⟨b2,0,none⟩), .pointer (some ⟨b3,0,none⟩)])
 obtain⟨a2,ea2⟩:∃a2,a2=a1.put (some 4) (.func (.func 157) #[] #[.pointer (some ⟨b2,0,none⟩), .pointer (some ⟨b3,0,none⟩)]):=⟨_,rfl⟩
 rw[←ea2]at ha2
 show wpList _ _ _ _ (a1.put (some 4) _) w1
 rw[←ea2]
 have e4:a2.eval (.tmp 4)= .func (.func 157) #[] #[.pointer (some ⟨b2,0,none⟩), .pointer (some ⟨b3,0,none⟩)]:=ha2.agree _ _ rfl
 unfold wpList
 rw[if_pos (cg)]
 left
 show Oper.upon _ _ _ _ _ ((execOp a2.eval _).run _ _)
 have hy:(execOp a2.eval ⟨none, .defer ⟨.value (.tmp 4), #[], #[]⟩,0, "dict.go:80", #[⟨0, .data⟩],none⟩).run Tryz.prog w1= .ok (.defer ⟨.fn (.func 157) #[.pointer (some ⟨b2,0,none⟩), .pointer (some ⟨b3,0,none⟩)], #[]⟩) w1:=by
  simp[execOp,resolve,e4,Deferred.ofValue,Sem.run_bind,Sem.run_pure,Result.andThen_ok]
 rw[hy,Oper.upon_defer]
 refine wpList_nil ?_
 simp only[Exit.then]
 have ed:a2.defers= []:=ha2.defers
 obtain⟨d,hd⟩:∃d:Deferred,d=⟨.fn (.func 157) #[.pointer (some ⟨b2,0,none⟩), .pointer (some ⟨b3,0,none⟩)], #[]⟩:=⟨_,rfl⟩
 rw[←hd,show Act.put {a2 with defers:=d::a2.defers} none undef={a2 with defers:=a2.defers++ [d]}from by rw[ed];all_goals rfl]
 refine wp_seq (wp_region_lit (l:= [(⟨some 5, .move (.tmp 0),31, "dict.go:85", #[],none⟩:Oper),⟨some 6, .call ⟨.value (.func 38), #[.tmp 5], #[31]⟩,123, "dict.go:85", #[⟨0, .data⟩],none⟩,⟨some 7, .call ⟨.value (.func 158), #[.tmp 6], #[123]⟩,175, "dict.go:85", #[⟨1, .data⟩,⟨1, .chain⟩],none⟩,⟨some 8, .build 177 #[(0, .tmp 7)],177, "dict.go:85", #[⟨2, .data⟩],none⟩,⟨some 9, .box 177 (.tmp 8),104, "dict.go:85", #[⟨3, .data⟩],none⟩,⟨none, .store 104 (.tmp 2) (.tmp 9),0, "dict.go:85", #[⟨4, .data⟩,⟨2, .chain⟩,⟨0, .phase⟩,⟨1, .phase⟩,⟨2, .phase⟩,⟨3, .phase⟩,⟨4, .phase⟩],none⟩,⟨none, .store 49 (.tmp 3) (.const .nilIface),0, "dict.go:85", #[⟨5, .chain⟩,⟨0, .phase⟩,⟨1, .phase⟩,⟨2, .phase⟩,⟨3, .phase⟩,⟨4, .phase⟩,⟨5, .phase⟩],none⟩]) (rl [d] _ a2 w1 ?_))
 refine rn (Q:=up G 10 (fun e t H'=> e= .normal∧∃(b:Nat) (se:SV),cJ H' (Vr b [se.val]::Row se eEn l::H)∧HQ Tryz.prog Tryz.f111 (fun v _=> v= .tuple #[.pointer (some ⟨b,0,none⟩), .nilIface]) .ret t H')) (fun e a' w' hu=> ?_) _ _ _ (O.go ?_ a2 w1 ha2 hw1)
 ·obtain⟨t',H',ha',hw',rfl,b,se,hsu,he,v,rfl,hrun⟩:=hu
  simp only[Exit.then]
  refine wp_ret ?_
  show Leaves _ _ a'.tmps _ (a'.defers++ [d]) .returning w'
  rw[ha'.defers,Ye,hd]
  refine leaves_cons (f:=157) (args:= #[.pointer (some ⟨b2,0,none⟩), .pointer (some ⟨b3,0,none⟩)]) (an) ?_ ?_
  ·show(callFunc 157 (#[]++ #[_,_])).run _ _=_
   exact ko Tryz.func157 rfl (a8) _ _
  ·refine(FA _ _ w').mono ?_
   rintro e u' w'' ⟨rfl,rfl,rfl⟩
   exact⟨_,hrun G 10 a' _ ha' hw',_,hsu.sat hw',b,se,rfl,rfl⟩
 ·refine e_ mv (k:=c1_ rfl (iS (xs:=fA l) (aa)) (k:=?_))
  rintro _ _ ⟨br,rfl,rfl⟩
  refine c1_ rfl (A4 hok hl hn) (k:=?_)
  rintro _ _ ⟨se,rfl,rfl⟩
  refine e_ (bld [(0,_)]) (k:=bxx (k:=fun b9=> sto (k:=sto (k:=on_ ⟨rfl,b9,se,hsb,?_⟩))))
  exact rt_ Tryz.results111 (k:=rfl)
end Go.Sx
