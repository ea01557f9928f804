import Derived.Test.YtefgpomabdplbaaGreatDoorQ37
set_option linter.unusedVariables false
set_option linter.unusedSimpArgs false
set_option linter.unusedSectionVars false
set_option linter.unnecessarySimpa false
set_option maxHeartbeats 0
namespace Go.Sx
open Go Go.Proofs
set_option maxRecDepth 100000
structure Bj (q:PtD):Prop where
 n:q.ds.length≤1048576
 f:1≤q.fs.length∧q.fs.length≤1000000000
 wl:q.dw.length=(q.ds.length+63) / 64
 w:okW q.dw
theorem uu {H:cG}{a:PtA}{q:PtD} [hp:dq H a q]:a.l.length=q.ds.length:=hp.docs.1
theorem EZ {G:cK}{H:cG}{a:PtA}{q:PtD}{d:Int} [hp:dq H a q]:SC G Tryz.prog 58 [.pointer (some ⟨a.g,0,none⟩), .int .i64 d] H (fun v H'=> v= .bool (decide (0≤d) && decide (d<((q.ds.length:Nat):Int)))∧H'=H):=by
 have hl:=uu (a:=a) (q:=q) (H:=H)
 refine sWk Tryz.func58 Tryz.ntmps58 ?_
 refine gk (k:=dh 8 15 (k:=fun h1=>gk (k:=edq)) (q:=go ?_))
 refine gk (k:=rt_ Tryz.results58 (k:=?_))
 exact⟨_,hsb,by rw[←hl];all_goals rfl,rfl⟩
theorem Md {G:cK}{H:cG}{a:PtA}{q:PtD} [hp:dq H a q]:SC G Tryz.prog 25 [.pointer (some ⟨a.g,0,none⟩)] H (fun v H'=> v= .int .i64 ((q.ds.length:Nat):Int)∧H'=H):=by
 have hl:=uu (a:=a) (q:=q) (H:=H)
 refine sWk Tryz.func25 Tryz.ntmps25 ?_
 refine go ?_
 refine gk (k:=rt_ Tryz.results25 (k:=?_))
 exact⟨_,hsb,by rw[←hl];all_goals rfl,rfl⟩
theorem Mb {G:cK}{H:cG}{g:Nat}{fv lv wv bl im:Value}{l:List (Int×SV)}{sd:SV} [cQ H g [fv,sd.val,lv,wv,bl,im]] [Sl H sd eD l]:SC G Tryz.prog 25 [.pointer (some ⟨g,0,none⟩)] H (fun v H'=> v= .int .i64 ((l.length:Nat):Int)∧H'=H):=by
 refine sWk Tryz.func25 Tryz.ntmps25 ?_
 refine go ?_
 refine gk (k:=rt_ Tryz.results25 (k:=?_))
 exact⟨_,hsb,rfl,rfl⟩
theorem PX {G:cK}{H:cG}{a:PtA}{q:PtD}{d:Nat}{x:Doc} [hp:dq H a q] (hx:q.ds[d]? =some x):SC G Tryz.prog 63 [.pointer (some ⟨a.g,0,none⟩), .int .i64 ((d:Nat):Int)] H (fun v H'=> v= .tuple #[.int .i64 x.1, .bool true]∧H'=H):=by
 have hl:=uu (a:=a) (q:=q) (H:=H)
 have hxl:=(Yk.1 hx).1
 obtain⟨z,hz⟩:∃z,a.l[d]? =some z:=⟨_,Yi (aa)⟩
 obtain⟨hz1,hz2⟩:=hp.docs.2 d z x hz hx
 refine sWk Tryz.func63 Tryz.ntmps63 ?_
 refine go ?_
 refine d2_ rfl (EZ (a:=a)) (k:=gk (k:=wi_ (k:=fun h1=>?_) (m:=fun h1=>?_)))
 ·have h9:=h1
  exact absurd h9 (aM)
 refine wk_ (qn_ (ws_ (wr_ (e_ mv (k:=e_ nck (k:=e_ fla (k:=e_ ldv (k:=e_ mv (k:=e_ ixa (k:=e_ fle (k:=e_ (lfl (hy:=hz)) (k:=go ?_))))))))))))
 refine gk (k:=rt_ Tryz.results63 (k:=?_))
 exact⟨_,hsb,by rw[←hz1];all_goals rfl,rfl⟩
theorem KT {G:cK}{H:cG}{a:PtA}{q:PtD}{f d:Nat} [hp:dq H a q] (hf:f<q.fs.length) (hd:d<q.ds.length):SC G Tryz.prog 129 [.pointer (some ⟨a.g,0,none⟩), .int .i64 ((f:Nat):Int), .int .i64 ((d:Nat):Int)] H (fun v H'=> v= .int .i64 ((((dP q.fs q.ds f).getD d 0:Nat)):Int)∧H'=H):=by
 have hl:=hp.lens.1
 have hll:(dP q.fs q.ds f).length=q.ds.length:=by rw[dP,Yh]
 have hil:(cV (dP q.fs q.ds f)).length=q.ds.length:=by rw[dO,hll]
 obtain⟨s,hs⟩:∃s,a.lvs[f]? =some s:=⟨_,Yi (aa)⟩
 haveI hsl:Sl H s eI (cV (dP q.fs q.ds f)):=hp.lens.2 f s hs
 have hrow:(cV (dP q.fs q.ds f))[d]? =some ((((dP q.fs q.ds f).getD d 0:Nat)):Int):=by
  rw[cV,Xd,List.getD_eq_getElem?_getD,Yi (aa)];all_goals rfl
 refine sWk Tryz.func129 Tryz.ntmps129 ?_
 refine ws_ (wr_ (e_ asn (k:=on_ (qn_ (ws_ (ws_ (wr_ (e_ mv (k:=e_ ilt (k:=e_ mv (k:=dN 8 17 (k:=fun h1=>eg_ mv (k:=eg_ mv (k:=eg_ nck (k:=eg_ fla (k:=eg_ ldv (k:=eg_ lnn (k:=eg_ ige (k:=e_ pkf (k:=on_ (edq)))))))))) (q:=e_ mv (k:=dN 5 23 (k:=fun h2=>eg_ mv (k:=eg_ mv (k:=kK (vs:=[_,_]) (hc:=(EZ (a:=a))) (k:=eg_ k8 (k:=e_ pkf (k:=on_ (edq))))))) (q:=?_))))))))))))))
 refine on_ (qn_ (wi_ (k:=fun h3=>?_) (m:=fun h3=>?_)))
 ·exact absurd h3 (aM)
 refine wk_ (qn_ (ws_ (wr_ (e_ mv (k:=e_ nck (k:=e_ fla (k:=e_ ldv (k:=e_ mv (k:=e_ ixa (k:=e_ (lel (hy:=hs)) (k:=e_ mv (k:=e_ ixa (k:=e_ (lel (hy:=hrow)) (k:=?_))))))))))))))
 refine e_ asn (k:=on_ (qn_ (wt_ (rt_ Tryz.results129 (k:=?_)))))
 exact⟨_,hsb,rfl,rfl⟩
theorem ES {G:cK}{H:cG}{a:PtA}{q:PtD} [hp:dq H a q] (hq:Bj q):SC G Tryz.prog 46 [.pointer (some ⟨a.g,0,none⟩)] H (fun v H'=> ∃s':SV,v= .agg [s'.val].toArray∧H'=Row s' eF q.fs::H):=by
 have hne:q.fs≠ []:=by intro h9;have:=hq.f;rw[h9]at this;simp at this
 refine sWk Tryz.func46 Tryz.ntmps46 ?_
 refine gk (k:=alc (k:=fun b2=>?_))
 refine go ?_
 refine c1_ rfl (Hw hne hq.f.2) (k:=?_)
 rintro _ _ ⟨s8,rfl,rfl⟩
 refine e_ (bld [(0,_)]) (k:=gk (k:=rt_ Tryz.results46 (k:=?_)))
 exact⟨_,hsb,s8,rfl,rfl⟩
theorem NX {G:cK}{H:cG}{b n c:Nat}{s:SV} [cQ H b [.int .i64 ((n:Nat):Int), .int .i64 ((c:Nat):Int),s.val]]:SC G Tryz.prog 114 [.pointer (some ⟨b,0,none⟩)] H (fun v H'=> v= .int .i64 ((n:Nat):Int)∧H'=H):=by
 refine sWk Tryz.func114 Tryz.ntmps114 ?_
 refine go ?_
 refine gk (k:=rt_ Tryz.results114 (k:=?_))
 exact⟨_,hsb,rfl,rfl⟩
theorem Me {G:cK}{H:cG}{b n c:Nat}{s:SV}{ws:List Nat} [cQ H b [.int .i64 ((n:Nat):Int), .int .i64 ((c:Nat):Int),s.val]] [hs:Sl H s eW ws] (hl:ws.length≤1000000):SC G Tryz.prog 115 [.pointer (some ⟨b,0,none⟩)] H (fun v H'=> ∃(b':Nat) (s':SV),v= .pointer (some ⟨b',0,none⟩)∧H'=Vr b' [.int .i64 ((n:Nat):Int), .int .i64 ((c:Nat):Int),s'.val]::Row s' eW ws::H):=by
 refine sWk Tryz.func115 Tryz.ntmps115 ?_
 refine go ?_
 refine df cI (fun i=> [8,13,15].contains i) (fun k H=> (k=3→cQ H b [.int .i64 ((n:Nat):Int), .int .i64 ((c:Nat):Int),s.val])∧(k=7→cQ H b [.int .i64 ((n:Nat):Int), .int .i64 ((c:Nat):Int),s.val])∧(k=12→cQ H b [.int .i64 ((n:Nat):Int), .int .i64 ((c:Nat):Int),s.val])) (af_ 0 (q:=cD fun H hH=>mv) (k:=af_ 1 (q:=cD fun H hH=>nck) (k:=af_ 2 (q:=cD fun H hH=>fla) (k:=?_))))
 refine cE 3 rfl rfl (a8) rfl (cD fun H hH=>ak) (?_)
 refine af_ 4 (q:=cD fun H hH=>mv) (k:=af_ 5 (q:=cD fun H hH=>nck) (k:=af_ 6 (q:=cD fun H hH=>fla) (k:=?_)))
 refine cE 7 rfl rfl (a8) rfl (cD fun H hH=>ar) (?_)
 refine af_ 9 (q:=cD fun H hH=>mv) (k:=af_ 10 (q:=cD fun H hH=>nck) (k:=af_ 11 (q:=cD fun H hH=>fla) (k:=?_)))
 refine cE 12 rfl rfl (a8) rfl (cD fun H hH=>aZ) (?_)
 refine cN 8 rfl (a8) rfl (fun k hk=> ⟨fun hi=> ab,fun hi=> ab,fun hi=> ab⟩) (iN eW rfl) ?_
 rintro _ _ ⟨s11,rfl,rfl⟩
 refine cN 13 rfl (a8) rfl (fun k hk=> ⟨fun hi=> ab,fun hi=> ab,fun hi=> ab⟩) (eY rfl rfl rfl rfl (af) (af)) ?_
 rintro _ _ ⟨s16,rfl,rfl⟩
 refine af_ 14 (q:=cD fun H hH=>bld [(0,_),(1,_),(2,_)]) (k:=?_)
 refine cN 15 rfl (a8) rfl (fun k hk=> ⟨fun hi=> ab,fun hi=> ab,fun hi=> absurd hk (ad)⟩) (th rfl) ?_
 rintro _ _ ⟨b18,rfl,rfl⟩
 refine af_ 16 (q:=cD fun H hH=>asn) (k:=db (a8) (fun k hk=> ⟨fun hi=> ab,fun hi=> ab,fun hi=> absurd hk (ad)⟩) (gk (k:=rt_ Tryz.results115 (k:=?_))))
 exact⟨_,hsb,_,_,rfl,rfl⟩
theorem EX {G:cK}{H:cG}{g b n c:Nat}{s:SV}{ws:List Nat}{dv fv lv wv bl im:Value}{l:List (Int×SV)}{sd:SV} [cQ H b [.int .i64 ((n:Nat):Int), .int .i64 ((c:Nat):Int),s.val]] [hs:Sl H s eW ws] [cQ H g [fv,sd.val,lv,wv,bl,im]] [Sl H sd eD l] (hl:ws.length≤1000000) (hn:l.length=n):SC G Tryz.prog 57 [.pointer (some ⟨g,0,none⟩), .pointer (some ⟨b,0,none⟩)] H (fun v H'=> ∃(p b':Nat) (s':SV),v= .tuple #[.pointer (some ⟨p,0,none⟩), .nilIface]∧H'=Vr p [.pointer (some ⟨g,0,none⟩), .pointer (some ⟨b',0,none⟩)]::Vr b' [.int .i64 ((n:Nat):Int), .int .i64 ((c:Nat):Int),s'.val]::Row s' eW ws::H):=by
 refine sWk Tryz.func57 Tryz.ntmps57 ?_
 refine ws_ (wr_ (e_ asn (k:=e_ asn (k:=on_ (qn_ (ws_ (ws_ (wr_ (e_ mv (k:=?_))))))))))
 refine e_ (dU rfl) (k:=?_)
 refine gk (k:=wi_ (k:=fun h1=>?_) (m:=fun h1=>?_))
 ·exact absurd h1 (an)
 refine go ?_
 refine d1_ rfl (NX (n:=n) (c:=c) (s:=s)) (k:=go ?_)
 refine d1_ rfl (Mb (sd:=sd) (l:=l) (fv:=fv) (lv:=lv) (wv:=wv) (bl:=bl) (im:=im)) (k:=gk (k:=wi_ (k:=fun h2=>?_) (m:=fun h2=>?_)))
 ·exact absurd h2 (by simp[hn])
 refine go ?_
 refine c1_ rfl (Me (n:=n) (c:=c) (s:=s) hl) (k:=?_)
 rintro _ _ ⟨b31,s31,rfl,rfl⟩
 refine e_ (bld [(0,_),(1,_)]) (k:=bxx (k:=fun b33=>?_))
 refine gk (k:=rt_ Tryz.results57 (k:=?_))
 exact⟨_,hsb,_,_,_,rfl,rfl⟩
theorem Mh {G:cK}{H:cG}{a:PtA}{q:PtD}{d:Int} [hp:dq H a q] (hq:Bj q):SC G Tryz.prog 27 [.pointer (some ⟨a.p,0,none⟩), .int .i64 d] H (fun v H'=> v= .bool (decide (0≤d) && decide (d<((q.ds.length:Nat):Int)) && !oG q.dw d.toNat)∧H'=H):=by
 refine sWk Tryz.func27 Tryz.ntmps27 ?_
 refine go ?_
 refine d2_ rfl (EZ (a:=a)) (k:=sp_ (mv) (k:=fun h1=>?_) (m:=fun h1=>?_))
 ·obtain⟨e,rfl⟩:∃e:Nat,d=((e:Nat):Int):=⟨d.toNat,az⟩
  have hel:e<q.ds.length:=az
  refine go ?_
  refine sg_ (cW (vs:= [_,_]) rfl (LY (n:=q.ds.length) (c:=a.cnt) (s:=a.ws) (ws:=q.dw) hel hq.n hq.wl hq.w)) (k:=?_)
  rintro _ _ ⟨rfl,rfl⟩
  refine gk (k:=rt_ Tryz.results27 (k:=?_))
  exact⟨_,hsb,by simp[gF,hel],rfl⟩
 have hz:(decide (0≤d) && decide (d<((q.ds.length:Nat):Int)))=false:=by(have h9:=h1;simp;omega)
 refine gk (k:=rt_ Tryz.results27 (k:=?_))
 exact⟨_,hsb,by rw[hz,Bool.false_and];all_goals rfl,rfl⟩
theorem DA {n i:Nat}{f:Nat→Bool}(hi:i<n):((List.range n).drop i).find? f=if f i=true then some i else((List.range n).drop (i+1)).find? f:=by
 rw[dF (l:=List.range n) (i:=i) (x:=i) (by rw[List.getElem?_range hi]),List.find?_cons]
 all_goals (cases f i <;> rfl)
theorem A3 {G:cK}{H:cG}{a:PtA}{q:PtD}{i0:Int} [hp:dq H a q] (hq:Bj q) (hi0:i0≤4294967296):SC G Tryz.prog 116 [.pointer (some ⟨a.p,0,none⟩), .int .i64 i0] H (fun v H'=> ((∃d:Nat,((List.range q.ds.length).drop i0.toNat).find? (fun d=> !oG q.dw d)=some d∧v= .tuple #[.int .i64 ((d:Nat):Int), .bool true])∨(((List.range q.ds.length).drop i0.toNat).find? (fun d=> !oG q.dw d)=none∧v= .tuple #[.int .i64 0, .bool false]))∧H'=H):=by
 have hqn:=hq.n
 refine sWk Tryz.func116 Tryz.ntmps116 ?_
 refine ws_ (wr_ (e_ asn (k:=e_ asn (k:=on_ (qn_ (ws_ (ws_ (wr_ (e_ mv (k:=?_))))))))))
 refine e_ (evq (mO rfl rfl) (congrArg (Value.int .i64) (show _=((i0.toNat:Nat):Int)from aa))) (k:=?_)
 refine gk (k:=dt (Nat) (fun y=> i0.toNat≤y∧y≤max i0.toNat q.ds.length∧((List.range q.ds.length).drop i0.toNat).find? (fun d=> !oG q.dw d)=((List.range q.ds.length).drop y).find? (fun d=> !oG q.dw d)) (fun y=> [(1, .int .i64 ((y:Nat):Int))]) [(0,_)] (fun y=> []) _ (fun y=> q.ds.length - y) (i0.toNat) (h0:=?_) (k:=?_))
 ·try dsimp only
  exact⟨Nat.le_refl _,aa,rfl⟩
 rintro i ⟨hi1,hi2,hfd⟩
 try dsimp only[Yd,Ye]at*
 refine go ?_
 refine d1_ rfl (Md (a:=a)) (k:=gk (k:=wi_ (k:=fun h1=>?_) (m:=fun h1=>?_)))
 ·have hil:i<q.ds.length:=by have h9:=h1;omega
  rw[DA hil]at hfd
  refine go ?_
  refine d2_ rfl (LY (n:=q.ds.length) (c:=a.cnt) (s:=a.ws) (ws:=q.dw) hil hq.n hq.wl hq.w) (k:=gk (k:=wi_ (k:=fun h2=>?_) (m:=fun h2=>?_)))
  ·rw[if_pos (aO)]at hfd
   refine gk (k:=rt_ Tryz.results116 (k:=?_))
   exact⟨_,hsb, .inl ⟨i,hfd,rfl⟩,rfl⟩
  rw[if_neg (aO)]at hfd
  refine go ?_
  refine ln_ (i+1) (k:=?_)
  try dsimp only
  exact⟨aa,aa,hfd⟩
 rw[show(List.range q.ds.length).drop i= []from List.drop_eq_nil_of_le (by rw[List.length_range];have h9:=h1;omega),List.find?_nil]at hfd
 refine gk (k:=rt_ Tryz.results116 (k:=?_))
 exact⟨_,hsb, .inr ⟨hfd,rfl⟩,rfl⟩
theorem ov {G:cK}{P:Program}{t:Tm}{H:cG}{dst:Option Tmp}{ty:TypeId}{pos:String}{after:Array Edge}{g:Option (Nat×Bool)}{T U:TypeId}{x y:Operand}{i j:Int}(hx:evo t x=some (.int .u64 i)) (hy:evo t y=some (.int .u64 j)) (a b:Nat) (ha:i=a) (hb:j=b) (h:a*b<18446744073709551616):
 Ev G P ⟨dst, .binOp .mul T x y U,ty,pos,after,g⟩ t H (.int .u64 ((a*b:Nat):Int)):=by
 have:=sD (G:=G) (P:=P) (H:=H) (dst:=dst) (ty:=ty) (pos:=pos) (after:=after) (g:=g) (T:=T) (U:=U) (k:= .u64) 18446744073709551616 rfl hx hy rfl a b ha hb
 rwa [Nat.mod_eq_of_lt h]at this
theorem xc (n:Nat):eu n≤1048576:=Nat.min_le_right _ _
theorem sW {G:cK}{H:cG}{n:Int}:SC G Tryz.prog 192 [.int .i64 n] H (fun v H'=> v= .int .u64 ((eu n.toNat:Nat):Int)∧H'=H):=by
 have hc:=xc n.toNat
 refine sWk Tryz.func192 Tryz.ntmps192 ?_
 refine ws_ (wr_ (e_ asn (k:=on_ (qn_ (ws_ (wr_ (e_ mv (k:=?_))))))))
 refine e_ (mO rfl rfl) (k:=?_)
 refine e_ (evq (mN rfl rfl) (congrArg (Value.int .i64) (show _=((eu n.toNat:Nat):Int)from by unfold eu;omega))) (k:=?_)
 refine e_ (cU 18446744073709551616 rfl rfl rfl (eu n.toNat) rfl (aa)) (k:=?_)
 refine gk (k:=rt_ Tryz.results192 (k:=?_))
 exact⟨_,hsb,rfl,rfl⟩
theorem PO {G:cK}{H:cG}{f l a:Int}:SC G Tryz.prog 164 [.int .i64 f, .int .i64 l, .int .i64 a] H (fun v H'=> v= .int .u64 ((Jc f.toNat l.toNat a.toNat:Nat):Int)∧H'=H):=by
 have hf:=xc f.toNat
 have hl:=xc l.toNat
 have ha:=xc a.toNat
 have hA1:1≤max (eu a.toNat) 1:=Nat.le_max_right _ _
 have hA2:max (eu a.toNat) 1≤1048576:=aa
 have hm1:10240*eu f.toNat*max (eu a.toNat) 1≤10240*1048576*1048576:=Nat.mul_le_mul (Nat.mul_le_mul (Nat.le_refl _) hf) hA2
 have hm2:10*eu f.toNat*max (eu a.toNat) 1≤10*1048576*1048576:=Nat.mul_le_mul (Nat.mul_le_mul (Nat.le_refl _) hf) hA2
 refine sWk Tryz.func164 Tryz.ntmps164 ?_
 refine go ?_
 refine d1_ rfl (sW) (k:=go ?_)
 refine d1_ rfl (sW) (k:=go ?_)
 refine d1_ rfl (sW) (k:=?_)
 refine e_ (evq (mO rfl rfl) (congrArg (Value.int .u64) (show _=((max (eu a.toNat) 1:Nat):Int)from aa))) (k:=?_)
 refine e_ asn (k:=e_ asn (k:=e_ asn (k:=on_ (qn_ (ws_ (wr_ (e_ mv (k:=?_))))))))
 refine e_ (ov rfl rfl 10240 (eu f.toNat) rfl rfl (aa)) (k:=?_)
 refine e_ mv (k:=?_)
 refine e_ (ov rfl rfl (10240*eu f.toNat) (max (eu a.toNat) 1) rfl rfl (aa)) (k:=?_)
 refine e_ mv (k:=?_)
 refine e_ (ov rfl rfl 10 (eu f.toNat) rfl rfl (aa)) (k:=?_)
 refine e_ mv (k:=?_)
 refine e_ (ov rfl rfl (10*eu f.toNat) (max (eu a.toNat) 1) rfl rfl (aa)) (k:=?_)
 refine e_ mv (k:=?_)
 refine e_ (ov rfl rfl 3 (max (eu a.toNat) 1) rfl rfl (aa)) (k:=?_)
 refine e_ (jY 18446744073709551616 rfl rfl rfl rfl (10*eu f.toNat*max (eu a.toNat) 1) (3*max (eu a.toNat) 1) rfl rfl (aa)) (k:=?_)
 refine e_ mv (k:=?_)
 refine e_ (ov rfl rfl 9 (eu l.toNat) rfl rfl (aa)) (k:=?_)
 refine e_ (jY 18446744073709551616 rfl rfl rfl rfl (10*eu f.toNat*max (eu a.toNat) 1+3*max (eu a.toNat) 1) (9*eu l.toNat) rfl rfl (aa)) (k:=?_)
 refine e_ (gn rfl rfl (10240*eu f.toNat*max (eu a.toNat) 1) (10*eu f.toNat*max (eu a.toNat) 1+3*max (eu a.toNat) 1+9*eu l.toNat) rfl rfl (aa) (by show _≤(18446744073709551615:Int);omega)) (k:=?_)
 refine gk (k:=rt_ Tryz.results164 (k:=?_))
 exact⟨_,hsb,rfl,rfl⟩
structure MX where
 pa:PrA
 all:Bool
 co:SV
 pt:PtA
 cu:SV
 cs:List Nat
structure MY where
 stk:List VV
 pl:Int
 pc:Nat
 st:Nat
 vi:Nat
abbrev mV (x:MX) (s:SV) (y:MY):List Value:= [x.pa.av.val,x.pa.cu.val,x.pa.ne.val, .bool x.all,x.pa.dr.val,x.pa.co.val,x.co.val, .pointer (some ⟨x.pt.p,0,none⟩),x.cu.val, .func (.func 75) #[] #[], .func (.func 76) #[] #[], .func (.func 78) #[] #[], .func (.func 79) #[] #[], .func (.func 80) #[] #[], .func (.func 81) #[] #[], .func (.func 82) #[] #[], .func (.func 85) #[] #[], .func (.func 87) #[] #[], .func (.func 89) #[] #[], .func (.func 91) #[] #[], .func (.func 93) #[] #[], .func (.func 95) #[] #[], .func (.func 96) #[] #[], .func (.func 97) #[] #[], .func (.func 98) #[] #[], .func (.func 101) #[] #[],s.val, .int .i64 y.pl, .int .i64 ((y.pc:Nat):Int), .int .i64 ((y.st:Nat):Int), .int .i64 ((y.vi:Nat):Int)]
def Mo (m:Nat) (z:MX×MY):Hp:=Ex fun s:SV=> [Vr m (mV z.1 s z.2),Row s eVV z.2.stk]
theorem jB {m:Nat}{x:MX}{y:MY}{s:SV}{R:cG}:cJ (Vr m (mV x s y)::Row s eVV y.stk::R) (Mo m (x,y)::R):=sA (K:=Mo) (i:=m) (a:=(x,y)) rfl s
theorem nN {G:cK}{P:Program}{H:cG}{f:FuncId}{args:List Value}{K:Value→cG→Prop}{R:cG}{m:Nat}{x:MX}{y:MY}(hr:Rem H Mo m (x,y) R) (h:∀s:SV,SC G P f args (Vr m (mV x s y)::Row s eVV y.stk::R) K):SC G P f args H K:=
 ⟨(h SV.nil).enter,fun w hw=> let ⟨s,hs⟩:=mo (K:=Mo) rfl hr hw;(h s).call w hs⟩
theorem nF {G:cK}{H R:cG}{m:Nat}{x:MX}{y:MY}{a:Bool}{b:Nat} [hr:Rem H Mo m (x,y) R] (hl:y.stk.length≤1000000000):SC G Tryz.prog 77 [.pointer (some ⟨m,0,none⟩), .agg [.bool a, .int .u64 ((b:Nat):Int)].toArray] H (fun v H'=> v= .tuple #[]∧H'=Mo m (x,{y with stk:=y.stk++ [(a,b)]})::R):=by
 refine nN hr (fun s=> ?_)
 refine sWk Tryz.func77 Tryz.ntmps77 ?_
 refine gk (k:=bxx (k:=fun b3=>?_))
 refine go ?_
 refine df cI (fun i=> [6,7,10].contains i) (fun k H=> (k=4→cQ H m (mV x s y))∧(k=5→cQ H b3 [.bool a, .int .u64 ((b:Nat):Int)])) (af_ 0 (q:=cD fun H hH=>mv) (k:=af_ 1 (q:=cD fun H hH=>mv) (k:=af_ 2 (q:=cD fun H hH=>nck) (k:=af_ 3 (q:=cD fun H hH=>fla) (k:=?_)))))
 refine cE 4 rfl rfl (a8) rfl (cD fun H hH=>ak) (?_)
 refine cE 5 rfl rfl (a8) rfl (cD fun H hH=>by have hN:=hH.2 rfl;exact lds) (?_)
 refine cN 6 rfl (a8) rfl (fun k hk=> ⟨fun hi=> ab,fun hi=> ab⟩) (ew eVV rfl rfl) ?_
 rintro _ _ ⟨s10,rfl,rfl⟩
 refine cN 7 rfl (a8) rfl (fun k hk=> ⟨fun hi=> ab,fun hi=> absurd hk (ad)⟩) (eY rfl rfl rfl rfl (af) (af)) ?_
 rintro _ _ ⟨s11,rfl,rfl⟩
 refine af_ 8 (q:=cD fun H hH=>nck) (k:=af_ 9 (q:=cD fun H hH=>fla) (k:=?_))
 refine cN 10 rfl (a8) rfl (fun k hk=> ⟨fun hi=> absurd hk (ad),fun hi=> absurd hk (ad)⟩) (dM rfl rfl rfl) ?_
 rintro _ _ ⟨rfl,rfl⟩
 refine db (a8) (fun k hk=> ⟨fun hi=> absurd hk (ad),fun hi=> absurd hk (ad)⟩) (rt_ Tryz.results77 (k:=?_))
 exact⟨_,cJ.trans (hsb) (jB (x:=x) (y:={y with stk:=y.stk++ [(a,b)]}) (s:=s11)),rfl,rfl⟩
theorem Ij {l:List VV}(h:0<l.length):l[l.length - 1]? =some (fR l):=by
 rw[fR,List.getLast?_eq_getElem?,Yi (aa)];all_goals rfl
theorem Ly {G:cK}{H:cG}{m:Nat}{x:MX}{y:MY}{s:SV} [hm:cQ H m (mV x s y)] [hs:Sl H s eVV y.stk] (h0:0<y.stk.length) (hl:y.stk.length≤1000000000):SC G Tryz.prog 100 [.pointer (some ⟨m,0,none⟩)] H (fun v H'=> v= .agg [.bool (fR y.stk).1, .int .u64 (((fR y.stk).2:Nat):Int)].toArray∧H'=H):=by
 have hg:=Ij h0
 refine sWk Tryz.func100 Tryz.ntmps100 ?_
 refine gk (k:=alc (k:=fun b2=>?_))
 refine go ?_
 refine df cI (fun i=> [12].contains i) (fun k H=> (k=3→cQ H m (mV x s y))∧(k=7→cQ H m (mV x s y))∧(k=8→Sl H s eVV y.stk)∧(k=10→Sl H s eVV y.stk)∧(k=11→Sl H s eVV y.stk)) (af_ 0 (q:=cD fun H hH=>mv) (k:=af_ 1 (q:=cD fun H hH=>nck) (k:=af_ 2 (q:=cD fun H hH=>fla) (k:=?_))))
 refine cE 3 rfl rfl (a8) rfl (cD fun H hH=>ak) (?_)
 refine af_ 4 (q:=cD fun H hH=>mv) (k:=af_ 5 (q:=cD fun H hH=>nck) (k:=af_ 6 (q:=cD fun H hH=>fla) (k:=?_)))
 refine cE 7 rfl rfl (a8) rfl (cD fun H hH=>ar) (?_)
 refine cE 8 rfl rfl (a8) rfl (cD fun H hH=>cf) (?_)
 refine af_ 9 (q:=cD fun H hH=>isb) (k:=?_)
 refine cE 10 rfl rfl (a8) rfl (cD fun H hH=>bV) (?_)
 refine cE 11 rfl rfl (a8) rfl (cD fun H hH=>by have hN:=hH.2.2.2.2 rfl;exact jn (hy:=hg)) (?_)
 refine cN 12 rfl (a8) rfl (fun k hk=> ⟨fun hi=> ab,fun hi=> ab,fun hi=> ab,fun hi=> ab,fun hi=> ab⟩) (dM rfl rfl rfl) ?_
 rintro _ _ ⟨rfl,rfl⟩
 refine db (a8) (fun k hk=> ⟨fun hi=> absurd hk (ad),fun hi=> absurd hk (ad),fun hi=> absurd hk (ad),fun hi=> absurd hk (ad),fun hi=> absurd hk (ad)⟩) (gk (k:=rt_ Tryz.results100 (k:=?_)))
 exact⟨_,hsb,rfl,rfl⟩
theorem tw {α:Type}{s:SV}{e:Enc α}{xs:List α}{k:Nat}{H:cG}(hk:k≤xs.length):cJ (Row s e xs::H) (Row (s.cut e.sz 0 k) e (xs.take k)::H):=fun L hL=> by
 obtain⟨L1,L2,rfl,h1,h2⟩:=hL
 refine⟨L1++L2, [],⟨L1,L2,rfl,?_,h2⟩,an⟩
 rcases h1 with⟨rfl,rfl,rfl⟩|⟨b,C,E,fz,q1,q2,q3,rfl,q5,q6,q7⟩
 ·obtain rfl:k=0:=by simpa using hk
  exact .inl ⟨rfl,rfl,rfl⟩
 ·refine .inr ⟨b,C,E,fz,?_,?_,?_,rfl,?_,q6,fun j v hv=> q7 j v ?_⟩
  ·show(if s.c=0 then s.a else s.a.map (·.add (0*e.sz)))=_
   split
   ·exact q1
   ·rw[q1];simp[Addr.add]
  ·show k - 0=(xs.take k).length
   rw[Yg];omega
  ·show k - 0≤s.c - 0
   omega
  ·show C.size=(s.c - 0)*e.sz
   rw[Nat.sub_zero];exact q5
  ·rw[Enc.all_take,List.getElem?_take]at hv
   split at hv
   ·exact hv
   ·cases hv
theorem ET {G:cK}{H R:cG}{m:Nat}{x:MX}{y:MY} [hr:Rem H Mo m (x,y) R] (h0:0<y.stk.length) (hl:y.stk.length≤1000000000):SC G Tryz.prog 94 [.pointer (some ⟨m,0,none⟩)] H (fun v H'=> v= .agg [.bool (fR y.stk).1, .int .u64 (((fR y.stk).2:Nat):Int)].toArray∧H'=Mo m (x,{y with stk:=y.stk.dropLast})::R):=by
 refine nN hr (fun s=> ?_)
 refine sWk Tryz.func94 Tryz.ntmps94 ?_
 refine gk (k:=alc (k:=fun b2=>?_))
 refine go ?_
 refine d1_ rfl (Ly (x:=x) (y:=y) (s:=s) h0 hl) (k:=alc (k:=fun b3=>?_))
 refine go ?_
 refine df cI (fun i=> [14].contains i) (fun k H=> (k=4→cQ H m (mV x s y))∧(k=8→cQ H m (mV x s y))∧(k=9→Sl H s eVV y.stk)∧(k=11→Sl H s eVV y.stk)) (af_ 0 (q:=cD fun H hH=>mv) (k:=af_ 1 (q:=cD fun H hH=>mv) (k:=af_ 2 (q:=cD fun H hH=>nck) (k:=af_ 3 (q:=cD fun H hH=>fla) (k:=?_)))))
 refine cE 4 rfl rfl (a8) rfl (cD fun H hH=>ak) (?_)
 refine af_ 5 (q:=cD fun H hH=>mv) (k:=af_ 6 (q:=cD fun H hH=>nck) (k:=af_ 7 (q:=cD fun H hH=>fla) (k:=?_)))
 refine cE 8 rfl rfl (a8) rfl (cD fun H hH=>ar) (?_)
 refine cE 9 rfl rfl (a8) rfl (cD fun H hH=>cf) (?_)
 refine af_ 10 (q:=cD fun H hH=>isb) (k:=?_)
 refine cE 11 rfl rfl (a8) rfl (cD fun H hH=>by have hN:=hH.2.2.2 rfl;exact eL rfl (bQ) 0 (y.stk.length - 1) rfl ⟨_,_,rfl,aa⟩ (aa) (aa)) (?_)
 refine af_ 12 (q:=cD fun H hH=>nck) (k:=af_ 13 (q:=cD fun H hH=>fla) (k:=?_))
 refine cN 14 rfl (a8) rfl (fun k hk=> ⟨fun hi=> ab,fun hi=> ab,fun hi=> ab,fun hi=> ab⟩) (dM rfl rfl rfl) ?_
 rintro _ _ ⟨rfl,rfl⟩
 refine db (a8) (fun k hk=> ⟨fun hi=> absurd hk (ad),fun hi=> absurd hk (ad),fun hi=> absurd hk (ad),fun hi=> absurd hk (ad)⟩) (gk (k:=rt_ Tryz.results94 (k:=?_)))
 refine⟨_,?_,rfl,rfl⟩
 refine cJ.trans (H':=Row s eVV y.stk::Vr m (mV x (s.cut 2 0 (y.stk.length - 1)) y)::R) (hsb) ((tw (k:=y.stk.length - 1) (aa)).trans ?_)
 rw[←List.dropLast_eq_take]
 exact cJ.trans (hsb) (jB (x:=x) (y:={y with stk:=y.stk.dropLast}) (s:=s.cut 2 0 (y.stk.length - 1)))
theorem KN {G:cK}{H R:cG}{m:Nat}{x:MX}{y:MY}{yes:Bool}{op A B:Nat} [hr:Rem H Mo m (x,y) R] (hA:A≤1000000000) (hp:y.pc≤1000000000):SC G Tryz.prog 99 [.pointer (some ⟨m,0,none⟩), .bool yes, .agg [.int .i64 ((op:Nat):Int), .int .u64 ((A:Nat):Int), .int .u64 ((B:Nat):Int)].toArray] H (fun v H'=> v= .tuple #[]∧H'=Mo m (x,{y with pc:=if yes=true then y.pc+A else y.pc})::R):=by
 refine nN hr (fun s=> ?_)
 refine sWk Tryz.func99 Tryz.ntmps99 ?_
 refine gk (k:=bxx (k:=fun b5=>?_))
 refine gk (k:=wi_ (k:=fun h1=>?_) (m:=fun h1=>?_))
 ·have hy:yes=true:=h1
  refine df cI (fun i=> [10].contains i) (fun k H=> (k=3→cQ H m (mV x s y))∧(k=5→cQ H b5 [.int .i64 ((op:Nat):Int), .int .u64 ((A:Nat):Int), .int .u64 ((B:Nat):Int)])) (af_ 0 (q:=cD fun H hH=>mv) (k:=af_ 1 (q:=cD fun H hH=>nck) (k:=af_ 2 (q:=cD fun H hH=>fla) (k:=?_))))
  refine cE 3 rfl rfl (a8) rfl (cD fun H hH=>ak) (?_)
  refine af_ 4 (q:=cD fun H hH=>fla) (k:=?_)
  refine cE 5 rfl rfl (a8) rfl (cD fun H hH=>aE) (?_)
  refine cE 6 rfl rfl (a8) rfl (cD fun H hH=>dy rfl (aa)) (?_)
  refine af_ 7 (q:=cD fun H hH=>iad) (k:=af_ 8 (q:=cD fun H hH=>nck) (k:=af_ 9 (q:=cD fun H hH=>fla) (k:=?_)))
  refine cN 10 rfl (a8) rfl (fun k hk=> ⟨fun hi=> ab,fun hi=> ab⟩) (dM rfl rfl rfl) ?_
  rintro _ _ ⟨rfl,rfl⟩
  refine db (a8) (fun k hk=> ⟨fun hi=> absurd hk (ad),fun hi=> absurd hk (ad)⟩) (rt_ Tryz.results99 (k:=?_))
  rw[if_pos hy];exact⟨_,cJ.trans (hsb) (jB (x:=x) (y:={y with pc:=y.pc+A}) (s:=s)),rfl,rfl⟩
 have hy:¬yes=true:=bL
 refine gk (k:=rt_ Tryz.results99 (k:=?_))
 rw[if_neg hy];exact⟨_,cJ.trans (hsb) (jB (x:=x) (y:=y) (s:=s)),rfl,rfl⟩
theorem PY {G:cK}{H R:cG}{m:Nat}{x:MX}{y:MY}{op A B:Nat} [hr:Rem H Mo m (x,y) R] (h0:0<y.stk.length) (hl:y.stk.length≤1000000000):SC G Tryz.prog 96 [.pointer (some ⟨m,0,none⟩), .agg [.int .i64 ((op:Nat):Int), .int .u64 ((A:Nat):Int), .int .u64 ((B:Nat):Int)].toArray] H (fun v H'=> v= .tuple #[]∧H'=Mo m (x,{y with stk:=nu y.stk fun a=> if a.1=true then(true,w64 (A*262144))else(false,0)})::R):=by
 have hdl:y.stk.dropLast.length≤1000000000:=by rw[List.length_dropLast];omega
 refine sWk Tryz.func96 Tryz.ntmps96 ?_
 refine gk (k:=bxx (k:=fun b3=>?_))
 refine go ?_
 refine d1_ rfl (ET h0 hl) (k:=?_)
 refine e_ (gA (ft:=4) (off:=0) Tryz.underlying171 rfl rfl rfl) (k:=?_)
 refine gk (k:=wi_ (k:=fun h1=>?_) (m:=fun h1=>?_))
 ·have ht:(fR y.stk).1=true:=h1
  have hst:y.stk.dropLast++ [(true,A*262144 % 18446744073709551616)]=nu y.stk fun a=> if a.1=true then(true,w64 (A*262144))else(false,0):=by rw[nu,if_pos ht];all_goals rfl
  refine wr_ (e_ mv (k:=e_ fla (k:=e_ ldv (k:=?_))))
  refine e_ (sD 18446744073709551616 rfl rfl rfl rfl _ 262144 rfl rfl) (k:=?_)
  refine e_ (bld [(0,_),(1,_)]) (k:=?_)
  refine d2_ rfl (nF hdl) (k:=gk (k:=rt_ Tryz.results96 (k:=?_)))
  rw[←hst];exact⟨_,hsb,rfl,rfl⟩
 have ht:¬(fR y.stk).1=true:=bL
 have hst:y.stk.dropLast++ [(false,0)]=nu y.stk fun a=> if a.1=true then(true,w64 (A*262144))else(false,0):=by rw[nu,if_neg ht]
 refine wr_ (e_ mv (k:=e_ (bld []) (k:=?_)))
 refine d2_ rfl (nF (a:=false) (b:=0) hdl) (k:=gk (k:=rt_ Tryz.results96 (k:=?_)))
 rw[←hst];exact⟨_,hsb,rfl,rfl⟩
abbrev vvV (a:VV):Value:= .agg [.bool a.1, .int .u64 ((a.2:Nat):Int)].toArray
abbrev nw (op A B:Nat):Value:= .agg [.int .i64 ((op:Nat):Int), .int .u64 ((A:Nat):Int), .int .u64 ((B:Nat):Int)].toArray
theorem tF4 {G:cK}{H:cG}{a b:VV}:SC G Tryz.prog 84 [vvV a,vvV b] H (fun v H'=> v= .tuple #[.bool ((a.1 && b.1,w64 (a.2+b.2)):VV).1, .int .u64 ((((a.1 && b.1,w64 (a.2+b.2)):VV).2:Nat):Int)]∧H'=H):=by
 refine sWk Tryz.func84 Tryz.ntmps84 ?_
 refine gk (k:=bxx (k:=fun b2=>?_))
 refine bxx (k:=fun b3=>?_)
 refine go ?_
 refine cX cI (as_ 0 (q:=fla) (k:=as_ 1 (q:=ldv) (k:=?_)))
 refine gq 2 rfl rfl (a8) rfl (dz (mv)) (fun h1=> ?_) (fun h1=> ?_)
 ·replace h1:=nrm h1
  refine at2 3 (q:=fla) (k:=at2 4 (q:=ldv) (k:=as_ 5 (q:=pkt) (k:=as_ 6 (q:=fla) (k:=as_ 7 (q:=ldv) (k:=as_ 8 (q:=fla) (k:=as_ 9 (q:=ldv) (k:=?_)))))))
  refine cE 10 rfl rfl (a8) rfl (dz ((au))) (?_)
  refine as_ 11 (q:=asn) (k:=as_ 12 (q:=asn) (k:=az_ (k:=gk (k:=rt_ Tryz.results84 (k:=?_)))))
  exact⟨_,hsb,by(cases ha:a.1 <;> simp_all [gF,w64]),rfl⟩
 replace h1:=nrm h1
 refine ao_ 3 (k:=ao_ 4 (k:=as_ 5 (q:=pkf) (k:=as_ 6 (q:=fla) (k:=as_ 7 (q:=ldv) (k:=as_ 8 (q:=fla) (k:=as_ 9 (q:=ldv) (k:=?_)))))))
 refine cE 10 rfl rfl (a8) rfl (dz ((au))) (?_)
 refine as_ 11 (q:=asn) (k:=as_ 12 (q:=asn) (k:=az_ (k:=gk (k:=rt_ Tryz.results84 (k:=?_)))))
 exact⟨_,hsb,by(cases ha:a.1 <;> simp_all [gF,w64]),rfl⟩
theorem tF5 {G:cK}{H:cG}{a b:VV}:SC G Tryz.prog 86 [vvV a,vvV b] H (fun v H'=> v= .tuple #[.bool ((a.1 ||b.1,w64 (a.2+b.2)):VV).1, .int .u64 ((((a.1 ||b.1,w64 (a.2+b.2)):VV).2:Nat):Int)]∧H'=H):=by
 refine sWk Tryz.func86 Tryz.ntmps86 ?_
 refine gk (k:=bxx (k:=fun b2=>?_))
 refine bxx (k:=fun b3=>?_)
 refine go ?_
 refine cX cI (as_ 0 (q:=fla) (k:=as_ 1 (q:=ldv) (k:=?_)))
 refine gq 2 rfl rfl (a8) rfl (dz (mv)) (fun h1=> ?_) (fun h1=> ?_)
 ·replace h1:=nrm h1
  refine ao_ 3 (k:=ao_ 4 (k:=as_ 5 (q:=pkt) (k:=as_ 6 (q:=fla) (k:=as_ 7 (q:=ldv) (k:=as_ 8 (q:=fla) (k:=as_ 9 (q:=ldv) (k:=?_)))))))
  refine cE 10 rfl rfl (a8) rfl (dz ((au))) (?_)
  refine as_ 11 (q:=asn) (k:=as_ 12 (q:=asn) (k:=az_ (k:=gk (k:=rt_ Tryz.results86 (k:=?_)))))
  exact⟨_,hsb,by(cases ha:a.1 <;> simp_all [gF,w64]),rfl⟩
 replace h1:=nrm h1
 refine at2 3 (q:=fla) (k:=at2 4 (q:=ldv) (k:=as_ 5 (q:=pkf) (k:=as_ 6 (q:=fla) (k:=as_ 7 (q:=ldv) (k:=as_ 8 (q:=fla) (k:=as_ 9 (q:=ldv) (k:=?_)))))))
 refine cE 10 rfl rfl (a8) rfl (dz ((au))) (?_)
 refine as_ 11 (q:=asn) (k:=as_ 12 (q:=asn) (k:=az_ (k:=gk (k:=rt_ Tryz.results86 (k:=?_)))))
 exact⟨_,hsb,by(cases ha:a.1 <;> simp_all [gF,w64]),rfl⟩
theorem tF6 {G:cK}{H:cG}{a b:VV}:SC G Tryz.prog 88 [vvV a,vvV b] H (fun v H'=> v= .tuple #[.bool ((a.1 ||b.1,max a.2 b.2):VV).1, .int .u64 ((((a.1 ||b.1,max a.2 b.2):VV).2:Nat):Int)]∧H'=H):=by
 refine sWk Tryz.func88 Tryz.ntmps88 ?_
 refine gk (k:=bxx (k:=fun b2=>?_))
 refine bxx (k:=fun b3=>?_)
 refine go ?_
 refine cX cI (as_ 0 (q:=fla) (k:=as_ 1 (q:=ldv) (k:=?_)))
 refine gq 2 rfl rfl (a8) rfl (dz (mv)) (fun h1=> ?_) (fun h1=> ?_)
 ·replace h1:=nrm h1
  refine ao_ 3 (k:=ao_ 4 (k:=as_ 5 (q:=pkt) (k:=as_ 6 (q:=fla) (k:=as_ 7 (q:=ldv) (k:=as_ 8 (q:=fla) (k:=as_ 9 (q:=ldv) (k:=?_)))))))
  refine cE 10 rfl rfl (a8) rfl (dz (evq (mO rfl rfl) (congrArg (Value.int .u64) (show _=((max a.2 b.2:Nat):Int)from aa)))) (?_)
  refine as_ 11 (q:=asn) (k:=as_ 12 (q:=asn) (k:=az_ (k:=gk (k:=rt_ Tryz.results88 (k:=?_)))))
  exact⟨_,hsb,by(cases ha:a.1 <;> simp_all [gF,w64]),rfl⟩
 replace h1:=nrm h1
 refine at2 3 (q:=fla) (k:=at2 4 (q:=ldv) (k:=as_ 5 (q:=pkf) (k:=as_ 6 (q:=fla) (k:=as_ 7 (q:=ldv) (k:=as_ 8 (q:=fla) (k:=as_ 9 (q:=ldv) (k:=?_)))))))
 refine cE 10 rfl rfl (a8) rfl (dz (evq (mO rfl rfl) (congrArg (Value.int .u64) (show _=((max a.2 b.2:Nat):Int)from aa)))) (?_)
 refine as_ 11 (q:=asn) (k:=as_ 12 (q:=asn) (k:=az_ (k:=gk (k:=rt_ Tryz.results88 (k:=?_)))))
 exact⟨_,hsb,by(cases ha:a.1 <;> simp_all [gF,w64]),rfl⟩
theorem tF7 {G:cK}{H:cG}{a b:VV}:SC G Tryz.prog 90 [vvV a,vvV b] H (fun v H'=> v= .tuple #[.bool ((a.1,w64 (a.2+b.2)):VV).1, .int .u64 ((((a.1,w64 (a.2+b.2)):VV).2:Nat):Int)]∧H'=H):=by
 refine sWk Tryz.func90 Tryz.ntmps90 ?_
 refine gk (k:=bxx (k:=fun b2=>?_))
 refine bxx (k:=fun b3=>?_)
 refine go ?_
 refine cX cI (as_ 0 (q:=fla) (k:=as_ 1 (q:=ldv) (k:=as_ 2 (q:=fla) (k:=as_ 3 (q:=ldv) (k:=as_ 4 (q:=fla) (k:=as_ 5 (q:=ldv) (k:=?_)))))))
 refine cE 6 rfl rfl (a8) rfl (dz ((au))) (?_)
 refine as_ 7 (q:=asn) (k:=as_ 8 (q:=asn) (k:=az_ (k:=gk (k:=rt_ Tryz.results90 (k:=?_)))))
 exact⟨_,hsb,rfl,rfl⟩
theorem tF8 {G:cK}{H:cG}{a b:VV}:SC G Tryz.prog 92 [vvV a,vvV b] H (fun v H'=> v= .tuple #[.bool ((a.1 && !b.1,a.2):VV).1, .int .u64 ((((a.1 && !b.1,a.2):VV).2:Nat):Int)]∧H'=H):=by
 refine sWk Tryz.func92 Tryz.ntmps92 ?_
 refine gk (k:=bxx (k:=fun b2=>?_))
 refine bxx (k:=fun b3=>?_)
 refine go ?_
 refine cX cI (as_ 0 (q:=fla) (k:=as_ 1 (q:=ldv) (k:=?_)))
 refine gq 2 rfl rfl (a8) rfl (dz (mv)) (fun h1=> ?_) (fun h1=> ?_)
 ·replace h1:=nrm h1
  refine at2 3 (q:=fla) (k:=at2 4 (q:=ldv) (k:=at2 5 (q:=k8) (k:=as_ 6 (q:=pkt) (k:=as_ 7 (q:=fla) (k:=as_ 8 (q:=ldv) (k:=as_ 9 (q:=asn) (k:=as_ 10 (q:=asn) (k:=az_ (k:=gk (k:=rt_ Tryz.results92 (k:=?_)))))))))))
  exact⟨_,hsb,by(cases ha:a.1 <;> simp_all [gF,w64]),rfl⟩
 replace h1:=nrm h1
 refine ao_ 3 (k:=ao_ 4 (k:=ao_ 5 (k:=as_ 6 (q:=pkf) (k:=as_ 7 (q:=fla) (k:=as_ 8 (q:=ldv) (k:=as_ 9 (q:=asn) (k:=as_ 10 (q:=asn) (k:=az_ (k:=gk (k:=rt_ Tryz.results92 (k:=?_)))))))))))
 exact⟨_,hsb,by(cases ha:a.1 <;> simp_all [gF,w64]),rfl⟩
theorem EO {G:cK}{H R:cG}{m g:Nat}{x:MX}{y:MY}{f:VV→VV→VV} [hr:Rem H Mo m (x,y) R] (hf:∀(H:cG) (a b:VV),SC G Tryz.prog g [vvV a,vvV b] H (fun v H'=> v= .tuple #[.bool (f a b).1, .int .u64 (((f a b).2:Nat):Int)]∧H'=H)) (h2:2≤y.stk.length) (hl:y.stk.length≤1000000000):SC G Tryz.prog 83 [.pointer (some ⟨m,0,none⟩), .func (.func g) #[] #[]] H (fun v H'=> v= .tuple #[]∧H'=Mo m (x,{y with stk:=kh y.stk f})::R):=by
 have hd1:y.stk.dropLast.length=y.stk.length - 1:=List.length_dropLast
 have hd2:y.stk.dropLast.dropLast.length=y.stk.length - 2:=by rw[List.length_dropLast,hd1];omega
 refine sWk Tryz.func83 Tryz.ntmps83 ?_
 refine go ?_
 refine d1_ rfl (ET (aa) hl) (k:=alc (k:=fun b4=>?_))
 refine go ?_
 refine d1_ rfl (ET (y:={y with stk:=y.stk.dropLast}) (by show 0<y.stk.dropLast.length;omega) (by show y.stk.dropLast.length≤_;omega)) (k:=alc (k:=fun b5=>?_))
 refine go ?_
 refine s_ (nJ (fi:= []) (ca:= []) (vs:= [_,_]) rfl rfl (hf _ (fR y.stk.dropLast) (fR y.stk))) (k:=?_)
 rintro _ _ ⟨rfl,rfl⟩
 refine go ?_
 refine wi_ (k:=fun h1=>?_) (m:=fun h1=>?_)
 ·have ht:¬(f (fR y.stk.dropLast) (fR y.stk)).1=true:=by have h9:=h1;simpa using h9
  have hst:y.stk.dropLast.dropLast++ [((f (fR y.stk.dropLast) (fR y.stk)).1,0)]=kh y.stk f:=by rw[kh];simp only[if_neg ht]
  refine wr_ (e_ asn (k:=on_ (qn_ (wr_ (e_ mv (k:=e_ mv (k:=e_ mv (k:=e_ (bld [(0,_),(1,_)]) (k:=?_)))))))))
  refine d2_ rfl (nF (y:={y with stk:=y.stk.dropLast.dropLast}) (by show y.stk.dropLast.dropLast.length≤_;omega)) (k:=gk (k:=rt_ Tryz.results83 (k:=?_)))
  rw[←hst];exact⟨_,hsb,rfl,rfl⟩
 have ht:(f (fR y.stk.dropLast) (fR y.stk)).1=true:=bL
 have hst:y.stk.dropLast.dropLast++ [((f (fR y.stk.dropLast) (fR y.stk)).1,(f (fR y.stk.dropLast) (fR y.stk)).2)]=kh y.stk f:=by rw[kh];simp only[if_pos ht]
 refine wk_ (qn_ (wr_ (e_ mv (k:=e_ mv (k:=e_ mv (k:=e_ (bld [(0,_),(1,_)]) (k:=?_)))))))
 refine d2_ rfl (nF (y:={y with stk:=y.stk.dropLast.dropLast}) (by show y.stk.dropLast.dropLast.length≤_;omega)) (k:=gk (k:=rt_ Tryz.results83 (k:=?_)))
 rw[←hst];exact⟨_,hsb,rfl,rfl⟩
theorem KM {G:cK}{H R:cG}{m:Nat}{x:MX}{y:MY} [hr:Rem H Mo m (x,y) R] (h0:0<y.stk.length) (hl:y.stk.length≤1000000000):SC G Tryz.prog 100 [.pointer (some ⟨m,0,none⟩)] H (fun v H'=> v=vvV (fR y.stk)∧H'=Mo m (x,y)::R):=
 nN hr (fun s=> SC.out ((Ly (x:=x) (y:=y) (s:=s) h0 hl).mono (fun v H' h=> ⟨_,by rw[h.2];exact jB,h.1,rfl⟩)))
theorem tO1 {G:cK}{H:cG}{m op A B:Nat}:SC G Tryz.prog 75 [.pointer (some ⟨m,0,none⟩),nw op A B] H (fun v H'=> v= .tuple #[]∧H'=H):=by
 refine sWk Tryz.func75 Tryz.ntmps75 ?_
 refine gk (k:=bxx (k:=fun b3=>?_))
 refine gk (k:=rt_ Tryz.results75 (k:=?_))
 exact⟨_,hsb,rfl,rfl⟩
section
variable {G:cK}{H R:cG}{m op A B:Nat}{x:MX}{y:MY}
theorem tO2 [hr:Rem H Mo m (x,y) R] (hl:y.stk.length≤1000000000):SC G Tryz.prog 76 [.pointer (some ⟨m,0,none⟩),nw op A B] H (fun v H'=> v= .tuple #[]∧H'=Mo m (x,{y with stk:=y.stk++ [(false,0)]})::R):=by
 refine sWk Tryz.func76 Tryz.ntmps76 ?_
 refine gk (k:=bxx (k:=fun b3=>?_))
 refine on_ (qn_ (wr_ (e_ mv (k:=e_ (bld []) (k:=?_)))))
 refine d2_ rfl (nF (a:=false) (b:=0) hl) (k:=gk (k:=rt_ Tryz.results76 (k:=?_)))
 exact⟨_,hsb,rfl,rfl⟩
theorem tO3 [hr:Rem H Mo m (x,y) R] (hl:y.stk.length≤1000000000):SC G Tryz.prog 78 [.pointer (some ⟨m,0,none⟩),nw op A B] H (fun v H'=> v= .tuple #[]∧H'=Mo m (x,{y with stk:=y.stk++ [(true,262144)]})::R):=by
 refine sWk Tryz.func78 Tryz.ntmps78 ?_
 refine gk (k:=bxx (k:=fun b3=>?_))
 refine on_ (qn_ (wr_ (e_ mv (k:=e_ (bld [(0,_),(1,_)]) (k:=?_)))))
 refine d2_ rfl (nF (a:=true) (b:=262144) hl) (k:=gk (k:=rt_ Tryz.results78 (k:=?_)))
 exact⟨_,hsb,rfl,rfl⟩
theorem tO6 [hr:Rem H Mo m (x,y) R] (h2:2≤y.stk.length) (hl:y.stk.length≤1000000000):SC G Tryz.prog 82 [.pointer (some ⟨m,0,none⟩),nw op A B] H (fun v H'=> v= .tuple #[]∧H'=Mo m (x,{y with stk:=kh y.stk fun a b=> (a.1 && b.1,w64 (a.2+b.2))})::R):=by
 refine sWk Tryz.func82 Tryz.ntmps82 ?_
 refine gk (k:=bxx (k:=fun b3=>?_))
 refine go ?_
 refine d2_ rfl (EO (f:=fun a b=> (a.1 && b.1,w64 (a.2+b.2))) (fun H a b=> tF4) h2 hl) (k:=gk (k:=rt_ Tryz.results82 (k:=?_)))
 exact⟨_,hsb,rfl,rfl⟩
theorem tO7 [hr:Rem H Mo m (x,y) R] (h2:2≤y.stk.length) (hl:y.stk.length≤1000000000):SC G Tryz.prog 85 [.pointer (some ⟨m,0,none⟩),nw op A B] H (fun v H'=> v= .tuple #[]∧H'=Mo m (x,{y with stk:=kh y.stk fun a b=> (a.1 ||b.1,w64 (a.2+b.2))})::R):=by
 refine sWk Tryz.func85 Tryz.ntmps85 ?_
 refine gk (k:=bxx (k:=fun b3=>?_))
 refine go ?_
 refine d2_ rfl (EO (f:=fun a b=> (a.1 ||b.1,w64 (a.2+b.2))) (fun H a b=> tF5) h2 hl) (k:=gk (k:=rt_ Tryz.results85 (k:=?_)))
 exact⟨_,hsb,rfl,rfl⟩
theorem tO8 [hr:Rem H Mo m (x,y) R] (h2:2≤y.stk.length) (hl:y.stk.length≤1000000000):SC G Tryz.prog 87 [.pointer (some ⟨m,0,none⟩),nw op A B] H (fun v H'=> v= .tuple #[]∧H'=Mo m (x,{y with stk:=kh y.stk fun a b=> (a.1 ||b.1,max a.2 b.2)})::R):=by
 refine sWk Tryz.func87 Tryz.ntmps87 ?_
 refine gk (k:=bxx (k:=fun b3=>?_))
 refine go ?_
 refine d2_ rfl (EO (f:=fun a b=> (a.1 ||b.1,max a.2 b.2)) (fun H a b=> tF6) h2 hl) (k:=gk (k:=rt_ Tryz.results87 (k:=?_)))
 exact⟨_,hsb,rfl,rfl⟩
theorem tO9 [hr:Rem H Mo m (x,y) R] (h2:2≤y.stk.length) (hl:y.stk.length≤1000000000):SC G Tryz.prog 89 [.pointer (some ⟨m,0,none⟩),nw op A B] H (fun v H'=> v= .tuple #[]∧H'=Mo m (x,{y with stk:=kh y.stk fun a b=> (a.1,w64 (a.2+b.2))})::R):=by
 refine sWk Tryz.func89 Tryz.ntmps89 ?_
 refine gk (k:=bxx (k:=fun b3=>?_))
 refine go ?_
 refine d2_ rfl (EO (f:=fun a b=> (a.1,w64 (a.2+b.2))) (fun H a b=> tF7) h2 hl) (k:=gk (k:=rt_ Tryz.results89 (k:=?_)))
 exact⟨_,hsb,rfl,rfl⟩
theorem PW [hr:Rem H Mo m (x,y) R] (h2:2≤y.stk.length) (hl:y.stk.length≤1000000000):SC G Tryz.prog 91 [.pointer (some ⟨m,0,none⟩),nw op A B] H (fun v H'=> v= .tuple #[]∧H'=Mo m (x,{y with stk:=kh y.stk fun a b=> (a.1 && !b.1,a.2)})::R):=by
 refine sWk Tryz.func91 Tryz.ntmps91 ?_
 refine gk (k:=bxx (k:=fun b3=>?_))
 refine go ?_
 refine d2_ rfl (EO (f:=fun a b=> (a.1 && !b.1,a.2)) (fun H a b=> tF8) h2 hl) (k:=gk (k:=rt_ Tryz.results91 (k:=?_)))
 exact⟨_,hsb,rfl,rfl⟩
theorem PV [hr:Rem H Mo m (x,y) R] (h0:0<y.stk.length) (hl:y.stk.length≤1000000000):SC G Tryz.prog 93 [.pointer (some ⟨m,0,none⟩),nw op A B] H (fun v H'=> v= .tuple #[]∧H'=Mo m (x,{y with stk:=nu y.stk fun a=> (!a.1,0)})::R):=by
 have hdl:y.stk.dropLast.length≤1000000000:=by rw[List.length_dropLast];omega
 refine sWk Tryz.func93 Tryz.ntmps93 ?_
 refine gk (k:=bxx (k:=fun b3=>?_))
 refine go ?_
 refine d1_ rfl (ET h0 hl) (k:=?_)
 refine e_ (gA (ft:=4) (off:=0) Tryz.underlying171 rfl rfl rfl) (k:=?_)
 refine e_ k8 (k:=e_ (bld [(0,_),(1,_)]) (k:=?_))
 refine d2_ rfl (nF (y:={y with stk:=y.stk.dropLast}) (b:=0) hdl) (k:=gk (k:=rt_ Tryz.results93 (k:=?_)))
 rw[←show y.stk.dropLast++ [(!(fR y.stk).1,0)]=nu y.stk (fun a=> (!a.1,0))from rfl];exact⟨_,hsb,rfl,rfl⟩
theorem PU [hr:Rem H Mo m (x,y) R] (h0:0<y.stk.length) (hl:y.stk.length≤1000000000):SC G Tryz.prog 95 [.pointer (some ⟨m,0,none⟩),nw op A B] H (fun v H'=> v= .tuple #[]∧H'=Mo m (x,{y with stk:=nu y.stk fun a=> (a.1,w64 (a.2*A))})::R):=by
 have hdl:y.stk.dropLast.length≤1000000000:=by rw[List.length_dropLast];omega
 refine sWk Tryz.func95 Tryz.ntmps95 ?_
 refine gk (k:=bxx (k:=fun b3=>?_))
 refine go ?_
 refine d1_ rfl (ET h0 hl) (k:=alc (k:=fun b4=>?_))
 refine sto (k:=on_ (qn_ (wr_ (e_ mv (k:=e_ fla (k:=e_ ldv (k:=e_ fla (k:=e_ ldv (k:=e_ fla (k:=e_ ldv (k:=?_)))))))))))
 refine e_ (sD 18446744073709551616 rfl rfl rfl rfl _ _ rfl rfl) (k:=?_)
 refine e_ (bld [(0,_),(1,_)]) (k:=?_)
 refine d2_ rfl (nF (y:={y with stk:=y.stk.dropLast}) (b:=w64 ((fR y.stk).2*A)) hdl) (k:=gk (k:=rt_ Tryz.results95 (k:=?_)))
 rw[←show y.stk.dropLast++ [((fR y.stk).1,w64 ((fR y.stk).2*A))]=nu y.stk (fun a=> (a.1,w64 (a.2*A)))from rfl];exact⟨_,hsb,rfl,rfl⟩
theorem PT [hr:Rem H Mo m (x,y) R] (h0:0<y.stk.length) (hl:y.stk.length≤1000000000) (hA:A≤1000000000) (hp:y.pc≤1000000000):SC G Tryz.prog 98 [.pointer (some ⟨m,0,none⟩),nw op A B] H (fun v H'=> v= .tuple #[]∧H'=Mo m (x,{y with pc:=if(fR y.stk).1=true then y.pc else y.pc+A})::R):=by
 refine sWk Tryz.func98 Tryz.ntmps98 ?_
 refine gk (k:=bxx (k:=fun b3=>?_))
 refine go ?_
 refine df cI (fun i=> [2,6].contains i) (fun k H=> (k=5→cQ H b3 [.int .i64 ((op:Nat):Int), .int .u64 ((A:Nat):Int), .int .u64 ((B:Nat):Int)])) (af_ 0 (q:=cD fun H hH=>mv) (k:=af_ 1 (q:=cD fun H hH=>mv) (k:=?_)))
 refine cE 5 rfl rfl (a8) rfl (cD fun H hH=>cw) (?_)
 refine cN 2 rfl (a8) rfl (fun k hk=> fun hi=> ab) (cW (vs:= [_]) rfl (KM h0 hl)) ?_
 rintro _ _ ⟨rfl,rfl⟩
 refine cE 3 rfl rfl (a8) rfl (cD fun H hH=>gA (ft:=4) (off:=0) Tryz.underlying171 rfl rfl rfl) (?_)
 refine af_ 4 (q:=cD fun H hH=>k8) (k:=?_)
 refine cN 6 rfl (a8) rfl (fun k hk=> fun hi=> ab) (cW (vs:= [_,_,_]) rfl (KN hA hp)) ?_
 rintro _ _ ⟨rfl,rfl⟩
 refine db (a8) (fun k hk=> fun hi=> absurd hk (ad)) (rt_ Tryz.results98 (k:=?_))
 have hst:(if(!(fR y.stk).1)=true then y.pc+A else y.pc)=(if(fR y.stk).1=true then y.pc else y.pc+A):=by cases(fR y.stk).1 <;> rfl
 rw[←hst];exact⟨_,hsb,rfl,rfl⟩
theorem PS [hr:Rem H Mo m (x,y) R] (h0:0<y.stk.length) (hl:y.stk.length≤1000000000) (hA:A≤1000000000) (hp:y.pc≤1000000000):SC G Tryz.prog 101 [.pointer (some ⟨m,0,none⟩),nw op A B] H (fun v H'=> v= .tuple #[]∧H'=Mo m (x,{y with pc:=if(fR y.stk).1=true then y.pc+A else y.pc})::R):=by
 refine sWk Tryz.func101 Tryz.ntmps101 ?_
 refine gk (k:=bxx (k:=fun b3=>?_))
 refine go ?_
 refine df cI (fun i=> [2,5].contains i) (fun k H=> (k=4→cQ H b3 [.int .i64 ((op:Nat):Int), .int .u64 ((A:Nat):Int), .int .u64 ((B:Nat):Int)])) (af_ 0 (q:=cD fun H hH=>mv) (k:=af_ 1 (q:=cD fun H hH=>mv) (k:=?_)))
 refine cE 4 rfl rfl (a8) rfl (cD fun H hH=>cw) (?_)
 refine cN 2 rfl (a8) rfl (fun k hk=> fun hi=> ab) (cW (vs:= [_]) rfl (KM h0 hl)) ?_
 rintro _ _ ⟨rfl,rfl⟩
 refine cE 3 rfl rfl (a8) rfl (cD fun H hH=>gA (ft:=4) (off:=0) Tryz.underlying171 rfl rfl rfl) (?_)
 refine cN 5 rfl (a8) rfl (fun k hk=> fun hi=> ab) (cW (vs:= [_,_,_]) rfl (KN hA hp)) ?_
 rintro _ _ ⟨rfl,rfl⟩
 refine db (a8) (fun k hk=> fun hi=> absurd hk (ad)) (rt_ Tryz.results101 (k:=?_))
 exact⟨_,hsb,rfl,rfl⟩
end
def cS (p:PrG) (q:PtD) (ins:List Ins):Cfg:=⟨ins,p,(List.range q.fs.length).map (dP q.fs q.ds),q.ds.map (·.1),oG q.dw⟩
theorem Gi {q:PtD}{f d:Nat}(hf:f<q.fs.length):tN ((List.range q.fs.length).map (dP q.fs q.ds)) f d=(dP q.fs q.ds f).getD d 0:=by
 rw[tN,List.getD_eq_getElem?_getD (l:=List.map _ _),Xd,List.getElem?_range hf];all_goals rfl
theorem uZ {G:cK}{H R:cG}{b:Nat}{c:CuS} [hr:Rem H CuH b c R]:SC G Tryz.prog 117 [.pointer (some ⟨b,0,none⟩)] H (fun v H'=> v= .int .i64 (gJ c.ps c.u)∧H'=CuH b c::R):=
 ⟨(KX (G:=G) (H:= [Vr b [.int .i64 0]]) (b:=b) (d:=0) (l:= [])).enter,fun w hw=> by
   obtain⟨x,hx,hs⟩:=wm hr hw
   exact(SC.out ((KX (G:=G) (b:=b)).mono (fun v H' h=> ⟨_,by rw[h.2];exact m6 hx,h.1,rfl⟩))).call w hs⟩
section
variable {G:cK}{H R R2:cG}{m op A B b d:Nat}{x:MX}{y:MY}{p:PrG}{q:PtD}{c:CuS}{ins:List Ins}{s:SV}
theorem O0 [hr:Rem H Mo m (x,y) R] [hp:dq R x.pt q] (hpl:y.pl=((d:Nat):Int)) (hA:A<q.fs.length) (hq:Bj q) (hd:d<q.ds.length) (hl:y.stk.length≤1000000000):SC G Tryz.prog 79 [.pointer (some ⟨m,0,none⟩),nw op A B] H (fun v H'=> v= .tuple #[]∧H'=Mo m (x,{y with stk:=y.stk++ [if 0<tN (cS p q ins).lens A d then(true,262144)else(false,0)]})::R):=by
 have hqf:=hq.f
 have hla:tN (cS p q ins).lens A d=(dP q.fs q.ds A).getD d 0:=Gi hA
 rw[hla]
 refine nN hr (fun s=> ?_)
 refine sWk Tryz.func79 Tryz.ntmps79 ?_
 refine gk (k:=bxx (k:=fun b3=>?_))
 refine go ?_
 refine df cI (fun i=> [14].contains i) (fun k H=> (k=3→cQ H m (mV x s y))∧(k=6→cQ H x.pt.p [.pointer (some ⟨x.pt.g,0,none⟩), .pointer (some ⟨x.pt.d,0,none⟩)])∧(k=8→cQ H b3 [.int .i64 ((op:Nat):Int), .int .u64 ((A:Nat):Int), .int .u64 ((B:Nat):Int)])∧(k=13→cQ H m (mV x s y))) (af_ 0 (q:=cD fun H hH=>mv) (k:=af_ 1 (q:=cD fun H hH=>nck) (k:=af_ 2 (q:=cD fun H hH=>fla) (k:=?_))))
 refine cE 3 rfl rfl (a8) rfl (cD fun H hH=>ak) (?_)
 refine af_ 4 (q:=cD fun H hH=>nck) (k:=af_ 5 (q:=cD fun H hH=>fla) (k:=?_))
 refine cE 6 rfl rfl (a8) rfl (cD fun H hH=>ar) (?_)
 refine af_ 7 (q:=cD fun H hH=>fla) (k:=?_)
 refine cE 8 rfl rfl (a8) rfl (cD fun H hH=>aF) (?_)
 refine cE 9 rfl rfl (a8) rfl (cD fun H hH=>dy rfl (aa)) (?_)
 refine af_ 10 (q:=cD fun H hH=>mv) (k:=af_ 11 (q:=cD fun H hH=>nck) (k:=af_ 12 (q:=cD fun H hH=>fla) (k:=?_)))
 refine cE 13 rfl rfl (a8) rfl (cD fun H hH=>by have hN:=hH.2.2.2 rfl;exact evq ldv (congrArg (Value.int .i64) hpl)) (?_)
 refine cN 14 rfl (a8) rfl (fun k hk=> ⟨fun hi=> ab,fun hi=> ab,fun hi=> ab,fun hi=> ab⟩) (cW (vs:= [_,_,_]) rfl (KT (a:=x.pt) hA hd)) ?_
 rintro _ _ ⟨rfl,rfl⟩
 refine af_ 15 (q:=cD fun H hH=>igt) (k:=db (a8) (fun k hk=> ⟨fun hi=> ab,fun hi=> absurd hk (ad),fun hi=> ab,fun hi=> absurd hk (ad)⟩) (gk (k:=wi_ (k:=fun h1=>?_) (m:=fun h1=>?_))))
 ·have hv:0<(dP q.fs q.ds A).getD d 0:=by have h9:=h1;omega
  refine wr_ (?_)
  refine du (H':=Mo m (x,y)::R) (cJ.trans (H':=Vr m (mV x s y)::Row s eVV y.stk::R) (hsb) jB) ?_
  refine e_ mv (k:=e_ (bld [(0,_),(1,_)]) (k:=?_))
  refine d2_ rfl (nF (a:=true) (b:=262144) hl) (k:=gk (k:=rt_ Tryz.results79 (k:=?_)))
  rw[if_pos hv];exact⟨_,hsb,rfl,rfl⟩
 have hv:¬0<(dP q.fs q.ds A).getD d 0:=az
 refine wr_ (?_)
 refine du (H':=Mo m (x,y)::R) (cJ.trans (H':=Vr m (mV x s y)::Row s eVV y.stk::R) (hsb) jB) ?_
 refine e_ mv (k:=e_ (bld []) (k:=?_))
 refine d2_ rfl (nF (a:=false) (b:=0) hl) (k:=gk (k:=rt_ Tryz.results79 (k:=?_)))
 rw[if_neg hv];exact⟨_,hsb,rfl,rfl⟩
theorem Bu [hg:Glb G R] [hm:cQ R m (mV x s y)] [hc:Rem H CuH b c R] (hpl:y.pl=((d:Nat):Int)) (hc0:iK c):SC G Tryz.prog 130 [.pointer (some ⟨m,0,none⟩), .pointer (some ⟨b,0,none⟩)] H (fun v H'=> v= .bool (AD d (ei d c))∧H'=CuH b (ei d c)::R):=by
 refine SC.less (cJ.rem hc cJ.refl) ?_
 refine sWk Tryz.func130 Tryz.ntmps130 ?_
 refine go ?_
 refine df cI (fun i=> [3].contains i) (fun k H=> (k=7→cQ H m (mV x s y))) (af_ 0 (q:=cD fun H hH=>mv) (k:=af_ 1 (q:=cD fun H hH=>nck) (k:=af_ 2 (q:=cD fun H hH=>fla) (k:=af_ 4 (q:=cD fun H hH=>mv) (k:=af_ 5 (q:=cD fun H hH=>nck) (k:=af_ 6 (q:=cD fun H hH=>fla) (k:=?_)))))))
 refine cE 7 rfl rfl (a8) rfl (cD fun H hH=>bF) (?_)
 refine cN 3 rfl (a8) rfl (fun k hk=> fun hi=> ab) (cW (vs:= [_]) rfl (uZ (c:=c))) ?_
 rintro _ _ ⟨rfl,rfl⟩
 refine af_ 8 (q:=cD fun H hH=>ilt) (k:=db (a8) (fun k hk=> fun hi=> ab) (gk (k:=wi_ (k:=fun h1=>?_) (m:=fun h1=>?_))))
 ·have hlt:gJ c.ps c.u<((d:Nat):Int):=h1
  have hst:ei d c=jE c d:=by rw[ei,if_pos hlt]
  rw[hst]
  refine wr_ (e_ mv (k:=e_ mv (k:=e_ nck (k:=e_ fla (k:=?_)))))
  refine e_ (evq ldv (congrArg (Value.int .i64) hpl)) (k:=?_)
  refine d2_ rfl (O8 hc0) (k:=go ?_)
  refine df cI (fun i=> [3].contains i) (fun k H=> (k=7→cQ H m (mV x s y))) (af_ 0 (q:=cD fun H hH=>mv) (k:=af_ 1 (q:=cD fun H hH=>nck) (k:=af_ 2 (q:=cD fun H hH=>fla) (k:=af_ 4 (q:=cD fun H hH=>mv) (k:=af_ 5 (q:=cD fun H hH=>nck) (k:=af_ 6 (q:=cD fun H hH=>fla) (k:=?_)))))))
  refine cE 7 rfl rfl (a8) rfl (cD fun H hH=>bF) (?_)
  refine cN 3 rfl (a8) rfl (fun k hk=> fun hi=> ab) (cW (vs:= [_]) rfl (uZ)) ?_
  rintro _ _ ⟨rfl,rfl⟩
  refine af_ 8 (q:=cD fun H hH=>ieq) (k:=af_ 9 (q:=cD fun H hH=>asn) (k:=db (a8) (fun k hk=> fun hi=> ab) (gk (k:=rt_ Tryz.results130 (k:=?_)))))
  exact⟨_,hsb,rfl,rfl⟩
 have hlt:¬gJ c.ps c.u<((d:Nat):Int):=h1
 have hst:ei d c=c:=by rw[ei,if_neg hlt]
 rw[hst]
 refine go ?_
 refine df cI (fun i=> [3].contains i) (fun k H=> (k=7→cQ H m (mV x s y))) (af_ 0 (q:=cD fun H hH=>mv) (k:=af_ 1 (q:=cD fun H hH=>nck) (k:=af_ 2 (q:=cD fun H hH=>fla) (k:=af_ 4 (q:=cD fun H hH=>mv) (k:=af_ 5 (q:=cD fun H hH=>nck) (k:=af_ 6 (q:=cD fun H hH=>fla) (k:=?_)))))))
 refine cE 7 rfl rfl (a8) rfl (cD fun H hH=>bF) (?_)
 refine cN 3 rfl (a8) rfl (fun k hk=> fun hi=> ab) (cW (vs:= [_]) rfl (uZ)) ?_
 rintro _ _ ⟨rfl,rfl⟩
 refine af_ 8 (q:=cD fun H hH=>ieq) (k:=af_ 9 (q:=cD fun H hH=>asn) (k:=db (a8) (fun k hk=> fun hi=> ab) (gk (k:=rt_ Tryz.results130 (k:=?_)))))
 exact⟨_,hsb,rfl,rfl⟩
theorem Bx [hr:cQ H m (mV x s y)] [hp:dq H x.pt q] [hpr:gE H x.pa p] {w f k:Nat}(hpl:y.pl=((d:Nat):Int)) (hk:k<q.fs.length) (hk2:k<p.avgs.length) (hd:d<q.ds.length) (ha:∀a∈p.avgs,0≤a) (hw:w<18446744073709551616):SC G Tryz.prog 131 [.pointer (some ⟨m,0,none⟩), .int .u64 ((w:Nat):Int), .int .i64 ((f:Nat):Int), .int .i64 ((k:Nat):Int)] H (fun v H'=> v=vvV (tr (cS p q ins) d w f ((k:Nat):Int))∧H'=H):=by
 obtain⟨av,hav⟩:∃a,p.avgs[k]? =some a:=⟨_,Yi (aa)⟩
 have hgd:p.avgs.getD k 0=av:=by rw[List.getD_eq_getElem?_getD,hav];all_goals rfl
 refine sWk Tryz.func131 Tryz.ntmps131 ?_
 refine gk (k:=alc (k:=fun b8=>?_))
 refine go ?_
 refine df cI (fun i=> [14,23,26].contains i) (fun k H=> (k=5→cQ H m (mV x s y))∧(k=8→cQ H x.pt.p [.pointer (some ⟨x.pt.g,0,none⟩), .pointer (some ⟨x.pt.d,0,none⟩)])∧(k=13→cQ H m (mV x s y))∧(k=19→cQ H m (mV x s y))∧(k=21→Sl H x.pa.av eI p.avgs)∧(k=22→Sl H x.pa.av eI p.avgs)) (af_ 0 (q:=cD fun H hH=>mv) (k:=af_ 1 (q:=cD fun H hH=>mv) (k:=af_ 2 (q:=cD fun H hH=>mv) (k:=af_ 3 (q:=cD fun H hH=>nck) (k:=af_ 4 (q:=cD fun H hH=>fla) (k:=?_))))))
 refine cE 5 rfl rfl (a8) rfl (cD fun H hH=>ak) (?_)
 refine af_ 6 (q:=cD fun H hH=>nck) (k:=af_ 7 (q:=cD fun H hH=>fla) (k:=?_))
 refine cE 8 rfl rfl (a8) rfl (cD fun H hH=>ar) (?_)
 refine af_ 9 (q:=cD fun H hH=>mv) (k:=af_ 10 (q:=cD fun H hH=>mv) (k:=af_ 11 (q:=cD fun H hH=>nck) (k:=af_ 12 (q:=cD fun H hH=>fla) (k:=?_))))
 refine cE 13 rfl rfl (a8) rfl (cD fun H hH=>by have hN:=hH.2.2.1 rfl;exact evq ldv (congrArg (Value.int .i64) hpl)) (?_)
 refine af_ 15 (q:=cD fun H hH=>mv) (k:=af_ 16 (q:=cD fun H hH=>nck) (k:=af_ 17 (q:=cD fun H hH=>fla) (k:=af_ 18 (q:=cD fun H hH=>fla) (k:=?_))))
 refine cE 19 rfl rfl (a8) rfl (cD fun H hH=>by have hN:=hH.2.2.2.1 rfl;exact ldv) (?_)
 refine af_ 20 (q:=cD fun H hH=>mv) (k:=?_)
 refine cE 21 rfl rfl (a8) rfl (cD fun H hH=>by have hN:=hH.2.2.2.2.1 rfl;exact ixa) (?_)
 refine cE 22 rfl rfl (a8) rfl (cD fun H hH=>by have hN:=hH.2.2.2.2.2 rfl;exact lel (hy:=hav)) (?_)
 refine cN 14 rfl (a8) rfl (fun k hk=> ⟨fun hi=> ab,fun hi=> ab,fun hi=> ab,fun hi=> ab,fun hi=> ab,fun hi=> ab⟩) (cW (vs:= [_,_,_]) rfl (KT (a:=x.pt) hk hd)) ?_
 rintro _ _ ⟨rfl,rfl⟩
 refine cN 23 rfl (a8) rfl (fun k hk=> ⟨fun hi=> ab,fun hi=> absurd hk (ad),fun hi=> absurd hk (ad),fun hi=> ab,fun hi=> ab,fun hi=> ab⟩) (cW (vs:= [_,_,_]) rfl (PO)) ?_
 rintro _ _ ⟨rfl,rfl⟩
 refine cE 24 rfl rfl (a8) rfl (cD fun H hH=>sD 18446744073709551616 rfl rfl rfl rfl w (Jc f ((dP q.fs q.ds k).getD d 0) av.toNat) rfl (an)) (?_)
 refine af_ 25 (q:=cD fun H hH=>bld [(0,_),(1,_)]) (k:=?_)
 refine cN 26 rfl (a8) rfl (fun k hk=> ⟨fun hi=> ab,fun hi=> absurd hk (ad),fun hi=> absurd hk (ad),fun hi=> ab,fun hi=> ab,fun hi=> absurd hk (ad)⟩) (dM rfl rfl rfl) ?_
 rintro _ _ ⟨rfl,rfl⟩
 refine db (a8) (fun k hk=> ⟨fun hi=> absurd hk (ad),fun hi=> absurd hk (ad),fun hi=> absurd hk (ad),fun hi=> absurd hk (ad),fun hi=> absurd hk (ad),fun hi=> absurd hk (ad)⟩) (gk (k:=rt_ Tryz.results131 (k:=?_)))
 exact⟨_,hsb,by rw[tr,Int.toNat_natCast];show _=vvV (true,w64 (w*Jc f (tN ((List.range q.fs.length).map (dP q.fs q.ds)) k d) (p.avgs.getD k 0).toNat));rw[Gi hk,hgd];all_goals rfl,rfl⟩
end
end Go.Sx
