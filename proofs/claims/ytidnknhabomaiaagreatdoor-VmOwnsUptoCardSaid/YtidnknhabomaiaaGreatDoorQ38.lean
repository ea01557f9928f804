import Derived.Test.YtidnknhabomaiaaGreatDoorQ36
set_option linter.unusedVariables false
set_option linter.unusedSimpArgs false
set_option linter.unusedSectionVars false
set_option linter.unnecessarySimpa false
set_option maxHeartbeats 0
namespace Go.Sx
open Go Go.Proofs
set_option maxRecDepth 100000
structure Bj (q:PtD):Prop where
 n:q.ds.length≤1048576
 f:1≤q.fs.length∧q.fs.length≤1000000000
 wl:q.dw.length=(q.ds.length+63) / 64
 w:okW q.dw
theorem uu {H:cG}{a:PtA}{q:PtD} [hp:dq H a q]:a.l.length=q.ds.length:=hp.docs.1
theorem EZ {G:cK}{H:cG}{a:PtA}{q:PtD}{d:Int} [hp:dq H a q]:SC G Tryz.prog 83 [.pointer (some ⟨a.g,0,none⟩), .int .i64 d] H (fun v H'=> v= .bool (decide (0≤d) && decide (d<((q.ds.length:Nat):Int)))∧H'=H):=by
 have hl:=uu (a:=a) (q:=q) (H:=H)
 refine sWk Tryz.func83 Tryz.ntmps83 ?_
 refine gk (k:=dh 8 15 (k:=fun h1=>gk (k:=edq)) (q:=go ?_))
 refine gk (k:=rt_ Tryz.results83 (k:=?_))
 exact⟨_,hsb,by rw[←hl];all_goals rfl,rfl⟩
theorem Md {G:cK}{H:cG}{a:PtA}{q:PtD} [hp:dq H a q]:SC G Tryz.prog 97 [.pointer (some ⟨a.g,0,none⟩)] H (fun v H'=> v= .int .i64 ((q.ds.length:Nat):Int)∧H'=H):=by
 have hl:=uu (a:=a) (q:=q) (H:=H)
 refine sWk Tryz.func97 Tryz.ntmps97 ?_
 refine go ?_
 refine gk (k:=rt_ Tryz.results97 (k:=?_))
 exact⟨_,hsb,by rw[←hl];all_goals rfl,rfl⟩
theorem Mb {G:cK}{H:cG}{g:Nat}{fv lv wv bl im:Value}{l:List (Int×SV)}{sd:SV} [cQ H g [fv,sd.val,lv,wv,bl,im]] [Sl H sd eD l]:SC G Tryz.prog 97 [.pointer (some ⟨g,0,none⟩)] H (fun v H'=> v= .int .i64 ((l.length:Nat):Int)∧H'=H):=by
 refine sWk Tryz.func97 Tryz.ntmps97 ?_
 refine go ?_
 refine gk (k:=rt_ Tryz.results97 (k:=?_))
 exact⟨_,hsb,rfl,rfl⟩
theorem PX {G:cK}{H:cG}{a:PtA}{q:PtD}{d:Nat}{x:Doc} [hp:dq H a q] (hx:q.ds[d]? =some x):SC G Tryz.prog 28 [.pointer (some ⟨a.g,0,none⟩), .int .i64 ((d:Nat):Int)] H (fun v H'=> v= .tuple #[.int .i64 x.1, .bool true]∧H'=H):=by
 have hl:=uu (a:=a) (q:=q) (H:=H)
 have hxl:=(Yk.1 hx).1
 obtain⟨z,hz⟩:∃z,a.l[d]? =some z:=⟨_,Yi (aa)⟩
 obtain⟨hz1,hz2⟩:=hp.docs.2 d z x hz hx
 refine sWk Tryz.func28 Tryz.ntmps28 ?_
 refine go ?_
 refine d2_ rfl (EZ (a:=a)) (k:=gk (k:=wi_ (k:=fun h1=>?_) (m:=fun h1=>?_)))
 ·have h9:=h1
  exact absurd h9 (aM)
 refine wk_ (qn_ (ws_ (wr_ (e_ mv (k:=e_ nck (k:=e_ fla (k:=e_ ldv (k:=e_ mv (k:=e_ ixa (k:=e_ fle (k:=e_ (lfl (hy:=hz)) (k:=go ?_))))))))))))
 refine gk (k:=rt_ Tryz.results28 (k:=?_))
 exact⟨_,hsb,by rw[←hz1];all_goals rfl,rfl⟩
theorem KT {G:cK}{H:cG}{a:PtA}{q:PtD}{f d:Nat} [hp:dq H a q] (hf:f<q.fs.length) (hd:d<q.ds.length):SC G Tryz.prog 104 [.pointer (some ⟨a.g,0,none⟩), .int .i64 ((f:Nat):Int), .int .i64 ((d:Nat):Int)] H (fun v H'=> v= .int .i64 ((((dP q.fs q.ds f).getD d 0:Nat)):Int)∧H'=H):=by
 have hl:=hp.lens.1
 have hll:(dP q.fs q.ds f).length=q.ds.length:=by rw[dP,Yh]
 have hil:(cV (dP q.fs q.ds f)).length=q.ds.length:=by rw[dO,hll]
 obtain⟨s,hs⟩:∃s,a.lvs[f]? =some s:=⟨_,Yi (aa)⟩
 haveI hsl:Sl H s eI (cV (dP q.fs q.ds f)):=hp.lens.2 f s hs
 have hrow:(cV (dP q.fs q.ds f))[d]? =some ((((dP q.fs q.ds f).getD d 0:Nat)):Int):=by
  rw[cV,Xd,List.getD_eq_getElem?_getD,Yi (aa)];all_goals rfl
 refine sWk Tryz.func104 Tryz.ntmps104 ?_
 refine ws_ (wr_ (e_ asn (k:=on_ (qn_ (ws_ (ws_ (wr_ (e_ mv (k:=e_ ilt (k:=e_ mv (k:=dN 8 17 (k:=fun h1=>eg_ mv (k:=eg_ mv (k:=eg_ nck (k:=eg_ fla (k:=eg_ ldv (k:=eg_ lnn (k:=eg_ ige (k:=e_ pkf (k:=on_ (edq)))))))))) (q:=e_ mv (k:=dN 5 23 (k:=fun h2=>eg_ mv (k:=eg_ mv (k:=kK (vs:=[_,_]) (hc:=(EZ (a:=a))) (k:=eg_ k8 (k:=e_ pkf (k:=on_ (edq))))))) (q:=?_))))))))))))))
 refine on_ (qn_ (wi_ (k:=fun h3=>?_) (m:=fun h3=>?_)))
 ·exact absurd h3 (aM)
 refine wk_ (qn_ (ws_ (wr_ (e_ mv (k:=e_ nck (k:=e_ fla (k:=e_ ldv (k:=e_ mv (k:=e_ ixa (k:=e_ (lel (hy:=hs)) (k:=e_ mv (k:=e_ ixa (k:=e_ (lel (hy:=hrow)) (k:=?_))))))))))))))
 refine e_ asn (k:=on_ (qn_ (wt_ (rt_ Tryz.results104 (k:=?_)))))
 exact⟨_,hsb,rfl,rfl⟩
theorem ES {G:cK}{H:cG}{a:PtA}{q:PtD} [hp:dq H a q] (hq:Bj q):SC G Tryz.prog 20 [.pointer (some ⟨a.g,0,none⟩)] H (fun v H'=> ∃s':SV,v= .agg [s'.val].toArray∧H'=Row s' eF q.fs::H):=by
 have hne:q.fs≠ []:=by intro h9;have:=hq.f;rw[h9]at this;simp at this
 refine sWk Tryz.func20 Tryz.ntmps20 ?_
 refine gk (k:=alc (k:=fun b2=>?_))
 refine go ?_
 refine c1_ rfl (Hw hne hq.f.2) (k:=?_)
 rintro _ _ ⟨s8,rfl,rfl⟩
 refine e_ (bld [(0,_)]) (k:=gk (k:=rt_ Tryz.results20 (k:=?_)))
 exact⟨_,hsb,s8,rfl,rfl⟩
theorem NX {G:cK}{H:cG}{b n c:Nat}{s:SV} [cQ H b [.int .i64 ((n:Nat):Int), .int .i64 ((c:Nat):Int),s.val]]:SC G Tryz.prog 98 [.pointer (some ⟨b,0,none⟩)] H (fun v H'=> v= .int .i64 ((n:Nat):Int)∧H'=H):=by
 refine sWk Tryz.func98 Tryz.ntmps98 ?_
 refine go ?_
 refine gk (k:=rt_ Tryz.results98 (k:=?_))
 exact⟨_,hsb,rfl,rfl⟩
theorem Me {G:cK}{H:cG}{b n c:Nat}{s:SV}{ws:List Nat} [cQ H b [.int .i64 ((n:Nat):Int), .int .i64 ((c:Nat):Int),s.val]] [hs:Sl H s eW ws] (hl:ws.length≤1000000):SC G Tryz.prog 99 [.pointer (some ⟨b,0,none⟩)] H (fun v H'=> ∃(b':Nat) (s':SV),v= .pointer (some ⟨b',0,none⟩)∧H'=Vr b' [.int .i64 ((n:Nat):Int), .int .i64 ((c:Nat):Int),s'.val]::Row s' eW ws::H):=by
 refine sWk Tryz.func99 Tryz.ntmps99 ?_
 refine go ?_
 refine df cI (fun i=> [8,13,15].contains i) (fun k H=> (k=3→cQ H b [.int .i64 ((n:Nat):Int), .int .i64 ((c:Nat):Int),s.val])∧(k=7→cQ H b [.int .i64 ((n:Nat):Int), .int .i64 ((c:Nat):Int),s.val])∧(k=12→cQ H b [.int .i64 ((n:Nat):Int), .int .i64 ((c:Nat):Int),s.val])) (af_ 0 (q:=cD fun H hH=>mv) (k:=af_ 1 (q:=cD fun H hH=>nck) (k:=af_ 2 (q:=cD fun H hH=>fla) (k:=?_))))
 refine cE 3 rfl rfl (a8) rfl (cD fun H hH=>ak) (?_)
 refine af_ 4 (q:=cD fun H hH=>mv) (k:=af_ 5 (q:=cD fun H hH=>nck) (k:=af_ 6 (q:=cD fun H hH=>fla) (k:=?_)))
 refine cE 7 rfl rfl (a8) rfl (cD fun H hH=>ar) (?_)
 refine af_ 9 (q:=cD fun H hH=>mv) (k:=af_ 10 (q:=cD fun H hH=>nck) (k:=af_ 11 (q:=cD fun H hH=>fla) (k:=?_)))
 refine cE 12 rfl rfl (a8) rfl (cD fun H hH=>aZ) (?_)
 refine cN 8 rfl (a8) rfl (fun k hk=> ⟨fun hi=> ab,fun hi=> ab,fun hi=> ab⟩) (iN eW rfl) ?_
 rintro _ _ ⟨s11,rfl,rfl⟩
 refine cN 13 rfl (a8) rfl (fun k hk=> ⟨fun hi=> ab,fun hi=> ab,fun hi=> ab⟩) (eY rfl rfl rfl rfl (af) (af)) ?_
 rintro _ _ ⟨s16,rfl,rfl⟩
 refine af_ 14 (q:=cD fun H hH=>bld [(0,_),(1,_),(2,_)]) (k:=?_)
 refine cN 15 rfl (a8) rfl (fun k hk=> ⟨fun hi=> ab,fun hi=> ab,fun hi=> absurd hk (ad)⟩) (th rfl) ?_
 rintro _ _ ⟨b18,rfl,rfl⟩
 refine af_ 16 (q:=cD fun H hH=>asn) (k:=db (a8) (fun k hk=> ⟨fun hi=> ab,fun hi=> ab,fun hi=> absurd hk (ad)⟩) (gk (k:=rt_ Tryz.results99 (k:=?_))))
 exact⟨_,hsb,_,_,rfl,rfl⟩
theorem EX {G:cK}{H:cG}{g b n c:Nat}{s:SV}{ws:List Nat}{dv fv lv wv bl im:Value}{l:List (Int×SV)}{sd:SV} [cQ H b [.int .i64 ((n:Nat):Int), .int .i64 ((c:Nat):Int),s.val]] [hs:Sl H s eW ws] [cQ H g [fv,sd.val,lv,wv,bl,im]] [Sl H sd eD l] (hl:ws.length≤1000000) (hn:l.length=n):SC G Tryz.prog 39 [.pointer (some ⟨g,0,none⟩), .pointer (some ⟨b,0,none⟩)] H (fun v H'=> ∃(p b':Nat) (s':SV),v= .tuple #[.pointer (some ⟨p,0,none⟩), .nilIface]∧H'=Vr p [.pointer (some ⟨g,0,none⟩), .pointer (some ⟨b',0,none⟩)]::Vr b' [.int .i64 ((n:Nat):Int), .int .i64 ((c:Nat):Int),s'.val]::Row s' eW ws::H):=by
 refine sWk Tryz.func39 Tryz.ntmps39 ?_
 refine ws_ (wr_ (e_ asn (k:=e_ asn (k:=on_ (qn_ (ws_ (ws_ (wr_ (e_ mv (k:=?_))))))))))
 refine e_ (dU rfl) (k:=?_)
 refine gk (k:=wi_ (k:=fun h1=>?_) (m:=fun h1=>?_))
 ·exact absurd h1 (an)
 refine go ?_
 refine d1_ rfl (NX (n:=n) (c:=c) (s:=s)) (k:=go ?_)
 refine d1_ rfl (Mb (sd:=sd) (l:=l) (fv:=fv) (lv:=lv) (wv:=wv) (bl:=bl) (im:=im)) (k:=gk (k:=wi_ (k:=fun h2=>?_) (m:=fun h2=>?_)))
 ·exact absurd h2 (by simp[hn])
 refine go ?_
 refine c1_ rfl (Me (n:=n) (c:=c) (s:=s) hl) (k:=?_)
 rintro _ _ ⟨b31,s31,rfl,rfl⟩
 refine e_ (bld [(0,_),(1,_)]) (k:=bxx (k:=fun b33=>?_))
 refine gk (k:=rt_ Tryz.results39 (k:=?_))
 exact⟨_,hsb,_,_,_,rfl,rfl⟩
theorem Mh {G:cK}{H:cG}{a:PtA}{q:PtD}{d:Int} [hp:dq H a q] (hq:Bj q):SC G Tryz.prog 82 [.pointer (some ⟨a.p,0,none⟩), .int .i64 d] H (fun v H'=> v= .bool (decide (0≤d) && decide (d<((q.ds.length:Nat):Int)) && !oG q.dw d.toNat)∧H'=H):=by
 refine sWk Tryz.func82 Tryz.ntmps82 ?_
 refine go ?_
 refine d2_ rfl (EZ (a:=a)) (k:=sp_ (mv) (k:=fun h1=>?_) (m:=fun h1=>?_))
 ·obtain⟨e,rfl⟩:∃e:Nat,d=((e:Nat):Int):=⟨d.toNat,az⟩
  have hel:e<q.ds.length:=az
  refine go ?_
  refine sg_ (cW (vs:= [_,_]) rfl (LY (n:=q.ds.length) (c:=a.cnt) (s:=a.ws) (ws:=q.dw) hel hq.n hq.wl hq.w)) (k:=?_)
  rintro _ _ ⟨rfl,rfl⟩
  refine gk (k:=rt_ Tryz.results82 (k:=?_))
  exact⟨_,hsb,by simp[gF,hel],rfl⟩
 have hz:(decide (0≤d) && decide (d<((q.ds.length:Nat):Int)))=false:=by(have h9:=h1;simp;omega)
 refine gk (k:=rt_ Tryz.results82 (k:=?_))
 exact⟨_,hsb,by rw[hz,Bool.false_and];all_goals rfl,rfl⟩
theorem DA {n i:Nat}{f:Nat→Bool}(hi:i<n):((List.range n).drop i).find? f=if f i=true then some i else((List.range n).drop (i+1)).find? f:=by
 rw[dF (l:=List.range n) (i:=i) (x:=i) (by rw[List.getElem?_range hi]),List.find?_cons]
 all_goals (cases f i <;> rfl)
theorem A3 {G:cK}{H:cG}{a:PtA}{q:PtD}{i0:Int} [hp:dq H a q] (hq:Bj q) (hi0:i0≤4294967296):SC G Tryz.prog 79 [.pointer (some ⟨a.p,0,none⟩), .int .i64 i0] H (fun v H'=> ((∃d:Nat,((List.range q.ds.length).drop i0.toNat).find? (fun d=> !oG q.dw d)=some d∧v= .tuple #[.int .i64 ((d:Nat):Int), .bool true])∨(((List.range q.ds.length).drop i0.toNat).find? (fun d=> !oG q.dw d)=none∧v= .tuple #[.int .i64 0, .bool false]))∧H'=H):=by
 have hqn:=hq.n
 refine sWk Tryz.func79 Tryz.ntmps79 ?_
 refine ws_ (wr_ (e_ asn (k:=e_ asn (k:=on_ (qn_ (ws_ (ws_ (wr_ (e_ mv (k:=?_))))))))))
 refine e_ (evq (mO rfl rfl) (congrArg (Value.int .i64) (show _=((i0.toNat:Nat):Int)from aa))) (k:=?_)
 refine gk (k:=dt (Nat) (fun y=> i0.toNat≤y∧y≤max i0.toNat q.ds.length∧((List.range q.ds.length).drop i0.toNat).find? (fun d=> !oG q.dw d)=((List.range q.ds.length).drop y).find? (fun d=> !oG q.dw d)) (fun y=> [(1, .int .i64 ((y:Nat):Int))]) [(0,_)] (fun y=> []) _ (fun y=> q.ds.length - y) (i0.toNat) (h0:=?_) (k:=?_))
 ·try dsimp only
  exact⟨Nat.le_refl _,aa,rfl⟩
 rintro i ⟨hi1,hi2,hfd⟩
 try dsimp only[Yd,Ye]at*
 refine go ?_
 refine d1_ rfl (Md (a:=a)) (k:=gk (k:=wi_ (k:=fun h1=>?_) (m:=fun h1=>?_)))
 ·have hil:i<q.ds.length:=by have h9:=h1;omega
  rw[DA hil]at hfd
  refine go ?_
  refine d2_ rfl (LY (n:=q.ds.length) (c:=a.cnt) (s:=a.ws) (ws:=q.dw) hil hq.n hq.wl hq.w) (k:=gk (k:=wi_ (k:=fun h2=>?_) (m:=fun h2=>?_)))
  ·rw[if_pos (aO)]at hfd
   refine gk (k:=rt_ Tryz.results79 (k:=?_))
   exact⟨_,hsb, .inl ⟨i,hfd,rfl⟩,rfl⟩
  rw[if_neg (aO)]at hfd
  refine go ?_
  refine ln_ (i+1) (k:=?_)
  try dsimp only
  exact⟨aa,aa,hfd⟩
 rw[show(List.range q.ds.length).drop i= []from List.drop_eq_nil_of_le (by rw[List.length_range];have h9:=h1;omega),List.find?_nil]at hfd
 refine gk (k:=rt_ Tryz.results79 (k:=?_))
 exact⟨_,hsb, .inr ⟨hfd,rfl⟩,rfl⟩
theorem ov {G:cK}{P:Program}{t:Tm}{H:cG}{dst:Option Tmp}{ty:TypeId}{pos:String}{after:Array Edge}{g:Option (Nat×Bool)}{T U:TypeId}{x y:Operand}{i j:Int}(hx:evo t x=some (.int .u64 i)) (hy:evo t y=some (.int .u64 j)) (a b:Nat) (ha:i=a) (hb:j=b) (h:a*b<18446744073709551616):
 Ev G P ⟨dst, .binOp .mul T x y U,ty,pos,after,g⟩ t H (.int .u64 ((a*b:Nat):Int)):=by
 have:=sD (G:=G) (P:=P) (H:=H) (dst:=dst) (ty:=ty) (pos:=pos) (after:=after) (g:=g) (T:=T) (U:=U) (k:= .u64) 18446744073709551616 rfl hx hy rfl a b ha hb
 rwa [Nat.mod_eq_of_lt h]at this
theorem xc (n:Nat):eu n≤1048576:=Nat.min_le_right _ _
theorem sW {G:cK}{H:cG}{n:Int}:SC G Tryz.prog 181 [.int .i64 n] H (fun v H'=> v= .int .u64 ((eu n.toNat:Nat):Int)∧H'=H):=by
 have hc:=xc n.toNat
 refine sWk Tryz.func181 Tryz.ntmps181 ?_
 refine ws_ (wr_ (e_ asn (k:=on_ (qn_ (ws_ (wr_ (e_ mv (k:=?_))))))))
 refine e_ (mO rfl rfl) (k:=?_)
 refine e_ (evq (mN rfl rfl) (congrArg (Value.int .i64) (show _=((eu n.toNat:Nat):Int)from by unfold eu;omega))) (k:=?_)
 refine e_ (cU 18446744073709551616 rfl rfl rfl (eu n.toNat) rfl (aa)) (k:=?_)
 refine gk (k:=rt_ Tryz.results181 (k:=?_))
 exact⟨_,hsb,rfl,rfl⟩
theorem PO {G:cK}{H:cG}{f l a:Int}:SC G Tryz.prog 145 [.int .i64 f, .int .i64 l, .int .i64 a] H (fun v H'=> v= .int .u64 ((Jc f.toNat l.toNat a.toNat:Nat):Int)∧H'=H):=by
 have hf:=xc f.toNat
 have hl:=xc l.toNat
 have ha:=xc a.toNat
 have hA1:1≤max (eu a.toNat) 1:=Nat.le_max_right _ _
 have hA2:max (eu a.toNat) 1≤1048576:=aa
 have hm1:10240*eu f.toNat*max (eu a.toNat) 1≤10240*1048576*1048576:=Nat.mul_le_mul (Nat.mul_le_mul (Nat.le_refl _) hf) hA2
 have hm2:10*eu f.toNat*max (eu a.toNat) 1≤10*1048576*1048576:=Nat.mul_le_mul (Nat.mul_le_mul (Nat.le_refl _) hf) hA2
 refine sWk Tryz.func145 Tryz.ntmps145 ?_
 refine go ?_
 refine d1_ rfl (sW) (k:=go ?_)
 refine d1_ rfl (sW) (k:=go ?_)
 refine d1_ rfl (sW) (k:=?_)
 refine e_ (evq (mO rfl rfl) (congrArg (Value.int .u64) (show _=((max (eu a.toNat) 1:Nat):Int)from aa))) (k:=?_)
 refine e_ asn (k:=e_ asn (k:=e_ asn (k:=on_ (qn_ (ws_ (wr_ (e_ mv (k:=?_))))))))
 refine e_ (ov rfl rfl 10240 (eu f.toNat) rfl rfl (aa)) (k:=?_)
 refine e_ mv (k:=?_)
 refine e_ (ov rfl rfl (10240*eu f.toNat) (max (eu a.toNat) 1) rfl rfl (aa)) (k:=?_)
 refine e_ mv (k:=?_)
 refine e_ (ov rfl rfl 10 (eu f.toNat) rfl rfl (aa)) (k:=?_)
 refine e_ mv (k:=?_)
 refine e_ (ov rfl rfl (10*eu f.toNat) (max (eu a.toNat) 1) rfl rfl (aa)) (k:=?_)
 refine e_ mv (k:=?_)
 refine e_ (ov rfl rfl 3 (max (eu a.toNat) 1) rfl rfl (aa)) (k:=?_)
 refine e_ (jY 18446744073709551616 rfl rfl rfl rfl (10*eu f.toNat*max (eu a.toNat) 1) (3*max (eu a.toNat) 1) rfl rfl (aa)) (k:=?_)
 refine e_ mv (k:=?_)
 refine e_ (ov rfl rfl 9 (eu l.toNat) rfl rfl (aa)) (k:=?_)
 refine e_ (jY 18446744073709551616 rfl rfl rfl rfl (10*eu f.toNat*max (eu a.toNat) 1+3*max (eu a.toNat) 1) (9*eu l.toNat) rfl rfl (aa)) (k:=?_)
 refine e_ (gn rfl rfl (10240*eu f.toNat*max (eu a.toNat) 1) (10*eu f.toNat*max (eu a.toNat) 1+3*max (eu a.toNat) 1+9*eu l.toNat) rfl rfl (aa) (by show _≤(18446744073709551615:Int);omega)) (k:=?_)
 refine gk (k:=rt_ Tryz.results145 (k:=?_))
 exact⟨_,hsb,rfl,rfl⟩
structure MX where
 pa:PrA
 all:Bool
 co:SV
 pt:PtA
 cu:SV
 cs:List Nat
structure MY where
 stk:List VV
 pl:Int
 pc:Nat
 st:Nat
 vi:Nat
abbrev mV (x:MX) (s:SV) (y:MY):List Value:= [x.pa.av.val,x.pa.cu.val,x.pa.ne.val, .bool x.all,x.pa.dr.val,x.pa.co.val,x.co.val, .pointer (some ⟨x.pt.p,0,none⟩),x.cu.val, .func (.func 42) #[] #[], .func (.func 43) #[] #[], .func (.func 45) #[] #[], .func (.func 46) #[] #[], .func (.func 47) #[] #[], .func (.func 48) #[] #[], .func (.func 49) #[] #[], .func (.func 52) #[] #[], .func (.func 54) #[] #[], .func (.func 56) #[] #[], .func (.func 58) #[] #[], .func (.func 60) #[] #[], .func (.func 62) #[] #[], .func (.func 63) #[] #[], .func (.func 64) #[] #[], .func (.func 65) #[] #[], .func (.func 68) #[] #[],s.val, .int .i64 y.pl, .int .i64 ((y.pc:Nat):Int), .int .i64 ((y.st:Nat):Int), .int .i64 ((y.vi:Nat):Int)]
def Mo (m:Nat) (z:MX×MY):Hp:=Ex fun s:SV=> [Vr m (mV z.1 s z.2),Row s eVV z.2.stk]
theorem jB {m:Nat}{x:MX}{y:MY}{s:SV}{R:cG}:cJ (Vr m (mV x s y)::Row s eVV y.stk::R) (Mo m (x,y)::R):=sA (K:=Mo) (i:=m) (a:=(x,y)) rfl s
theorem nN {G:cK}{P:Program}{H:cG}{f:FuncId}{args:List Value}{K:Value→cG→Prop}{R:cG}{m:Nat}{x:MX}{y:MY}(hr:Rem H Mo m (x,y) R) (h:∀s:SV,SC G P f args (Vr m (mV x s y)::Row s eVV y.stk::R) K):SC G P f args H K:=
 ⟨(h SV.nil).enter,fun w hw=> let ⟨s,hs⟩:=mo (K:=Mo) rfl hr hw;(h s).call w hs⟩
theorem nF {G:cK}{H R:cG}{m:Nat}{x:MX}{y:MY}{a:Bool}{b:Nat} [hr:Rem H Mo m (x,y) R] (hl:y.stk.length≤1000000000):SC G Tryz.prog 44 [.pointer (some ⟨m,0,none⟩), .agg [.bool a, .int .u64 ((b:Nat):Int)].toArray] H (fun v H'=> v= .tuple #[]∧H'=Mo m (x,{y with stk:=y.stk++ [(a,b)]})::R):=by
 refine nN hr (fun s=> ?_)
 refine sWk Tryz.func44 Tryz.ntmps44 ?_
 refine gk (k:=bxx (k:=fun b3=>?_))
 refine go ?_
 refine df cI (fun i=> [6,7,10].contains i) (fun k H=> (k=4→cQ H m (mV x s y))∧(k=5→cQ H b3 [.bool a, .int .u64 ((b:Nat):Int)])) (af_ 0 (q:=cD fun H hH=>mv) (k:=af_ 1 (q:=cD fun H hH=>mv) (k:=af_ 2 (q:=cD fun H hH=>nck) (k:=af_ 3 (q:=cD fun H hH=>fla) (k:=?_)))))
 refine cE 4 rfl rfl (a8) rfl (cD fun H hH=>ak) (?_)
 refine cE 5 rfl rfl (a8) rfl (cD fun H hH=>by have hN:=hH.2 rfl;exact lds) (?_)
 refine cN 6 rfl (a8) rfl (fun k hk=> ⟨fun hi=> ab,fun hi=> ab⟩) (ew eVV rfl rfl) ?_
 rintro _ _ ⟨s10,rfl,rfl⟩
 refine cN 7 rfl (a8) rfl (fun k hk=> ⟨fun hi=> ab,fun hi=> absurd hk (ad)⟩) (eY rfl rfl rfl rfl (af) (af)) ?_
 rintro _ _ ⟨s11,rfl,rfl⟩
 refine af_ 8 (q:=cD fun H hH=>nck) (k:=af_ 9 (q:=cD fun H hH=>fla) (k:=?_))
 refine cN 10 rfl (a8) rfl (fun k hk=> ⟨fun hi=> absurd hk (ad),fun hi=> absurd hk (ad)⟩) (dM rfl rfl rfl) ?_
 rintro _ _ ⟨rfl,rfl⟩
 refine db (a8) (fun k hk=> ⟨fun hi=> absurd hk (ad),fun hi=> absurd hk (ad)⟩) (rt_ Tryz.results44 (k:=?_))
 exact⟨_,cJ.trans (hsb) (jB (x:=x) (y:={y with stk:=y.stk++ [(a,b)]}) (s:=s11)),rfl,rfl⟩
theorem Ij {l:List VV}(h:0<l.length):l[l.length - 1]? =some (fR l):=by
 rw[fR,List.getLast?_eq_getElem?,Yi (aa)];all_goals rfl
theorem Ly {G:cK}{H:cG}{m:Nat}{x:MX}{y:MY}{s:SV} [hm:cQ H m (mV x s y)] [hs:Sl H s eVV y.stk] (h0:0<y.stk.length) (hl:y.stk.length≤1000000000):SC G Tryz.prog 67 [.pointer (some ⟨m,0,none⟩)] H (fun v H'=> v= .agg [.bool (fR y.stk).1, .int .u64 (((fR y.stk).2:Nat):Int)].toArray∧H'=H):=by
 have hg:=Ij h0
 refine sWk Tryz.func67 Tryz.ntmps67 ?_
 refine gk (k:=alc (k:=fun b2=>?_))
 refine go ?_
 refine df cI (fun i=> [12].contains i) (fun k H=> (k=3→cQ H m (mV x s y))∧(k=7→cQ H m (mV x s y))∧(k=8→Sl H s eVV y.stk)∧(k=10→Sl H s eVV y.stk)∧(k=11→Sl H s eVV y.stk)) (af_ 0 (q:=cD fun H hH=>mv) (k:=af_ 1 (q:=cD fun H hH=>nck) (k:=af_ 2 (q:=cD fun H hH=>fla) (k:=?_))))
 refine cE 3 rfl rfl (a8) rfl (cD fun H hH=>ak) (?_)
 refine af_ 4 (q:=cD fun H hH=>mv) (k:=af_ 5 (q:=cD fun H hH=>nck) (k:=af_ 6 (q:=cD fun H hH=>fla) (k:=?_)))
 refine cE 7 rfl rfl (a8) rfl (cD fun H hH=>ar) (?_)
 refine cE 8 rfl rfl (a8) rfl (cD fun H hH=>cf) (?_)
 refine af_ 9 (q:=cD fun H hH=>isb) (k:=?_)
 refine cE 10 rfl rfl (a8) rfl (cD fun H hH=>bV) (?_)
 refine cE 11 rfl rfl (a8) rfl (cD fun H hH=>by have hN:=hH.2.2.2.2 rfl;exact jn (hy:=hg)) (?_)
 refine cN 12 rfl (a8) rfl (fun k hk=> ⟨fun hi=> ab,fun hi=> ab,fun hi=> ab,fun hi=> ab,fun hi=> ab⟩) (dM rfl rfl rfl) ?_
 rintro _ _ ⟨rfl,rfl⟩
 refine db (a8) (fun k hk=> ⟨fun hi=> absurd hk (ad),fun hi=> absurd hk (ad),fun hi=> absurd hk (ad),fun hi=> absurd hk (ad),fun hi=> absurd hk (ad)⟩) (gk (k:=rt_ Tryz.results67 (k:=?_)))
 exact⟨_,hsb,rfl,rfl⟩
theorem tw {α:Type}{s:SV}{e:Enc α}{xs:List α}{k:Nat}{H:cG}(hk:k≤xs.length):cJ (Row s e xs::H) (Row (s.cut e.sz 0 k) e (xs.take k)::H):=fun L hL=> by
 obtain⟨L1,L2,rfl,h1,h2⟩:=hL
 refine⟨L1++L2, [],⟨L1,L2,rfl,?_,h2⟩,an⟩
 rcases h1 with⟨rfl,rfl,rfl⟩|⟨b,C,E,fz,q1,q2,q3,rfl,q5,q6,q7⟩
 ·obtain rfl:k=0:=by simpa using hk
  exact .inl ⟨rfl,rfl,rfl⟩
 ·refine .inr ⟨b,C,E,fz,?_,?_,?_,rfl,?_,q6,fun j v hv=> q7 j v ?_⟩
  ·show(if s.c=0 then s.a else s.a.map (·.add (0*e.sz)))=_
   split
   ·exact q1
   ·rw[q1];simp[Addr.add]
  ·show k - 0=(xs.take k).length
   rw[Yg];omega
  ·show k - 0≤s.c - 0
   omega
  ·show C.size=(s.c - 0)*e.sz
   rw[Nat.sub_zero];exact q5
  ·rw[Enc.all_take,List.getElem?_take]at hv
   split at hv
   ·exact hv
   ·cases hv
theorem ET {G:cK}{H R:cG}{m:Nat}{x:MX}{y:MY} [hr:Rem H Mo m (x,y) R] (h0:0<y.stk.length) (hl:y.stk.length≤1000000000):SC G Tryz.prog 61 [.pointer (some ⟨m,0,none⟩)] H (fun v H'=> v= .agg [.bool (fR y.stk).1, .int .u64 (((fR y.stk).2:Nat):Int)].toArray∧H'=Mo m (x,{y with stk:=y.stk.dropLast})::R):=by
 refine nN hr (fun s=> ?_)
 refine sWk Tryz.func61 Tryz.ntmps61 ?_
 refine gk (k:=alc (k:=fun b2=>?_))
 refine go ?_
 refine d1_ rfl (Ly (x:=x) (y:=y) (s:=s) h0 hl) (k:=alc (k:=fun b3=>?_))
 refine go ?_
 refine df cI (fun i=> [14].contains i) (fun k H=> (k=4→cQ H m (mV x s y))∧(k=8→cQ H m (mV x s y))∧(k=9→Sl H s eVV y.stk)∧(k=11→Sl H s eVV y.stk)) (af_ 0 (q:=cD fun H hH=>mv) (k:=af_ 1 (q:=cD fun H hH=>mv) (k:=af_ 2 (q:=cD fun H hH=>nck) (k:=af_ 3 (q:=cD fun H hH=>fla) (k:=?_)))))
 refine cE 4 rfl rfl (a8) rfl (cD fun H hH=>ak) (?_)
 refine af_ 5 (q:=cD fun H hH=>mv) (k:=af_ 6 (q:=cD fun H hH=>nck) (k:=af_ 7 (q:=cD fun H hH=>fla) (k:=?_)))
 refine cE 8 rfl rfl (a8) rfl (cD fun H hH=>ar) (?_)
 refine cE 9 rfl rfl (a8) rfl (cD fun H hH=>cf) (?_)
 refine af_ 10 (q:=cD fun H hH=>isb) (k:=?_)
 refine cE 11 rfl rfl (a8) rfl (cD fun H hH=>by have hN:=hH.2.2.2 rfl;exact eL rfl (bQ) 0 (y.stk.length - 1) rfl ⟨_,_,rfl,aa⟩ (aa) (aa)) (?_)
 refine af_ 12 (q:=cD fun H hH=>nck) (k:=af_ 13 (q:=cD fun H hH=>fla) (k:=?_))
 refine cN 14 rfl (a8) rfl (fun k hk=> ⟨fun hi=> ab,fun hi=> ab,fun hi=> ab,fun hi=> ab⟩) (dM rfl rfl rfl) ?_
 rintro _ _ ⟨rfl,rfl⟩
 refine db (a8) (fun k hk=> ⟨fun hi=> absurd hk (ad),fun hi=> absurd hk (ad),fun hi=> absurd hk (ad),fun hi=> absurd hk (ad)⟩) (gk (k:=rt_ Tryz.results61 (k:=?_)))
 refine⟨_,?_,rfl,rfl⟩
 refine cJ.trans (H':=Row s eVV y.stk::Vr m (mV x (s.cut 2 0 (y.stk.length - 1)) y)::R) (hsb) ((tw (k:=y.stk.length - 1) (aa)).trans ?_)
 rw[←List.dropLast_eq_take]
 exact cJ.trans (hsb) (jB (x:=x) (y:={y with stk:=y.stk.dropLast}) (s:=s.cut 2 0 (y.stk.length - 1)))
theorem KN {G:cK}{H R:cG}{m:Nat}{x:MX}{y:MY}{yes:Bool}{op A B:Nat} [hr:Rem H Mo m (x,y) R] (hA:A≤1000000000) (hp:y.pc≤1000000000):SC G Tryz.prog 66 [.pointer (some ⟨m,0,none⟩), .bool yes, .agg [.int .i64 ((op:Nat):Int), .int .u64 ((A:Nat):Int), .int .u64 ((B:Nat):Int)].toArray] H (fun v H'=> v= .tuple #[]∧H'=Mo m (x,{y with pc:=if yes=true then y.pc+A else y.pc})::R):=by
 refine nN hr (fun s=> ?_)
 refine sWk Tryz.func66 Tryz.ntmps66 ?_
 refine gk (k:=bxx (k:=fun b5=>?_))
 refine gk (k:=wi_ (k:=fun h1=>?_) (m:=fun h1=>?_))
 ·have hy:yes=true:=h1
  refine df cI (fun i=> [10].contains i) (fun k H=> (k=3→cQ H m (mV x s y))∧(k=5→cQ H b5 [.int .i64 ((op:Nat):Int), .int .u64 ((A:Nat):Int), .int .u64 ((B:Nat):Int)])) (af_ 0 (q:=cD fun H hH=>mv) (k:=af_ 1 (q:=cD fun H hH=>nck) (k:=af_ 2 (q:=cD fun H hH=>fla) (k:=?_))))
  refine cE 3 rfl rfl (a8) rfl (cD fun H hH=>ak) (?_)
  refine af_ 4 (q:=cD fun H hH=>fla) (k:=?_)
  refine cE 5 rfl rfl (a8) rfl (cD fun H hH=>aE) (?_)
  refine cE 6 rfl rfl (a8) rfl (cD fun H hH=>dy rfl (aa)) (?_)
  refine af_ 7 (q:=cD fun H hH=>iad) (k:=af_ 8 (q:=cD fun H hH=>nck) (k:=af_ 9 (q:=cD fun H hH=>fla) (k:=?_)))
  refine cN 10 rfl (a8) rfl (fun k hk=> ⟨fun hi=> ab,fun hi=> ab⟩) (dM rfl rfl rfl) ?_
  rintro _ _ ⟨rfl,rfl⟩
  refine db (a8) (fun k hk=> ⟨fun hi=> absurd hk (ad),fun hi=> absurd hk (ad)⟩) (rt_ Tryz.results66 (k:=?_))
  rw[if_pos hy];exact⟨_,cJ.trans (hsb) (jB (x:=x) (y:={y with pc:=y.pc+A}) (s:=s)),rfl,rfl⟩
 have hy:¬yes=true:=bL
 refine gk (k:=rt_ Tryz.results66 (k:=?_))
 rw[if_neg hy];exact⟨_,cJ.trans (hsb) (jB (x:=x) (y:=y) (s:=s)),rfl,rfl⟩
theorem PY {G:cK}{H R:cG}{m:Nat}{x:MX}{y:MY}{op A B:Nat} [hr:Rem H Mo m (x,y) R] (h0:0<y.stk.length) (hl:y.stk.length≤1000000000):SC G Tryz.prog 63 [.pointer (some ⟨m,0,none⟩), .agg [.int .i64 ((op:Nat):Int), .int .u64 ((A:Nat):Int), .int .u64 ((B:Nat):Int)].toArray] H (fun v H'=> v= .tuple #[]∧H'=Mo m (x,{y with stk:=nu y.stk fun a=> if a.1=true then(true,w64 (A*262144))else(false,0)})::R):=by
 have hdl:y.stk.dropLast.length≤1000000000:=by rw[List.length_dropLast];omega
 refine sWk Tryz.func63 Tryz.ntmps63 ?_
 refine gk (k:=bxx (k:=fun b3=>?_))
 refine go ?_
 refine d1_ rfl (ET h0 hl) (k:=?_)
 refine e_ (gA (ft:=4) (off:=0) Tryz.underlying97 rfl rfl rfl) (k:=?_)
 refine gk (k:=wi_ (k:=fun h1=>?_) (m:=fun h1=>?_))
 ·have ht:(fR y.stk).1=true:=h1
  have hst:y.stk.dropLast++ [(true,A*262144 % 18446744073709551616)]=nu y.stk fun a=> if a.1=true then(true,w64 (A*262144))else(false,0):=by rw[nu,if_pos ht];all_goals rfl
  refine wr_ (e_ mv (k:=e_ fla (k:=e_ ldv (k:=?_))))
  refine e_ (sD 18446744073709551616 rfl rfl rfl rfl _ 262144 rfl rfl) (k:=?_)
  refine e_ (bld [(0,_),(1,_)]) (k:=?_)
  refine d2_ rfl (nF hdl) (k:=gk (k:=rt_ Tryz.results63 (k:=?_)))
  rw[←hst];exact⟨_,hsb,rfl,rfl⟩
 have ht:¬(fR y.stk).1=true:=bL
 have hst:y.stk.dropLast++ [(false,0)]=nu y.stk fun a=> if a.1=true then(true,w64 (A*262144))else(false,0):=by rw[nu,if_neg ht]
 refine wr_ (e_ mv (k:=e_ (bld []) (k:=?_)))
 refine d2_ rfl (nF (a:=false) (b:=0) hdl) (k:=gk (k:=rt_ Tryz.results63 (k:=?_)))
 rw[←hst];exact⟨_,hsb,rfl,rfl⟩
end Go.Sx
