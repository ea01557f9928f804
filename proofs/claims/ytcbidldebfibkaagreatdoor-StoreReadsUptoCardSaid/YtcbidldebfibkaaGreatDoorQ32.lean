import Derived.Test.YtcbidldebfibkaaGreatDoorQ31
set_option linter.unusedVariables false
set_option linter.unusedSimpArgs false
set_option linter.unusedSectionVars false
set_option linter.unnecessarySimpa false
set_option maxHeartbeats 0
namespace Go.Sx
open Go Go.Proofs
set_option maxRecDepth 100000
theorem rf:∀(l:List Nat) (i n:Nat),i≤9→10≤n+i→eY i (l.take n)=eY i l
 | [],_,_,_,_=> aj
 |x::r,i,n,hi,hn=> by
  obtain⟨m,rfl⟩:∃m,n=m+1:=⟨n - 1,a8⟩
  rw[List.take_succ_cons,eY,eY]
  by_cases h9:i=9
  ·subst h9
   by_cases hx:1<x
   ·rw[if_pos ⟨rfl,hx⟩,if_pos ⟨rfl,hx⟩]
   ·have a2:¬128≤x:=by omega
    simp[hx,a2]
  ·rw[rf r (i+1) m (a8) (a8)]
theorem Eb {l:List Nat}{x:Nat}(h0:l[0]? =some x) (hx:x≠0):iu l=match eY 0 (l.drop 1)with
 | .error _=> none
 | .ok (n,m)=> if l.length - (1+m)<4∨l.length - (1+m) - 4<n then none else
  if jt (l.drop (1+m+n))=mN (l.take (1+m+n))then some (1+m,1+m+n)else none:=by
 match l,h0 with
 |y::r,h0=>
  simp at h0;subst h0
  have e:(((y::r).take (min (y::r).length 11)).drop 1)=r.take 10:=by
   by_cases hl:(y::r).length≤11
   ·rw[Nat.min_eq_left hl,List.take_length,List.drop_one,List.tail_cons,List.take_of_length_le]
    simp only[Yb]at hl;omega
   ·rw[Nat.min_eq_right (a8)];simp
  rw[iu,if_neg hx,e,rf r 0 10 (a8) (a8)]
  all_goals rfl
theorem mr:∀(l:List Nat) (i e:Nat),eY i l= .error e→e=2∨e=3
 | [],i,e,h=> by rw[eY]at h;cases h;exact .inl rfl
 |x::r,i,e,h=> by
  rw[eY]at h
  split at h
  ·cases h;exact .inr rfl
  ·split at h
   ·split at h
    ·cases h
    ·rename_i e' he;cases h;exact mr r (i+1) e he
   ·split at h
    ·cases h;exact .inr rfl
    ·cases h
theorem AH {l:List Nat}{z:Nat}(hl:4≤l.length) (hb:∀x∈l,x<256) (hz:z<4294967296):w32 z=l.take 4↔jt l=z:=by
 constructor
 ·intro h
  have h1:=pc (n:=z) (l.drop 4) hz
  rw[h,List.take_append_drop]at h1
  exact h1
 ·rintro rfl;exact pd hl hb
theorem Cn {G:cM}{H:cG}{s:SV}{xs:List Nat} [hs:Sl H s eB xs] (hn:xs.length≤1000000000) (hb:∀x∈xs,x<256):SC G Tryz.prog 87 [s.val] H (fun v H'=>
 (iu xs=none∧H'=H∧∃e:Int,e≠0∧v= .tuple #[.agg [.int .u8 0, .slice none 0 0].toArray, .int .i64 0, .int .i64 e])∨(∃f t x,∃s':SV,iu xs=some (f,t)∧f≤t∧t+4≤xs.length∧xs[0]? =some x∧v= .tuple #[.agg [.int .u8 ((x:Nat):Int),s'.val].toArray, .int .i64 ((t+4:Nat):Int), .int .i64 0]∧H'=Row s' eB ((xs.take t).drop f)::H)):=by
 refine sWk Tryz.func87 Tryz.ntmps87 ?_
 refine gk (k:=alc (k:=fun b2=>?_))
 refine gk (k:=wi_ (k:=fun h1=>?_) (m:=fun h1=>?_))
 ·have hN:iu xs=none:=by rw[List.eq_nil_of_length_eq_zero (show xs.length=0 from a8)];all_goals rfl
  refine ws_ (wr_ (e_ (bld []) (k:=gk (k:=rt_ Tryz.results87 (k:=?_)))))
  exact⟨_,hsb, .inl ⟨hN,rfl,1,ag,rfl⟩⟩
 obtain⟨x,hx⟩:∃x,xs[0]? =some x:=⟨_,Yi (a8)⟩
 have hxb:=hb x (Yj hx)
 refine wk_ (qn_ (ws_ (ws_ (wr_ (e_ mv (k:=?_))))))
 refine e_ (cO rfl rfl 0 rfl (a8)) (k:=?_)
 refine e_ (dq rfl (aI) (aI) x hx) (k:=?_)
 refine gk (k:=wi_ (k:=fun h2=>?_) (m:=fun h2=>?_))
 ·have hN:iu xs=none:=by
   match xs,hx with
   |y::r,hx=> simp at hx;subst hx;rw[iu,if_pos (a8)]
  refine ws_ (wr_ (e_ (bld []) (k:=gk (k:=rt_ Tryz.results87 (k:=?_)))))
  exact⟨_,hsb, .inl ⟨hN,rfl,6,ag,rfl⟩⟩
 have hE:=Eb hx (a8)
 refine go ?_
 refine iP H rfl (1) (xs.length) ⟨_,_,rfl,(aG)⟩ rfl (a8) (aE) rfl (fun s1 i1=>?_)
 rw[List.take_length]at i1
 refine d1_ rfl (vk (xs:=xs.drop 1) (aC) (fun y hy=> hb y (Yp hy))) (k:=?_)
 rcases hr:eY 0 (xs.drop 1)with e|⟨n,m⟩
 all_goals rw[hr]at hE
 all_goals simp only[]at hE
 all_goals simp only[Kq]
 ·have he:=mr _ _ _ hr
  have hne:kG e≠0:=by rcases he with rfl|rfl <;> decide
  refine e_ mv (k:=e_ exr (k:=e_ exr (k:=e_ exr (k:=e_ asn (k:=e_ asn (k:=e_ asn (k:=on_ (qn_ (ws_ (ws_ (wr_ (e_ mv (k:=e_ ine (k:=?_))))))))))))))
  refine gk (k:=ir_ (k:=fun h3=>?_) (m:=fun h3=>?_))
  ·refine ws_ (wr_ (e_ (bld []) (k:=gk (k:=rt_ Tryz.results87 (k:=?_)))))
   exact⟨_,hsb, .inl ⟨hE,rfl,_,hne,rfl⟩⟩
  exact absurd hne (of_decide_eq_false h3)
 obtain⟨p1,p2,p3,p4,p5,p6⟩:=gZ (xs.drop 1) 0 n m (fun y hy=> hb y (Yp hy)) (a8) hr
 rw[Yo]at p4
 refine e_ mv (k:=e_ exr (k:=e_ exr (k:=e_ exr (k:=e_ asn (k:=e_ asn (k:=e_ asn (k:=on_ (qn_ (ws_ (ws_ (wr_ (e_ mv (k:=e_ ine (k:=?_))))))))))))))
 refine on_ (qn_ (dw (k:=wk_ (qn_ (ws_ (wr_ (e_ mv (k:=e_ lnn (k:=e_ isb (k:=e_ mv (k:=e_ isb (k:=e_ asn (k:=on_ (?_))))))))))))))
 refine qn_ (ws_ (?_))
 refine nt ([(0,s.val),(2, .pointer (some ⟨b2,0,none⟩)),(5, .int .u64 ((n:Nat):Int)),(6, .int .i64 ((m:Nat):Int)),(8, .int .i64 (((xs.length:Nat):Int) - 1 - ((m:Nat):Int))),(44, .bool (decide (xs.length - (1+m)<4∨xs.length - (1+m) - 4<n)))]) ?_ ?_
 ·refine wr_ (e_ mv (k:=e_ ilt (k:=sp_ (mv) (k:=fun h4=>?_) (m:=fun h4=>?_))))
  ·refine gk (k:=ctt)
  refine eg_ mv (k:=eg_ mv (k:=eg_ isb (k:=?_)))
  refine eg_ (cS 18446744073709551616 rfl rfl rfl (xs.length - 1 - m - 4) (a8) (a8)) (k:=?_)
  refine gk (k:=ctt)
 refine wi_ (k:=fun h5=>?_) (m:=fun h5=>?_)
 ·have hN:iu xs=none:=by rw[hE,if_pos (a8)]
  refine ws_ (wr_ (e_ (bld []) (k:=gk (k:=rt_ Tryz.results87 (k:=?_)))))
  exact⟨_,hsb, .inl ⟨hN,rfl,1,ag,rfl⟩⟩
 rw[if_neg (a8)]at hE
 have hzl:mN (xs.take (1+m+n))<4294967296:=wc (fun y hy=> hb y (Yq hy))
 have hwe:=AH (l:=xs.drop (1+m+n)) (z:=mN (xs.take (1+m+n))) (aC) (fun y hy=> hb y (Yp hy)) hzl
 refine wk_ (qn_ (ws_ (wr_ (e_ mv (k:=e_ iad (k:=e_ mv (k:=?_)))))))
 refine e_ (dS rfl (a8)) (k:=?_)
 refine go ?_
 refine di cL (fun i=> [3,4,5].contains i) (fun k H=> (k=2→Sl H s eB xs)∧(k=10→Sl H s eB xs)∧(k=11→Sl H (s.cut 1 (1+m+n) (1+m+n+4)) eB ((xs.drop (1+m+n)).take 4))) (?_)
 haveI c1:Sl H (s.cut 1 0 (1+m+n)) eB (xs.take (1+m+n)):=by
  have:=Sl.cut (e:=eB) hs (lo:=0) (hi:=1+m+n) (Yl _) (a8)
  rw[List.drop_zero]at this;exact this
 haveI c2:Sl H (s.cut 1 (1+m+n) (1+m+n+4)) eB ((xs.drop (1+m+n)).take 4):=by
  have:=Sl.cut (e:=eB) hs (lo:=1+m+n) (hi:=1+m+n+4) (a8) (a8)
  rw[List.drop_take,Nat.add_sub_cancel_left]at this;exact this
 refine af_ 0 (q:=cE fun H hH=>mv) (k:=af_ 1 (q:=cE fun H hH=>mv) (k:=?_))
 refine cH 2 rfl rfl (aa) rfl (cE fun H hH=>by have hN:=hH.1 rfl;exact ef rfl (aI) 0 (1+m+n) rfl ⟨_,_,rfl,a8⟩ (a8) (a8)) (?_)
 refine af_ 6 (q:=cE fun H hH=>mv) (k:=af_ 7 (q:=cE fun H hH=>mv) (k:=af_ 8 (q:=cE fun H hH=>mv) (k:=af_ 9 (q:=cE fun H hH=>iad) (k:=?_))))
 refine cH 10 rfl rfl (aa) rfl (cE fun H hH=>by have hN:=hH.2.1 rfl;exact ef rfl (aI) (1+m+n) (1+m+n+4) ⟨_,_,rfl,a8⟩ ⟨_,_,rfl,a8⟩ (a8) (a8)) (?_)
 refine cH 11 rfl rfl (aa) rfl (cE fun H hH=>by have hN:=hH.2.2 rfl;exact cV rfl) (?_)
 refine cQ 3 rfl (aa) rfl (fun k hk=> ⟨fun hi=> ab,fun hi=> ab,fun hi=> ab⟩) (dm (vs:= [_]) rfl (E4 (xs:=xs.take (1+m+n)) (ax) (fun y hy=> hb y (Yq hy)))) ?_
 rintro _ _ ⟨rfl,rfl⟩
 refine cQ 4 rfl (aa) rfl (fun k hk=> ⟨fun hi=> absurd hk (ad),fun hi=> ab,fun hi=> ab⟩) (dm (vs:= [_]) rfl (sR (mN (xs.take (1+m+n))) hzl)) ?_
 rintro _ _ ⟨s6,rfl,rfl⟩
 refine cQ 5 rfl (aa) rfl (fun k hk=> ⟨fun hi=> absurd hk (ad),fun hi=> ab,fun hi=> ab⟩) ((cV rfl).st) ?_
 rintro _ _ ⟨rfl,rfl⟩
 refine cH 12 rfl rfl (aa) rfl (cE fun H hH=>kC rfl rfl (tk _) (dK (fun y hy=> hb y (Yp (Yq hy))))) (?_)
 refine db (aa) (fun k hk=> ⟨fun hi=> absurd hk (ad),fun hi=> ab,fun hi=> ab⟩) (gk (k:=wi_ (k:=fun h6=>?_) (m:=fun h6=>?_)))
 ·have hN:iu xs=none:=by rw[hE,if_neg (fun h=> h6 (hwe.2 h))]
  refine ws_ (wr_ (e_ (bld []) (k:=gk (k:=rt_ Tryz.results87 (k:=?_)))))
  exact⟨_,hsb, .inl ⟨hN,rfl,7,ag,rfl⟩⟩
 rw[if_pos (hwe.1 h6)]at hE
 refine go ?_
 refine s_ (cZ eB rfl) (k:=?_)
 rintro _ _ ⟨s7,rfl,rfl⟩
 refine e_ mv (k:=e_ mv (k:=e_ iad (k:=e_ mv (k:=?_))))
 refine e_ (ef rfl (aI) (1+m) (1+m+n) ⟨_,_,rfl,a8⟩ ⟨_,_,rfl,a8⟩ (a8) (a8)) (k:=?_)
 haveI c3:Sl H (s.cut 1 (1+m) (1+m+n)) eB ((xs.take (1+m+n)).drop (1+m)):=Sl.cut (e:=eB) hs (a8) (a8)
 refine app (hlim:=by simp only[Yc,Yo,Yg];omega) (hlim2:=by simp only[Yc,Yo,Yg];omega) (k:=fun s8=>?_)
 rw[Ye]
 refine e_ asn (k:=on_ (qn_ (ws_ (wr_ (e_ mv (k:=?_))))))
 refine e_ (cO rfl rfl 0 rfl (a8)) (k:=?_)
 refine e_ (dq rfl (aI) (aI) x hx) (k:=?_)
 refine e_ mv (k:=e_ (bld [(0,_),(1,_)]) (k:=gk (k:=rt_ Tryz.results87 (k:=?_))))
 exact⟨_,hsb, .inr ⟨1+m,1+m+n,x,s8,hE,a8,a8,hx,by show Value.tuple _=Value.tuple _;congr 4,rfl⟩⟩
def Ks (p:Nat):Except Nat (Nat×Nat)→Value
 | .error e=> .tuple #[.int .u64 0, .int .i64 ((p:Nat):Int), .int .i64 (kG e)]
 | .ok (v,n)=> .tuple #[.int .u64 ((v:Nat):Int), .int .i64 ((p+n:Nat):Int), .int .i64 0]
theorem xX {G:cM}{H:cG}{s:SV}{xs:List Nat}{p:Nat} [Sl H s eB xs] (hn:xs.length≤100000000000) (hp:p≤xs.length) (hb:∀x∈xs,x<256):SC G Tryz.prog 122 [s.val, .int .i64 ((p:Nat):Int)] H (fun v H'=> v=Ks p (eY 0 (xs.drop p))∧H'=H):=by
 obtain⟨r,hr⟩:∃r,r=xs.drop p:=⟨_,rfl⟩
 have hbr:∀x∈r,x<256:=fun x hx=> hb x (Yp (hr ▸ hx))
 have hrl:r.length=xs.length - p:=by rw[hr,Yo]
 have hrg:∀j,r[j]? =xs[p+j]? :=fun j=> by rw[hr,Xh]
 rw[←hr]
 refine sWk Tryz.func122 Tryz.ntmps122 ?_
 refine go ?_
 refine wl_ (Nat) (fun k=> k≤r.length∧k≤9∧∀j y,j<k→r[j]? =some y→128≤y) (fun k=> [(0,s.val),(1, .int .i64 ((p:Nat):Int)),(7, .int .i64 ((k:Nat):Int))]) (fun _=> H) (fun k=> 10 - k) (0) (h0:=?_) (k:=?_)
 ·try dsimp only
  exact⟨Yl _,a8,fun j y h=> absurd h (Nat.not_lt_zero _)⟩
 rintro k ⟨hk,hk9,hall⟩
 try dsimp only at*
 refine gk (k:=wi_ (k:=fun h1=>?_) (m:=fun h1=>?_))
 ·have hsh:=pw r 0 (fun y hy=> by obtain⟨j,hj⟩:=List.mem_iff_getElem?.1 hy;exact hall j y (by have:=(Yk.1 hj).1;omega) hj) (a8)
  refine go ?_
  refine rt_ Tryz.results122 (k:=?_)
  exact⟨_,cK.refl,by rw[hsh];all_goals rfl,rfl⟩
 obtain⟨x,hx⟩:∃x,r[k]? =some x:=⟨_,Yi (a8)⟩
 have hxb:=hbr x (Yj hx)
 have hx':xs[p+k]? =some x:=by rw[←hrg];exact hx
 refine wk_ (qn_ (ws_ (wr_ (e_ mv (k:=e_ mv (k:=e_ mv (k:=e_ iad (k:=?_))))))))
 refine e_ (cO rfl rfl (p+k) (a8) (a8)) (k:=?_)
 refine e_ (dq rfl (aI) (aI) x hx') (k:=?_)
 refine e_ asn (k:=on_ (qn_ (ws_ (wr_ (e_ mv (k:=e_ iad (k:=e_ asn (k:=on_ (qn_ (ws_ (?_)))))))))))
 refine nt ([(0,s.val),(1, .int .i64 ((p:Nat):Int)),(7, .int .i64 (((k:Nat):Int)+1)),(8, .int .u8 ((x:Nat):Int)),(31, .bool (decide (k=9∧1<x)))]) ?_ ?_
 ·refine wr_ (e_ mv (k:=e_ ieq (k:=sp_ (mv) (k:=fun h2=>?_) (m:=fun h2=>?_))))
  ·refine gk (k:=ctt)
  refine gk (k:=ctt)
 refine wi_ (k:=fun h3=>?_) (m:=fun h3=>?_)
 ·have hbad:=pX r 0 k x hall hx (a8) (a8)
  refine go ?_
  refine rt_ Tryz.results122 (k:=?_)
  exact⟨_,cK.refl,by rw[hbad];all_goals rfl,rfl⟩
 refine gk (k:=wi_ (k:=fun h4=>?_) (m:=fun h4=>?_))
 ·refine ws_ (?_)
  refine nt ([(0,s.val),(1, .int .i64 ((p:Nat):Int)),(7, .int .i64 (((k:Nat):Int)+1)),(8, .int .u8 ((x:Nat):Int)),(40, .bool (decide (x=0∧0<k)))]) ?_ ?_
  ·refine wr_ (e_ mv (k:=e_ ieq (k:=sp_ (mv) (k:=fun h5=>?_) (m:=fun h5=>?_))))
   ·refine gk (k:=ctt)
   refine gk (k:=ctt)
  refine wi_ (k:=fun h6=>?_) (m:=fun h6=>?_)
  ·have hbad:=pX r 0 k x hall hx (a8) (a8)
   refine go ?_
   refine rt_ Tryz.results122 (k:=?_)
   exact⟨_,cK.refl,by rw[hbad];all_goals rfl,rfl⟩
  have hval:=tM r 0 k x hall hx (a8) (a8) (a8) (a8)
  obtain⟨p1,p2,p3,p4,p5,p6⟩:=gZ r 0 _ _ hbr (a8) hval
  have hd0:=vV (r.take (k+1))
  refine gk (k:=bm_ (k:=go ?_))
  refine gk (k:=wl_ (Nat×Nat) (fun y=> y.1≤k+1∧y.2=uY ((r.take (k+1)).drop y.1)) (fun y=> [(0,s.val),(1, .int .i64 ((p:Nat):Int)),(7, .int .i64 (((k:Nat):Int)+1)),(9, .int .u64 ((y.2:Nat):Int)),(10, .int .i64 ((y.1:Int) - 1))]) (fun _=> H) (fun y=> y.1) ((k+1,0)) (hs:=?_) (h0:=?_) (k:=?_))
  ·rw[show((k+1:Nat):Int) - 1=((k:Nat):Int)+1 - 1 from a8];repeat (first|exact Sub.nil|refine Sub.cons rfl ?_)
  ·try dsimp only
   refine⟨Nat.le_refl _,?_⟩
   rw[List.drop_of_length_le (ax)];all_goals rfl
  rintro⟨j,v⟩ ⟨hj,hv⟩
  try dsimp only at*
  refine gk (k:=wi_ (k:=fun h7=>?_) (m:=fun h7=>?_))
  ·obtain⟨d,rfl⟩:∃d,j=d+1:=⟨j - 1,a8⟩
   obtain⟨z,hz⟩:∃z,r[d]? =some z:=⟨_,Yi (a8)⟩
   have hz2:=hbr z (Yj hz)
   have hz':xs[p+d]? =some z:=by rw[←hrg];exact hz
   have hdd:uY ((r.take (k+1)).drop d)=z % 128+128*v:=by
    rw[dV (show(r.take (k+1))[d]? =some z by rw[List.getElem?_take_of_lt (a8)];exact hz),rE,hv]
   have hdl:=hd0 d
   refine wk_ (qn_ (ws_ (wb_ (wr_ (e_ mv (k:=?_))))))
   refine e_ (wU 18446744073709551616 rfl rfl rfl rfl 128 v rfl rfl) (k:=?_)
   refine e_ mv (k:=e_ mv (k:=e_ mv (k:=e_ iad (k:=?_))))
   refine e_ (cO rfl rfl (p+d) (a8) (a8)) (k:=?_)
   refine e_ (dq rfl (aI) (aI) z hz') (k:=?_)
   refine e_ (gQ rfl rfl z 128 rfl rfl (a8)) (k:=?_)
   refine e_ ((ae)) (k:=?_)
   refine e_ (lV 18446744073709551616 rfl rfl rfl rfl _ _ rfl rfl) (k:=?_)
   rw[show(128*v % 18446744073709551616+z % 128) % 18446744073709551616=z % 128+128*v from a8]
   refine go ?_
   refine ln_ ((d,z % 128+128*v)) (h3:=?_) (k:=?_)
   ·(try rw[show((d+1:Nat):Int) - 1 - 1=(d:Int) - 1 from a8]);repeat (first|exact Sub.nil|refine Sub.cons rfl ?_)
   try dsimp only
   exact⟨a8,hdd.symm⟩
  obtain rfl:j=0:=a8
  refine go ?_
  refine gk (k:=rt_ Tryz.results122 (k:=?_))
  exact⟨_,cK.refl,by rw[hval,hv,show((p:Nat):Int)+(((k:Nat):Int)+1)=((p+(k+1):Nat):Int)from a8];all_goals rfl,rfl⟩
 refine go ?_
 refine ln_ (k+1) (k:=?_)
 try dsimp only
 refine⟨a8,a8,fun j y hj hy=> ?_⟩
 rcases Nat.lt_or_eq_of_le (Nat.le_of_lt_succ hj)with h|rfl
 ·exact hall j y h hy
 ·rw[hx]at hy;cases hy;omega
def Cz (p:Nat):Except Nat (Nat×Nat)→Value
 | .error e=> .tuple #[.int .i64 0, .int .i64 ((p:Nat):Int), .int .i64 (kG e)]
 | .ok (v,n)=> .tuple #[.int .i64 ((v:Nat):Int), .int .i64 ((p+n:Nat):Int), .int .i64 0]
theorem I6 {e:Nat}(h:e=2∨e=3):kG e≠0:=by rcases h with rfl|rfl <;> decide
theorem jR {most e:Nat}{l:List Nat}(h:ec most l= .error e):e=2∨e=3∨e=4:=by
 rw[ec]at h
 split at h
 ·rename_i e' he;cases h;exact(mr _ _ _ he).imp id .inl
 ·split at h
  ·cases h;exact .inr (.inr rfl)
  ·cases h
theorem ll {e:Nat}(h:e=2∨e=3∨e=4):kG e≠0:=by rcases h with rfl|rfl|rfl <;> decide
theorem lg {G:cM}{H:cG}{s:SV}{xs:List Nat}{p most:Nat} [Sl H s eB xs] (hn:xs.length≤100000000000) (hp:p≤xs.length) (hm:most≤9223372036854775807) (hb:∀x∈xs,x<256):SC G Tryz.prog 88 [s.val, .int .i64 ((p:Nat):Int), .int .i64 ((most:Nat):Int)] H (fun v H'=> v=Cz p (ec most (xs.drop p))∧H'=H):=by
 have hU:ec most (xs.drop p)=match eY 0 (xs.drop p)with
  | .error e=> .error e
  | .ok (v,n)=> if most<v then .error 4 else .ok (v,n):=rfl
 refine sWk Tryz.func88 Tryz.ntmps88 ?_
 refine go ?_
 refine c2_ rfl (xX (p:=p) hn hp hb) (k:=?_)
 rintro _ H ⟨rfl,rfl⟩
 rcases hr:eY 0 (xs.drop p)with e|⟨n,m⟩
 all_goals rw[hr]at hU
 all_goals simp only[]at hU
 all_goals simp only[Ks]
 ·have hne:=I6 (mr _ _ _ hr)
  refine e_ mv (k:=e_ exr (k:=e_ exr (k:=e_ exr (k:=e_ asn (k:=e_ asn (k:=e_ asn (k:=on_ (qn_ (ws_ (ws_ (wr_ (e_ mv (k:=e_ ine (k:=?_))))))))))))))
  refine gk (k:=ir_ (k:=fun h1=>?_) (m:=fun h1=>?_))
  ·refine gk (k:=rt_ Tryz.results88 (k:=?_))
   exact⟨_,cK.refl,by rw[hU];all_goals rfl,rfl⟩
  exact absurd hne (of_decide_eq_false h1)
 obtain⟨p1,p2,p3,p4,p5,p6⟩:=gZ (xs.drop p) 0 n m (fun y hy=> hb y (Yp hy)) (a8) hr
 refine e_ mv (k:=e_ exr (k:=e_ exr (k:=e_ exr (k:=e_ asn (k:=e_ asn (k:=e_ asn (k:=on_ (qn_ (ws_ (ws_ (wr_ (e_ mv (k:=e_ ine (k:=?_))))))))))))))
 refine on_ (qn_ (dw (k:=wk_ (qn_ (ws_ (?_))))))
 refine nt ([(9, .int .u64 ((n:Nat):Int)),(10, .int .i64 ((p+m:Nat):Int)),(1, .int .i64 ((p:Nat):Int)),(30, .bool (decide (most<n)))]) ?_ ?_
 ·refine wr_ (e_ mv (k:=e_ ilt (k:=sp_ (mv) (k:=fun h2=>?_) (m:=fun h2=>?_))))
  ·refine gk (k:=ctt)
  refine eg_ mv (k:=eg_ mv (k:=?_))
  refine eg_ (cS 18446744073709551616 rfl rfl rfl most rfl (a8)) (k:=?_)
  refine gk (k:=ctt)
 refine wi_ (k:=fun h3=>?_) (m:=fun h3=>?_)
 ·rw[if_pos h3]at hU
  refine gk (k:=rt_ Tryz.results88 (k:=?_))
  exact⟨_,cK.refl,by rw[hU];all_goals rfl,rfl⟩
 rw[if_neg h3]at hU
 refine wk_ (qn_ (ws_ (wr_ (e_ mv (k:=?_)))))
 refine e_ (dS rfl (a8)) (k:=?_)
 refine gk (k:=rt_ Tryz.results88 (k:=?_))
 exact⟨_,cK.refl,by rw[hU];all_goals rfl,rfl⟩
theorem zJ {G:cM}{H:cG}{s:SV}{xs:List Nat}{p:Nat} [Sl H s eB xs] (hn:xs.length≤100000000000) (hp:p≤xs.length):SC G Tryz.prog 90 [s.val, .int .i64 ((p:Nat):Int)] H (fun v H'=> ((∃x,xs[p]? =some x∧v= .tuple #[.int .u8 ((x:Nat):Int), .int .i64 ((p+1:Nat):Int), .int .i64 0])∨(p=xs.length∧v= .tuple #[.int .u8 0, .int .i64 ((p:Nat):Int), .int .i64 1]))∧H'=H):=by
 refine sWk Tryz.func90 Tryz.ntmps90 ?_
 refine go ?_
 refine gk (k:=wi_ (k:=fun h1=>?_) (m:=fun h1=>?_))
 ·refine gk (k:=rt_ Tryz.results90 (k:=?_))
  exact⟨_,cK.refl, .inr ⟨a8,rfl⟩,rfl⟩
 obtain⟨x,hx⟩:∃x,xs[p]? =some x:=⟨_,Yi (a8)⟩
 refine wk_ (qn_ (ws_ (wr_ (e_ mv (k:=e_ mv (k:=?_))))))
 refine e_ (cO rfl rfl p rfl (a8)) (k:=?_)
 refine e_ (dq rfl (aI) (aI) x hx) (k:=?_)
 refine gk (k:=rt_ Tryz.results90 (k:=?_))
 exact⟨_,cK.refl, .inl ⟨x,hx,rfl⟩,rfl⟩
def Kr (p:Nat):Except Nat (List Nat×Nat)→Value
 | .error e=> .tuple #[.string ByteArray.empty, .int .i64 ((p:Nat):Int), .int .i64 (kG e)]
 | .ok (q,n)=> .tuple #[.string (dO q), .int .i64 ((p+n:Nat):Int), .int .i64 0]
theorem tJ {G:cM}{H:cG}{s:SV}{xs:List Nat}{p most:Nat} [hs:Sl H s eB xs] (hn:xs.length≤100000000000) (hp:p≤xs.length) (hm:most≤9223372036854775807) (hb:∀x∈xs,x<256):SC G Tryz.prog 89 [s.val, .int .i64 ((p:Nat):Int), .int .i64 ((most:Nat):Int)] H (fun v H'=> v=Kr p (hX most (xs.drop p))∧H'=H):=by
 have hU:hX most (xs.drop p)=match ec most (xs.drop p)with
  | .error e=> .error e
  | .ok (n,m)=> if(xs.drop p).length - m<n then .error 2 else .ok (((xs.drop p).drop m).take n,m+n):=rfl
 refine sWk Tryz.func89 Tryz.ntmps89 ?_
 refine go ?_
 refine c3_ rfl (lg (p:=p) (most:=most) hn hp hm hb) (k:=?_)
 rintro _ H ⟨rfl,rfl⟩
 rcases hr:ec most (xs.drop p)with e|⟨n,m⟩
 all_goals rw[hr]at hU
 all_goals simp only[]at hU
 all_goals simp only[Cz]
 ·have hne:=ll (jR hr)
  refine go ?_
  refine gk (k:=ir_ (k:=fun h1=>?_) (m:=fun h1=>?_))
  ·refine gk (k:=rt_ Tryz.results89 (k:=?_))
   exact⟨_,cK.refl,by rw[hU];all_goals rfl,rfl⟩
  exact absurd hne (of_decide_eq_false h1)
 obtain⟨p1,p2,p3,p4⟩:=dI (fun y hy=> hb y (Yp hy)) hr
 rw[Yo]at p2 hU
 refine go ?_
 refine gk (k:=dw (k:=go ?_))
 refine gk (k:=wi_ (k:=fun h2=>?_) (m:=fun h2=>?_))
 ·rw[if_pos (a8)]at hU
  refine gk (k:=rt_ Tryz.results89 (k:=?_))
  exact⟨_,cK.refl,by rw[hU];all_goals rfl,rfl⟩
 rw[if_neg (a8)]at hU
 refine wk_ (qn_ (ws_ (wr_ (?_))))
 haveI c1:Sl H (s.cut 1 (p+m) (p+m+n)) eB (((xs.drop p).drop m).take n):=by
  have:=Sl.cut (e:=eB) hs (lo:=p+m) (hi:=p+m+n) (a8) (a8)
  rw[List.drop_take,Nat.add_sub_cancel_left]at this
  rw[List.drop_drop];exact this
 refine e_ mv (k:=e_ mv (k:=e_ mv (k:=e_ mv (k:=e_ iad (k:=?_)))))
 refine e_ (ef rfl (aI) (p+m) (p+m+n) ⟨_,_,rfl,rfl⟩ ⟨_,_,rfl,a8⟩ (a8) (a8)) (k:=?_)
 refine e_ (cV rfl) (k:=?_)
 refine gk (k:=rt_ Tryz.results89 (k:=?_))
 exact⟨_,cK.refl,by rw[hU,show((p+m:Nat):Int)+((n:Nat):Int)=((p+(m+n):Nat):Int)from a8];all_goals rfl,rfl⟩
def mk1 (i j:Nat):Nat:=((i+1)*11400714819323198485 % 18446744073709551616+(j+1)*13787848793156543929 % 18446744073709551616) % 18446744073709551616
def mk2 (i j:Nat):Nat:=(mk1 i j ^^^ (mk1 i j / 2 ^ 29))*10723151780598845931 % 18446744073709551616
def mkN (i j:Nat):Nat:=mk2 i j / 2 ^ 33+1
def mkB (k:Nat):List Nat:=(List.range k).map fun j=> mkN 7 j % 256
def mkI (k:Nat):List Int:=(List.range k).map fun j=> ((mkN 7 j:Nat):Int)
def rwB (x:SV×List Nat):cG:= [Row x.1 eB x.2]
def rwI (x:SV×List Int):cG:= [Row x.1 eI x.2]
theorem FA {A B C:cG}(h:cK B C):cK (A++B) (A++C):=by
 induction A with
 |nil=> exact h
 |cons a A ih=> exact cK.keep ih
def Mj (x:(SV×SV)×(List Nat×List Int)):cG:= [Row x.1.1 eB (x.2.1++mkB 80),Row x.1.2 eI (x.2.2++mkI 80)]
def SV.hd (s:SV) (n:Nat):SV:=s.cut 1 0 n
theorem Mz (s:SV) (n:Nat):(s.hd n).c=s.c:=Nat.sub_zero _
theorem MA (s:SV) (n:Nat):(s.hd n).a=s.a:=by
 unfold SV.hd SV.cut
 simp only
 split
 ·rfl
 ·cases s.a with
  |none=> rfl
  |some a=> cases a;simp[Addr.add]
def pv (x:SV×SV) (q:List Nat×List Int):SV×SV:=(x.1.hd q.1.length,x.2.hd q.2.length)
theorem Kt (x:(SV×SV)×(List Nat×List Int)):cK (Mj x) (pcF (pv x.1 x.2,x.2)):=
 cK.imp (fun _ h=> Row.pre h (MA _ _) (Mz _ _) rfl) (cK.imp (fun _ h=> Row.pre h (MA _ _) (Mz _ _) rfl) cK.refl)
structure Lq (fl:List (SV×SV)) (ps:Pcs) (lq:List (SV×SV)):Prop where
 l1:lq.length=ps.length
 at_:∀(j:Nat) (x:SV×SV) (q:List Nat×List Int),fl[j]? =some x→ps[j]? =some q→lq[j]? =some (pv x q)
theorem Lq.zip {fl:List (SV×SV)}{ps:Pcs}{lq:List (SV×SV)}(h:Lq fl ps lq) (hl:fl.length=ps.length):(fl.zip ps).map (fun x=> (pv x.1 x.2,x.2))=lq.zip ps:=by
 apply List.ext_getElem?
 intro j
 rw[Xd]
 by_cases hj:j<ps.length
 ·obtain⟨q,hq⟩:∃q,ps[j]? =some q:=⟨_,Yi hj⟩
  obtain⟨x,hx⟩:∃x,fl[j]? =some x:=⟨_,Yi (a8)⟩
  rw[(List.getElem?_zip_eq_some (z:=(x,q))).2 ⟨hx,hq⟩,(List.getElem?_zip_eq_some (z:=(pv x q,q))).2 ⟨h.at_ j x q hx hq,hq⟩]
  all_goals rfl
 ·rw[List.getElem?_eq_none (au),List.getElem?_eq_none (au)];all_goals rfl
theorem Lq.mem {fl:List (SV×SV)}{ps:Pcs}{lq:List (SV×SV)}(h:Lq fl ps lq) (hl:fl.length=ps.length) {R:cG}:cK (Cl Mj (fl.zip ps)::R) (Cl pcF (lq.zip ps)::R):=by
 rw[←h.zip hl]
 exact Ln fun x _=> Kt x
theorem Lq.snoc {fl:List (SV×SV)}{ps:Pcs}{lq:List (SV×SV)}(h:Lq fl ps lq) {x:SV×SV}{q:List Nat×List Int}(hq:ps[fl.length]? =some q):Lq (fl++ [x]) ps (lq.set fl.length (pv x q)):=by
 refine⟨by rw[List.length_set];exact h.l1,fun j y r hy hr=> ?_⟩
 have hlt:=(Yk.1 hq).1
 by_cases hj:j=fl.length
 ·subst hj
  rw[Yu (Nat.le_refl _),Nat.sub_self]at hy
  simp at hy;subst hy
  rw[hq]at hr;cases hr
  rw[List.getElem?_set_self (by rw[h.l1];exact hlt)]
 ·have hjl:=(Yk.1 hy).1
  rw[Ya,List.length_singleton]at hjl
  rw[Yv (a8)]at hy
  rw[List.getElem?_set_ne (a8)]
  exact h.at_ j y r hy hr
theorem HX:∀{lp:List (SV×SV)}{zb:List (SV×List Nat)}{zi:List (SV×List Int)}{R:cG},zb.map (·.1)=lp.map (·.1)→zi.map (·.1)=lp.map (·.2)→cK (Cl rwB zb::Cl rwI zi::R) (Cl pcF (lp.zip ((zb.map (·.2)).zip (zi.map (·.2))))::R):=by
 intro lp zb zi R hb hi
 refine(cK.unstar.trans (FA cK.unstar)).trans (cK.trans ?_ (cK.star cK.refl))
 rw[←Yf]
 refine nr (cK.perm ?_)
 induction lp generalizing zb zi with
 |nil=>
  obtain rfl:=List.map_eq_nil_iff.1 hb
  obtain rfl:=List.map_eq_nil_iff.1 hi
  simp
 |cons p lp ih=>
  match zb,zi,hb,hi with
  |x::zb,y::zi,hb,hi=>
   simp only[List.map_cons,List.cons.injEq]at hb hi
   have h:=ih hb.2 hi.2
   simp only[List.map_cons,List.zip_cons_cons,List.flatMap_cons]
   show(Row x.1 eB x.2::(zb.flatMap rwB++Row y.1 eI y.2::zi.flatMap rwI)).Perm (Row p.1 eB x.2::Row p.2 eI y.2::(lp.zip ((zb.map (·.2)).zip (zi.map (·.2)))).flatMap pcF)
   rw[←hb.1,←hi.1]
   exact(List.perm_middle.trans (h.cons _)).cons _
theorem Gb {ι:Type}{f:ι→cG}{l l':List ι}{R:cG}(h:l'.Sublist l):cK (Cl f l::R) (Cl f l'::R):=by
 refine cK.unstar.trans (cK.trans (nr (F':=l'.flatMap f) (qP ?_)) (cK.star cK.refl))
 induction h with
 |slnil=> exact List.Sublist.refl _
 |cons a _ ih=> rw[List.flatMap_cons];exact ih.trans (List.sublist_append_right _ _)
 |cons_cons a _ ih=> rw[List.flatMap_cons,List.flatMap_cons];exact(List.Sublist.refl _).append ih
def Mh:Except Nat (List Nat)→Int
 | .error e=> kG e
 | .ok _=> 0
def My:Except Nat (List Nat)→List Nat
 | .error _=> []
 | .ok i=> i
section
variable {G:cM}{H:cG}{sf sp s:SV}{fs:List FV}{lp:List (SV×SV)}{ps:Pcs}{next:Int}{xs:List Nat}
theorem E6 [Sl H sf eF fs] [hsp:Sl H sp eP lp] (hP:iA H lp ps) (hk:sH ps) (hn:fs.length≤1000000000) (hf:∀f∈fs,f.name.size≤1000000000000) (hpl:ps.length≤100000000) (hsum:jK ps≤900000000):
 SC G Tryz.prog 9 [.agg [sf.val, .int .i64 next,sp.val].toArray] H (fun v H'=> ∃s':SV,v= .tuple #[s'.val, .int .i64 (Mh (fG fs next ps))]∧H'=Row s' eB (My (fG fs next ps))::H):=
 SC.out ((Hy hP hk hn hf hpl hsum).mono fun v H' h=> by
  rcases h with⟨e',he',h1,h2,_⟩|⟨img,s',he',h1,h2⟩
  ·rw[he',h1,h2];exact⟨_,cK.nilRow cK.refl,SV.nil,rfl,rfl⟩
  ·rw[he',h1,h2];exact⟨_,cK.refl,s',rfl,rfl⟩)
end
theorem ready {lp:List (SV×SV)}{zb:List (SV×List Nat)}{zi:List (SV×List Int)}{R:cG}{b d:Nat}(hb:((zb.drop b).take lp.length).map (·.1)=lp.map (·.1)) (hi:((zi.drop d).take lp.length).map (·.1)=lp.map (·.2))
 (ob:∀x∈zb,(∀y∈x.2,y<256)∧x.2.length≤1000000000) (oi:∀x∈zi,(∀y∈x.2,y≤9223372036854775807)∧x.2.length≤1000000000):
 ∃ps':Pcs,lp.length=ps'.length∧sH ps'∧cK (Cl rwB zb::Cl rwI zi::R) (Cl pcF (lp.zip ps')::R):=by
 have h1:=congrArg List.length hb
 have h2:=congrArg List.length hi
 rw[Yh,Yh]at h1 h2
 refine⟨(((zb.drop b).take lp.length).map (·.2)).zip (((zi.drop d).take lp.length).map (·.2)),by rw[List.length_zip,Yh,Yh];omega,?_,?_⟩
 ·intro p hp
  obtain⟨q1,q2⟩:=List.of_mem_zip (a:=p.1) (b:=p.2) hp
  obtain⟨x,hx,e1⟩:=List.mem_map.1 q1
  obtain⟨y,hy,e2⟩:=List.mem_map.1 q2
  have o1:=ob x (Yp (Yq hx))
  have o2:=oi y (Yp (Yq hy))
  rw[←e1,←e2]
  exact⟨o1.1,o1.2,o2.1,o2.2⟩
 ·refine cK.trans (H':=Cl rwB ((zb.drop b).take lp.length)::Cl rwI ((zi.drop d).take lp.length)::R) ?_ (HX hb hi)
  exact(Gb ((List.take_sublist _ _).trans (List.drop_sublist _ _))).trans (cK.keep (Gb ((List.take_sublist _ _).trans (List.drop_sublist _ _))))
theorem I9:∀k:Fin 256,(k.val &&& 3=k.val % 4)∧(decide (((k.val &&& 4:Nat):Int)≠0)=decide (k.val / 4 % 2=1))∧(decide (((k.val &&& 8:Nat):Int)≠0)=decide (k.val / 8 % 2=1))∧(decide (((k.val &&& 16:Nat):Int)≠0)=decide (k.val / 16 % 2=1)):=an
theorem Ia {q:List Nat}{k:Nat}(hk:k<256):mkF q k=⟨dO q,((k % 4:Nat):Int),decide (k / 4 % 2=1),decide (k / 8 % 2=1),decide (k / 16 % 2=1)⟩:=by
 obtain⟨h1,h2,h3,h4⟩:=I9 ⟨k,hk⟩
 simp only at h1 h2 h3 h4
 rw[mkF,h1,h2,h3,h4]
theorem tN {most e:Nat}{l:List Nat}(h:hX most l= .error e):e=2∨e=3∨e=4:=by
 rw[hX]at h
 split at h
 ·rename_i e' he;cases h;exact jR he
 ·split at h
  ·cases h;exact .inl rfl
  ·cases h
theorem zL {G:cM}{H:cG}{s:SV}{xs:List Nat} [hs:Sl H s eB xs] (hn:xs.length≤1000000000) (hb:∀x∈xs,x<256):SC G Tryz.prog 51 [s.val] H (fun v H'=>
 (kI xs=none∧H'=H∧∃e:Int,e≠0∧v= .tuple #[.agg [SV.nil.val].toArray, .int .i64 e])∨(∃fs,∃sf:SV,kI xs=some fs∧v= .tuple #[.agg [sf.val].toArray, .int .i64 0]∧H'=Row sf eF fs::H)):=by
 refine sWk Tryz.func51 Tryz.ntmps51 ?_
 refine gk (k:=alc (k:=fun b2=>?_))
 refine go ?_
 refine c3_ rfl (lg (p:=0) (most:=16) (a8) (Yl _) (ag) hb) (k:=?_)
 rintro _ H2 ⟨rfl,rfl⟩
 rw[List.drop_zero]
 rcases hr:ec 16 xs with e|⟨n,m⟩
 all_goals simp only[Cz,Nat.zero_add]
 ·have hne:=ll (jR hr)
  refine e_ mv (k:=e_ exr (k:=e_ exr (k:=e_ exr (k:=e_ asn (k:=e_ asn (k:=e_ asn (k:=on_ (qn_ (ws_ (ws_ (wr_ (e_ mv (k:=e_ ine (k:=?_))))))))))))))
  refine gk (k:=ir_ (k:=fun h1=>?_) (m:=fun h1=>?_))
  ·refine ws_ (wr_ (e_ (bld []) (k:=gk (k:=rt_ Tryz.results51 (k:=?_)))))
   exact⟨_,hsb, .inl ⟨by rw[kI,rdS,hr],rfl,_,hne,rfl⟩⟩
  exact absurd hne (of_decide_eq_false h1)
 obtain⟨q1,q2,q3,q4⟩:=dI hb hr
 refine e_ mv (k:=e_ exr (k:=e_ exr (k:=e_ exr (k:=e_ asn (k:=e_ asn (k:=e_ asn (k:=on_ (qn_ (ws_ (ws_ (wr_ (e_ mv (k:=e_ ine (k:=?_))))))))))))))
 refine gk (k:=dw (k:=wk_ (qn_ (ws_ (wr_ (e_ (bld []) (k:=alc (k:=fun b7=>?_))))))))
 refine go ?_
 refine gk (k:=wl_ (SV×Nat×Bool×List FV×Nat) (fun y=> y.2.1≤n∧m+y.2.2.2.2≤xs.length∧y.2.2.2.1.length=y.2.1∧lj n false (xs.drop m)=nu y.2.2.2.1 y.2.2.2.2 (lj (n - y.2.1) y.2.2.1 (xs.drop (m+y.2.2.2.2)))) (fun y=> [(0,s.val),(2, .pointer (some ⟨b2,0,none⟩)),(4, .int .i64 ((n:Nat):Int)),(5, .int .i64 ((m+y.2.2.2.2:Nat):Int)),(7, .pointer (some ⟨b7,0,none⟩)),(8, .bool y.2.2.1),(9, .int .i64 ((y.2.1:Nat):Int))]) (fun y=> Vr b7 [y.1.val]::Row y.1 eF y.2.2.2.1::Vr b2 [SV.nil.val]::H) (fun y=> n - y.2.1) ((SV.nil,0,false, [],0)) (hs:=?_) (h0:=?_) (k:=?_))
 ·rw[Nat.add_zero];repeat (first|exact Sub.nil|refine Sub.cons rfl ?_)
 ·try dsimp only
  refine⟨Yl _,a8,rfl,?_⟩
  rw[Nat.add_zero,Nat.sub_zero]
  cases lj n false (xs.drop m)with
  |none=> rfl
  |some p=> simp[nu]
 rintro⟨sg,j,odd,fs,a⟩ ⟨hj,ha,hfl,hI⟩
 try dsimp only at*
 refine gk (k:=wi_ (k:=fun h2=>?_) (m:=fun h2=>?_))
 ·obtain⟨d,hd⟩:∃d,n - j=d+1:=⟨n - j - 1,a8⟩
  rw[hd,lj]at hI
  refine go ?_
  refine c3_ rfl (tJ (p:=m+a) (most:=32) (a8) ha (ag) hb) (k:=?_)
  rintro _ H3 ⟨rfl,rfl⟩
  rcases hr2:hX 32 (xs.drop (m+a))with e|⟨q,c⟩
  all_goals rw[hr2]at hI
  all_goals simp only[]at hI
  all_goals simp only[Kr]
  ·have hne:=ll (tN hr2)
   refine e_ mv (k:=e_ exr (k:=e_ exr (k:=e_ exr (k:=e_ asn (k:=e_ asn (k:=e_ asn (k:=on_ (qn_ (ws_ (ws_ (wr_ (e_ mv (k:=e_ ine (k:=?_))))))))))))))
   refine gk (k:=ir_ (k:=fun h3=>?_) (m:=fun h3=>?_))
   ·refine ws_ (wr_ (e_ (bld []) (k:=go ?_)))
    refine gk (k:=rt_ Tryz.results51 (k:=?_))
    exact⟨_,hsb, .inl ⟨by rw[kI,rdS,hr];simp only[];rw[hI];all_goals rfl,rfl,_,hne,rfl⟩⟩
   exact absurd hne (of_decide_eq_false h3)
  obtain⟨p1,p2,p3,p4⟩:=jm (fun x hx=> hb x (Yp hx)) hr2
  rw[Yo]at p1
  rw[Xh]at hI
  refine e_ mv (k:=e_ exr (k:=e_ exr (k:=e_ exr (k:=e_ asn (k:=e_ asn (k:=e_ asn (k:=on_ (qn_ (ws_ (ws_ (wr_ (e_ mv (k:=e_ ine (k:=?_))))))))))))))
  refine gk (k:=dw (k:=go ?_))
  refine c2_ rfl (zJ (p:=m+a+c) (a8) (a8)) (k:=?_)
  rintro v4 H4 ⟨hK,rfl⟩
  rcases hK with⟨x,he3,rfl⟩|⟨hpl,rfl⟩
  ·rw[he3]at hI
   simp only[List.drop_drop]at hI
   have hxb:=hb x (Yj he3)
   have hxl:=(Yk.1 he3).1
   refine e_ mv (k:=e_ exr (k:=e_ exr (k:=e_ exr (k:=e_ asn (k:=e_ asn (k:=e_ asn (k:=on_ (qn_ (ws_ (ws_ (wr_ (e_ mv (k:=e_ ine (k:=?_))))))))))))))
   refine on_ (qn_ (dw (k:=wk_ (qn_ (ws_ (wr_ (e_ mv (k:=e_ asn (k:=on_ (qn_ (?_)))))))))))
   refine nt ([(0,s.val),(2, .pointer (some ⟨b2,0,none⟩)),(4, .int .i64 ((n:Nat):Int)),(5, .int .i64 ((m+a+c+1:Nat):Int)),(7, .pointer (some ⟨b7,0,none⟩)),(8, .bool (odd ||decide (31<x))),(9, .int .i64 ((j:Nat):Int)),(10, .string (dO q)),(13, .int .u8 ((x:Nat):Int))]) ?_ ?_
   ·refine wr_ (e_ mv (k:=sp_ (mv) (k:=fun h4=>?_) (m:=fun h4=>?_)))
    ·refine of_ (k:=of_ (k:=e_ pkt (k:=e_ asn (k:=on_ (⟨rfl,?_,rfl⟩)))))
     repeat (first|exact Sub.nil|refine Sub.cons rfl ?_|refine Sub.cons (congrArg (fun b=> some (Value.bool b)) (uJ (a8))) ?_|refine Sub.cons (congrArg (fun b=> some (Value.bool b)) (oY (a8))) ?_|refine Sub.cons (congrArg (fun b=> some (Value.bool b)) (qD (a8))) ?_|refine Sub.cons (congrArg (fun b=> some (Value.bool b)) (by simp_all <;> omega)) ?_)
    refine eg_ mv (k:=eg_ igt (k:=e_ pkf (k:=e_ asn (k:=on_ (⟨rfl,?_,rfl⟩)))))
    repeat (first|exact Sub.nil|refine Sub.cons rfl ?_|refine Sub.cons (congrArg (fun b=> some (Value.bool b)) (uJ (a8))) ?_|refine Sub.cons (congrArg (fun b=> some (Value.bool b)) (oY (a8))) ?_|refine Sub.cons (congrArg (fun b=> some (Value.bool b)) (qD (a8))) ?_|refine Sub.cons (congrArg (fun b=> some (Value.bool b)) (by simp_all <;> omega)) ?_)
   refine wr_ (e_ fla (k:=e_ ldv (k:=e_ mv (k:=e_ mv (k:=?_)))))
   refine e_ (gQ rfl rfl x 4 rfl rfl (a8)) (k:=?_)
   refine e_ (dS rfl (a8)) (k:=?_)
   refine e_ mv (k:=?_)
   refine e_ (iF rfl rfl x 4 rfl rfl (a8) (by show _≤(255:Int);omega)) (k:=?_)
   refine e_ (gQ rfl rfl (x / 4) 2 rfl rfl (a8)) (k:=?_)
   refine e_ ieq (k:=e_ mv (k:=?_))
   refine e_ (iF rfl rfl x 8 rfl rfl (a8) (by show _≤(255:Int);omega)) (k:=?_)
   refine e_ (gQ rfl rfl (x / 8) 2 rfl rfl (a8)) (k:=?_)
   refine e_ ieq (k:=e_ mv (k:=?_))
   refine e_ (iF rfl rfl x 16 rfl rfl (a8) (by show _≤(255:Int);omega)) (k:=?_)
   refine e_ (gQ rfl rfl (x / 16) 2 rfl rfl (a8)) (k:=?_)
   refine e_ ieq (k:=?_)
   rw[show decide (((x / 4 % 2:Nat):Int)=1)=decide (x / 4 % 2=1)from decide_eq_decide.2 (a8),show decide (((x / 8 % 2:Nat):Int)=1)=decide (x / 8 % 2=1)from decide_eq_decide.2 (a8),show decide (((x / 16 % 2:Nat):Int)=1)=decide (x / 16 % 2=1)from decide_eq_decide.2 (a8)]
   refine e_ (bld [(0,_),(1,_),(2,_),(3,_),(4,_)]) (k:=dD eF (k:=fun sx=>?_))
   rw[←Ia (q:=q) hxb]
   refine app (hlim:=by simp only[Yb,Yc];omega) (hlim2:=by simp only[Yb,Yc];omega) (k:=fun sy=>?_)
   refine go ?_
   refine ln_ ((sy,j+1,odd ||decide (31<x),fs++ [mkF q x],a+c+1)) (h3:=?_) (k:=?_)
   ·rw[show m+(a+c+1)=m+a+c+1 from a8];repeat (first|exact Sub.nil|refine Sub.cons rfl ?_)
   try dsimp only
   refine⟨a8,a8,by rw[Ya,hfl];all_goals rfl,?_⟩
   rw[hI,show n - (j+1)=d from a8,show m+(a+c+1)=m+a+(c+1)from a8]
   cases lj d (odd ||decide (31<x)) (xs.drop (m+a+(c+1)))with
   |none=> rfl
   |some p=> simp[nu];omega
  rw[List.getElem?_eq_none (a8)]at hI
  refine e_ mv (k:=e_ exr (k:=e_ exr (k:=e_ exr (k:=e_ asn (k:=e_ asn (k:=e_ asn (k:=on_ (qn_ (ws_ (ws_ (wr_ (e_ mv (k:=e_ ine (k:=?_))))))))))))))
  refine gk (k:=ift (k:=ws_ (wr_ (e_ (bld []) (k:=go ?_)))))
  refine gk (k:=rt_ Tryz.results51 (k:=?_))
  exact⟨_,hsb, .inl ⟨by rw[kI,rdS,hr];simp only[];rw[hI];all_goals rfl,rfl,1,ag,rfl⟩⟩
 obtain rfl:j=n:=a8
 rw[Nat.sub_self,lj]at hI
 have hD:kI xs=if m+a<xs.length∨odd=true then none else if e7 fs=true then some fs else none:=by
  rw[kI,rdS,hr]
  simp only[]
  rw[hI]
  simp only[nu,Ym,Nat.add_zero]
  split
  ·rename_i h;split at h
   ·rename_i h2;rw[if_pos h2]
   ·cases h
  ·rename_i g h;split at h
   ·cases h
   ·rename_i h2;cases h;rw[if_neg h2]
 obtain⟨hfl16,hfn⟩:=px j false (xs.drop m) fs odd a (fun y hy=> hb y (Yp hy)) (by rw[hI];simp[nu])
 refine go ?_
 refine wi_ (k:=fun h5=>?_) (m:=fun h5=>?_)
 ·have hN:kI xs=none:=by rw[hD,if_pos (.inl (a8))]
  refine ws_ (wr_ (e_ (bld []) (k:=gk (k:=rt_ Tryz.results51 (k:=?_)))))
  exact⟨_,hsb, .inl ⟨hN,rfl,5,ag,rfl⟩⟩
 refine wk_ (qn_ (ws_ (ws_ (wr_ (e_ mv (k:=sr_ (mv) (k:=fun h6=>?_) (m:=fun h6=>?_)))))))
 ·have ho:odd=true:=h6
  have hN:kI xs=none:=by rw[hD,if_pos (.inr ho)]
  refine gk (k:=ift (k:=ws_ (wr_ (e_ (bld []) (k:=go ?_)))))
  refine gk (k:=rt_ Tryz.results51 (k:=?_))
  exact⟨_,hsb, .inl ⟨hN,rfl,11,ag,rfl⟩⟩
 have ho:odd=false:=h6
 rw[if_neg (by rintro(h|h);omega;rw[ho]at h;cases h)]at hD
 refine go ?_
 refine sg_ (dm (vs:= [_]) rfl (tK (fs:=fs) (a8) (fun f hf=> cg))) (k:=?_)
 rintro v5 H5 ⟨rfl,hK⟩
 rcases hK with⟨hc,rfl⟩|⟨hc,rfl⟩
 ·have hN:kI xs=none:=by rw[hD,if_neg (bW)]
  refine gk (k:=ift (k:=ws_ (wr_ (e_ (bld []) (k:=go ?_)))))
  refine rt_ Tryz.results51 (k:=?_)
  exact⟨_,hsb, .inl ⟨hN,rfl,11,ag,rfl⟩⟩
 rw[if_pos hc]at hD
 refine gk (k:=dw (k:=go ?_))
 refine gk (k:=rt_ Tryz.results51 (k:=?_))
 exact⟨_,hsb, .inr ⟨fs,sg,hD,rfl,rfl⟩⟩
def gK (fs:List FV):Nat→List Nat→Option (List Val×Nat)
 | 0,_=> some ([],0)
 |n+1,l=> match ec (fs.length - 1) l with
  | .error _=> none
  | .ok (f,m)=> match hX 4096 (l.drop m)with
   | .error _=> none
   | .ok (q,c)=> match gK fs n (l.drop (m+c))with
        |none=> none
        |some (r,e)=> some ((((fs[f]?).map (·.name)).getD ByteArray.empty,dO q)::r,m+c+e)
def gf (fs:List FV):List Int→List Nat→Option (List Doc×Nat)
 | [],_=> some ([],0)
 |d::r,l=> match ec 64 l with
  | .error _=> none
  | .ok (n,m)=> match gK fs n (l.drop m)with
   |none=> none
   |some (vs,c)=> match gf fs r (l.drop (m+c))with
        |none=> none
        |some (ds,e)=> some ((d,vs)::ds,m+c+e)
def gi (fs:List FV) (ids body:List Nat):Option (List Doc):=match dL 4096 ids with
 | .error _=> none
 | .ok (l,m)=> if m<ids.length then none else match gf fs l body with
  |none=> none
  |some (ds,c)=> if c<body.length then none else some ds
def lT {α:Type}(zs:List α) (a:Nat):Option (List α×Nat)→Option (List α×Nat)
 |none=> none
 |some (r,e)=> some (zs++r,a+e)
theorem sW {α:Type}(o:Option (List α×Nat)):lT [] 0 o=o:=by
 cases o with
 |none=> rfl
 |some p=> simp[lT]
structure DG where
 d:Int
 s:SV
 vs:List Val
def dgV (z:DG):Int×SV:=(z.d,z.s)
def dgD (z:DG):Doc:=(z.d,z.vs)
def dgH (z:DG):cG:= [Row z.s eVl z.vs]
theorem BE {l:List DG}(z:DG) {H:cG}:cK (Row z.s eVl z.vs::Cl dgH l::H) (Cl dgH (l++ [z])::H):=lW (f:=dgH) z
theorem yR {H R:cG}{zs:List DG}(hr:mL H (Cl dgH zs) R):fL H (zs.map dgV) (zs.map dgD):=by
 refine⟨aj,fun i p q hp hq=> ?_⟩
 rw[Xd]at hp hq
 cases hi:zs[i]? with
 |none=> rw[hi]at hp;cases hp
 |some z=>
  rw[hi]at hp hq
  obtain rfl:=Option.some.inj hp
  obtain rfl:=Option.some.inj hq
  exact⟨rfl,show Sl H z.s eVl z.vs from fy (eV hr (km (f:=dgH) hi)) (inferInstanceAs (Sl (Row z.s eVl z.vs::_) z.s eVl z.vs))⟩
theorem tL {fs:List FV}:∀{n:Nat}{l:List Nat}{vs:List Val}{c:Nat},(∀x∈l,x<256)→gK fs n l=some (vs,c)→vs.length=n∧c≤l.length∧∀v∈vs,v.2.size≤4096
 | 0,l,vs,c,_,h=> by simp[gK]at h;obtain⟨rfl,rfl⟩:=h;simp
 |n+1,l,vs,c,hb,h=> by
  rw[gK]at h
  split at h
  ·cases h
  ·rename_i f m hf
   split at h
   ·cases h
   ·rename_i q k hq
    split at h
    ·cases h
    ·rename_i r e hr
     simp only[Option.some.injEq,Prod.mk.injEq]at h
     obtain⟨rfl,rfl⟩:=h
     obtain⟨_,h1,_,_⟩:=dI hb hf
     obtain⟨h2,h3,h4,_⟩:=jm (fun x hx=> hb x (Yp hx)) hq
     obtain⟨h5,h6,h7⟩:=tL (fun x hx=> hb x (Yp hx)) hr
     rw[Yo]at h2 h6
     refine⟨by simp[h5],a8,fun v hv=> ?_⟩
     rcases List.mem_cons.1 hv with rfl|hv
     ·simp only;rw[fg];omega
     ·exact h7 v hv
theorem tQ {fs:List FV}:∀{ids:List Int}{l:List Nat}{ds:List Doc}{c:Nat},(∀x∈l,x<256)→gf fs ids l=some (ds,c)→ds.length=ids.length∧c≤l.length∧∀d∈ds,d.2.length≤64∧∀v∈d.2,v.2.size≤4096
 | [],l,ds,c,_,h=> by simp[gf]at h;obtain⟨rfl,rfl⟩:=h;simp
 |d::ids,l,ds,c,hb,h=> by
  rw[gf]at h
  split at h
  ·cases h
  ·rename_i n m hn
   split at h
   ·cases h
   ·rename_i vs k hv
    split at h
    ·cases h
    ·rename_i r e hr
     simp only[Option.some.injEq,Prod.mk.injEq]at h
     obtain⟨rfl,rfl⟩:=h
     obtain⟨h0,h1,_,_⟩:=dI hb hn
     obtain⟨h2,h3,h4⟩:=tL (fun x hx=> hb x (Yp hx)) hv
     obtain⟨h5,h6,h7⟩:=tQ (fun x hx=> hb x (Yp hx)) hr
     rw[Yo]at h3 h6
     refine⟨by simp[h5],a8,fun v hv=> ?_⟩
     rcases List.mem_cons.1 hv with rfl|hv
     ·exact⟨aP,h4⟩
     ·exact h7 v hv
end Go.Sx
