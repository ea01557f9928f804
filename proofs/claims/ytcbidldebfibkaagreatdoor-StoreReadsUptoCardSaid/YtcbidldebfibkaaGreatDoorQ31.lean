import Derived.Test.YtcbidldebfibkaaGreatDoorQ30
set_option linter.unusedVariables false
set_option linter.unusedSimpArgs false
set_option linter.unusedSectionVars false
set_option linter.unnecessarySimpa false
set_option maxHeartbeats 0
namespace Go.Sx
open Go Go.Proofs
set_option maxRecDepth 100000
theorem y7 {G:cM}{H R:cG}{s:SV}{xs:List Nat}{iv:Int} [hr:pI H s eB xs R] (x:Nat) (hi:iv=((x:Nat):Int)) (hx:x<9223372036854775808) (hn:xs.length≤1000000000000):SC G Tryz.prog 141 [s.val, .int .i64 iv] H (fun v H'=> ∃s':SV,v=s'.val∧H'=Row s' eB (xs++uv x)::R):=by
 subst hi
 refine SC.less (jr hr cK.refl) ?_
 have hl:=dc (n:=x) (a8)
 refine sWk Tryz.func141 Tryz.ntmps141 ?_
 refine gk (k:=wl_ (SV×Nat×List Nat) (fun y=> y.2.2++uv y.2.1=xs++uv x∧y.2.1<9223372036854775808) (fun y=> [(0,y.1.val),(1, .int .i64 ((y.2.1:Nat):Int))]) (fun y=> Row y.1 eB y.2.2::R) (fun y=> y.2.1) ((s,x,xs)) (h0:=?_) (k:=?_))
 ·try dsimp only
  exact⟨rfl,hx⟩
 rintro⟨s,n,zs⟩ ⟨hI,hnb⟩
 try dsimp only at*
 have hlen:=congrArg List.length hI
 have hpos:=ju n
 simp only[Ya]at hlen
 refine gk (k:=wi_ (k:=fun h1=>?_) (m:=fun h1=>?_))
 ·refine wk_ (qn_ (wb_ (ws_ (wr_ (e_ mv (k:=e_ mv (k:=?_)))))))
  refine e_ (gQ rfl rfl n 128 rfl rfl (a8)) (k:=?_)
  refine e_ iad (k:=?_)
  refine e_ (cS 256 rfl rfl rfl (n % 128+128) (a8) (a8)) (k:=?_)
  refine dD eB (k:=fun s1=>?_)
  refine app (hlim:=by simp only[Yb,Yc];omega) (hlim2:=by simp only[Yb,Yc];omega) (k:=fun s2=>?_)
  refine e_ asn (k:=on_ (qn_ (wr_ (e_ mv (k:=?_)))))
  refine e_ (iF rfl rfl n 128 rfl rfl (a8) (aw)) (k:=?_)
  refine go ?_
  refine ln_ ((s2,n / 128,zs++ [n % 128+128])) (k:=?_)
  try dsimp only
  refine⟨?_,a8⟩
  rw[←hI,m5 (n:=n) (a8)]
  simp
 have e:zs++ [n]=xs++uv x:=bK
 refine we_ (qe_ (le_ (bh_ (qn_ (ws_ (wr_ (e_ mv (k:=e_ mv (k:=?_)))))))))
 refine e_ (cS 256 rfl rfl rfl n rfl (a8)) (k:=?_)
 refine dD eB (k:=fun s2=>?_)
 refine app (hlim:=by simp only[Yb,Yc];omega) (hlim2:=by simp only[Yb,Yc];omega) (k:=fun s2=>?_)
 refine gk (k:=rt_ Tryz.results141 (k:=?_))
 exact⟨_,cv,s2,rfl,rfl⟩
theorem LZ {G:cM}{H:cG}{iv:Int}(x:Nat) (hi:iv=((x:Nat):Int)) (hx:x<9223372036854775808):SC G Tryz.prog 141 [SV.nil.val, .int .i64 iv] H (fun v H'=> ∃s':SV,v=s'.val∧H'=Row s' eB (uv x)::H):=
 SC.less (H':=Row SV.nil eB []::H) (cK.nilRow cK.refl) (y7 (s:=SV.nil) (xs:= []) (R:=H) x hi hx (aj))
theorem HD {G:cM}{H:cG}{a b:ByteArray}(ha:a.size≤1000000000000) (hb:b.size≤1000000000000):SC G Tryz.prog 168 [.string a, .string b] H (fun v H'=> v= .int .i64 ((dC (cF a) (cF b):Nat):Int)∧H'=H):=by
 have hal:=cJ a
 have hbl:=cJ b
 refine sWk Tryz.func168 Tryz.ntmps168 ?_
 refine gk (k:=dn (Nat) (fun y=> y≤a.size∧y≤b.size∧∀j,j<y→at0 (cF a) j=at0 (cF b) j) (fun y=> [(5, .int .i64 ((y:Nat):Int))]) [(0,_),(1,_)] (fun y=> []) _ (fun y=> a.size - y) (0) (h0:=?_) (k:=?_))
 ·try dsimp only
  exact⟨Yl _,Yl _,fun j h=> a8⟩
 rintro k ⟨hk1,hk2,hkj⟩
 try dsimp only[Yd,Ye]at*
 refine go ?_
 refine cW cL (as_ 0 (q:=mv) (k:=as_ 1 (q:=mv) (k:=as_ 2 (q:=jA) (k:=as_ 3 (q:=ilt) (k:=?_)))))
 refine gp 4 rfl rfl (aa) rfl (du (mv)) (fun h1=> ?_) (fun h1=> ?_)
 ·replace h1:=nrm h1
  refine at2 5 (q:=mv) (k:=at2 6 (q:=mv) (k:=at2 7 (q:=jA) (k:=at2 8 (q:=ilt) (k:=as_ 9 (q:=pkt) (k:=?_)))))
  refine gp 10 rfl rfl (aa) rfl (du (mv)) (fun h2=> ?_) (fun h2=> ?_)
  ·replace h2:=nrm h2
   refine at2 11 (q:=mv) (k:=at2 12 (q:=mv) (k:=at2 13 (q:=ixs) (k:=at2 14 (q:=mv) (k:=at2 15 (q:=mv) (k:=at2 16 (q:=ixs) (k:=at2 17 (q:=ieq) (k:=as_ 18 (q:=pkt) (k:=az_ (k:=gk (k:=wi_ (k:=fun h3=>?_) (m:=fun h3=>?_)))))))))))
   ·have hnx:∀j,j<k+1→at0 (cF a) j=at0 (cF b) j:=fun j hj=> by
     by_cases h9:j<k
     ·exact hkj j h9
     ·obtain rfl:j=k:=by omega
      omega
    refine go ?_
    refine ln_ (k+1) (k:=?_)
    try dsimp only
    exact⟨a8,a8,hnx⟩
   have hend:k=(cF a).length∨k=(cF b).length∨at0 (cF a) k≠at0 (cF b) k:= .inr (.inr (a8))
   refine gk (k:=rt_ Tryz.results168 (k:=?_))
   exact⟨_,hsb,aN,rfl⟩
  replace h2:=nrm h2
  have hend:k=(cF a).length∨k=(cF b).length∨at0 (cF a) k≠at0 (cF b) k:= .inr (.inl (a8))
  refine ao_ 11 (k:=ao_ 12 (k:=ao_ 13 (k:=ao_ 14 (k:=ao_ 15 (k:=ao_ 16 (k:=ao_ 17 (k:=as_ 18 (q:=pkf) (k:=az_ (k:=gk (k:=dw (k:=go ?_)))))))))))
  refine gk (k:=rt_ Tryz.results168 (k:=?_))
  exact⟨_,hsb,aN,rfl⟩
 replace h1:=nrm h1
 have hend:k=(cF a).length∨k=(cF b).length∨at0 (cF a) k≠at0 (cF b) k:= .inl (a8)
 refine ao_ 5 (k:=ao_ 6 (k:=ao_ 7 (k:=ao_ 8 (k:=as_ 9 (q:=pkf) (k:=as_ 10 (q:=mv) (k:=ao_ 11 (k:=ao_ 12 (k:=ao_ 13 (k:=ao_ 14 (k:=ao_ 15 (k:=ao_ 16 (k:=ao_ 17 (k:=as_ 18 (q:=pkf) (k:=?_))))))))))))))
 refine az_ (k:=gk (k:=dw (k:=go ?_)))
 refine gk (k:=rt_ Tryz.results168 (k:=?_))
 exact⟨_,hsb,aN,rfl⟩
theorem wC {G:cM}{H:cG}{x:Nat}(hx:x≤2147483647):SC G Tryz.prog 167 [.int .i64 ((x:Nat):Int)] H (fun v H'=> v= .bool true∧H'=H):=by
 refine sWk Tryz.func167 Tryz.ntmps167 ?_
 refine ws_ (wr_ (e_ asn (k:=on_ (qn_ (ws_ (wr_ (e_ mv (k:=e_ ige (k:=e_ mv (k:=cY 3 8 (k:=fun h1=>eg_ mv (k:=eg_ ile (k:=e_ pkt (k:=on_ (edq))))) (q:=e_ asn (k:=on_ (qn_ (?_))))))))))))))
 refine wt_ (rt_ Tryz.results167 (k:=?_))
 exact⟨_,hsb,congrArg Value.bool (au),rfl⟩
theorem HN {G:cM}{H:cG}{s:SV}{l:List En} [hs:Sl H s eEn l] (hl:l.length≤100000000) (hok:uV l):SC G Tryz.prog 140 [s.val] H (fun v H'=> v= .int .i64 0∧H'=H):=by
 refine sWk Tryz.func140 Tryz.ntmps140 ?_
 refine gk (k:=dn (Nat) (fun y=> y≤l.length) (fun y=> [(3, .int .i64 ((y:Nat):Int))]) [(0,_)] (fun y=> []) _ (fun y=> l.length - y) (0) (h0:=?_) (k:=?_))
 ·try dsimp only
  exact Yl _
 rintro i hi
 try dsimp only[Yd,Ye]at*
 refine gk (k:=wi_ (k:=fun h1=>?_) (m:=fun h1=>?_))
 ·obtain⟨e,he⟩:∃e,l[i]? =some e:=⟨_,Yi (a8)⟩
  obtain⟨k1,k2,k3,k4,k5,k6⟩:=hok.1 e (Yj he)
  refine gk (k:=alc (k:=fun b4=>?_))
  refine gk (k:=dQ 5 25 (k:=fun h2=>gk (k:=edq)) (q:=gk (k:=dQ 5 31 (k:=fun h3=>gk (k:=gU (vs:=[_]) (hc:=(wC k3)) (k:=gk (k:=edq)))) (q:=go ?_))))
  refine dQ 5 37 (k:=fun h4=>gk (k:=gU (vs:=[_]) (hc:=(wC k4)) (k:=gk (k:=edq)))) (q:=gk (k:=dQ 5 43 (k:=fun h5=>gk (k:=gU (vs:=[_]) (hc:=(wC k5)) (k:=gk (k:=edq)))) (q:=gk (k:=dQ 5 49 (k:=fun h6=>gk (k:=gU (vs:=[_]) (hc:=(wC k6)) (k:=gk (k:=edq)))) (q:=gk (k:=wi_ (k:=fun h7=>?_) (m:=fun h7=>?_)))))))
  ·exact absurd h7 (au)
  refine go ?_
  refine ln_ (i+1) (k:=?_)
  try dsimp only
  omega
 refine gk (k:=dn (Nat) (fun y=> 1≤y) (fun y=> [(5, .int .i64 ((y:Nat):Int))]) [(0,_)] (fun y=> []) _ (fun y=> l.length - y) (1) (h0:=?_) (k:=?_))
 ·try dsimp only
  exact Nat.le_refl _
 rintro i hi
 try dsimp only[Yd,Ye]at*
 refine gk (k:=wi_ (k:=fun h8=>?_) (m:=fun h8=>?_))
 ·obtain⟨e,he⟩:∃e,l[i]? =some e:=⟨_,Yi (a8)⟩
  obtain⟨d,hd⟩:∃d,l[i - 1]? =some d:=⟨_,Yi (a8)⟩
  have hlt:=hok.2 (i - 1) d e hd (by rw[Nat.sub_add_cancel hi];exact he)
  refine go ?_
  refine cW cL (as_ 0 (q:=mv) (k:=as_ 1 (q:=mv) (k:=as_ 2 (q:=isb) (k:=as_ 3 (q:=ixa) (k:=as_ 4 (q:=fle) (k:=as_ 5 (q:=lfl) (k:=as_ 6 (q:=mv) (k:=as_ 7 (q:=mv) (k:=as_ 8 (q:=ixa) (k:=as_ 9 (q:=fle) (k:=as_ 10 (q:=lfl) (k:=?_))))))))))))
  refine cH 11 rfl rfl (aa) rfl (du (MT)) (?_)
  refine az_ (k:=gk (k:=wi_ (k:=fun h9=>?_) (m:=fun h9=>?_)))
  ·exact absurd hlt h9
  refine go ?_
  refine ln_ (i+1) (k:=?_)
  try dsimp only
  omega
 refine gk (k:=rt_ Tryz.results140 (k:=?_))
 exact⟨_,hsb,rfl,rfl⟩
theorem HP {G:cM}{H:cG}{s:SV}{l:List En}{k:Nat} [hs:Sl H s eEn l] (hl:l.length≤100000000) (hk:16*k≤l.length) (hsm:j8 l):SC G Tryz.prog 142 [s.val, .int .i64 ((16*k:Nat):Int), .int .i64 ((min (16*k+16) l.length:Nat):Int)] H (fun v H'=> ∃s':SV,v=s'.val∧H'=Row s' eB (dB [] (eJ l k))::H):=by
 obtain⟨bl,hbl⟩:∃bl,bl=eJ l k:=⟨_,rfl⟩
 have hbn:bl.length=min (16*k+16) l.length - 16*k:=by rw[hbl,lG]
 have hbs:j8 bl:=by rw[hbl];exact kt hsm k
 rw[←hbl]
 refine sWk Tryz.func142 Tryz.ntmps142 ?_
 refine go ?_
 refine gk (k:=dn (Nat×SV) (fun y=> y.1≤bl.length) (fun y=> [(7,y.2.val),(8, .int .i64 ((16*k+y.1:Nat):Int))]) [(0,_),(1,_),(2,_)] (fun y=> [Row y.2 eB (dB [] (bl.take y.1))]) _ (fun y=> bl.length - y.1) ((0,SV.nil)) (h0:=?_) (k:=?_))
 ·try dsimp only
  exact Yl _
 rintro⟨i,u⟩ hi
 try dsimp only[Yd,Ye]at*
 refine gk (k:=wi_ (k:=fun h1=>?_) (m:=fun h1=>?_))
 ·obtain⟨e,he⟩:∃e,bl[i]? =some e:=⟨_,Yi (a8)⟩
  have hel:l[16*k+i]? =some e:=by rw[←qJ l k i (a8),←hbl];exact he
  have hse:=hbs e (Yj he)
  have hsh:=jP (jB [] (bl.take i)) (cF e.key)
  have hbyl:=cJ e.key
  have hpl:=jZ (p:= []) (pS hbs i)
  rw[Yg]at hpl
  obtain⟨pre,hpre⟩:∃pre,pre=dB [] (bl.take i):=⟨_,rfl⟩
  rw[←hpre]
  rw[←hpre]at hpl
  have hfin:=lC he []
  rw[←hpre,m9]at hfin
  refine wk_ (qn_ (ws_ (wb_ (ws_ (wr_ (e_ asn (k:=on_ (qn_ (gG (Nat) (fun y=> y=dC (jB [] (bl.take i)) (cF e.key)) (fun y=> [(9, .int .i64 ((y:Nat):Int))]) [9,16,17,18,19,20,21,22,23,24,25,26,27,28,29,30] ?_ ?_)))))))))
  ·refine gk (k:=wi_ (k:=fun h2=>?_) (m:=fun h2=>?_))
   ·obtain⟨d,hd⟩:∃d,bl[i - 1]? =some d:=⟨_,Yi (a8)⟩
    have hdl:l[16*k+i - 1]? =some d:=by rw[show 16*k+i - 1=16*k+(i - 1)from a8,←qJ l k (i - 1) (a8),←hbl];exact hd
    have hsd:=hbs d (Yj hd)
    have hlk:jB [] (bl.take i)=cF d.key:=by rw[Fj he,if_neg (a8),hd]
    refine cW cL (as_ 0 (q:=mv) (k:=as_ 1 (q:=mv) (k:=as_ 2 (q:=isb) (k:=as_ 3 (q:=ixa) (k:=as_ 4 (q:=fle) (k:=as_ 5 (q:=lfl) (k:=as_ 6 (q:=mv) (k:=as_ 7 (q:=mv) (k:=as_ 8 (q:=ixa) (k:=as_ 9 (q:=fle) (k:=as_ 10 (q:=lfl) (k:=?_))))))))))))
    refine cH 11 rfl rfl (aa) rfl (j9 (vs:= [_,_]) rfl (HD (a8) (a8))) (?_)
    refine as_ 12 (q:=asn) (k:=az_ (k:=jnE (_) (q:=?_)))
    rw[hlk]
   obtain rfl:i=0:=a8
   refine gk (k:=jnE (0) (q:=?_))
   exact(lM _).symm
  rintro m hm
  try dsimp only[Yd,Ye]at*
  rw[←hm]at hfin hsh
  have hu1:=dM (n:=m) (k:=6) (a8) (a8)
  have hu2:=dM (n:=(cF e.key).length - m) (k:=6) (a8) (a8)
  have hu3:=dM (n:=e.docs) (k:=6) (a8) (a8)
  have hu4:=dM (n:=e.tot) (k:=6) (a8) (a8)
  have hu5:=dM (n:=e.at_) (k:=6) (a8) (a8)
  have hu6:=dM (n:=e.size) (k:=6) (a8) (a8)
  have hdl:((cF e.key).drop m).length≤1000:=aC
  refine go ?_
  refine c2_ rfl (y7 m rfl (a8) (a8)) (k:=?_)
  rintro _ _ ⟨s33,rfl,rfl⟩
  refine go ?_
  refine c2_ rfl (y7 ((cF e.key).length - m) (a8) (a8) (ah)) (k:=?_)
  rintro _ _ ⟨s43,rfl,rfl⟩
  refine e_ asn (k:=on_ (qn_ (ws_ (wr_ (e_ mv (k:=e_ mv (k:=e_ mv (k:=e_ ixa (k:=e_ fle (k:=e_ lfl (k:=e_ mv (k:=e_ (zB (a:=m)) (k:=?_)))))))))))))
  refine s_ (m7 rfl rfl rfl (af) (af)) (k:=?_)
  rintro _ _ ⟨s52,rfl,rfl⟩
  rw[oI]
  obtain⟨p2,hp2⟩:∃p2,p2=pre++uv m++uv ((cF e.key).length - m)++(cF e.key).drop m:=⟨_,rfl⟩
  have hp2l:p2.length≤pre.length+1100:=cb
  rw[←hp2]
  refine go ?_
  refine c2_ rfl (y7 e.docs rfl (a8) (a8)) (k:=?_)
  rintro _ _ ⟨s59,rfl,rfl⟩
  refine go ?_
  refine c2_ rfl (y7 e.tot rfl (a8) (ah)) (k:=?_)
  rintro _ _ ⟨s66,rfl,rfl⟩
  refine go ?_
  refine c2_ rfl (y7 e.at_ rfl (a8) (ah)) (k:=?_)
  rintro _ _ ⟨s73,rfl,rfl⟩
  refine go ?_
  refine c2_ rfl (y7 e.size rfl (a8) (ah)) (k:=?_)
  rintro _ _ ⟨s80,rfl,rfl⟩
  refine e_ asn (k:=on_ (bn_ (qn_ (wr_ (?_)))))
  rw[show p2++uv e.docs++uv e.tot++uv e.at_++uv e.size=dB [] (bl.take (i+1))from by rw[hfin,hp2];simp]
  refine e_ mv (k:=?_)
  refine e_ (evq iad (congrArg (Value.int .i64) (show _=((16*k+(i+1):Nat):Int)from a8))) (k:=?_)
  refine go ?_
  refine ln_ ((i+1,s80)) (k:=?_)
  try dsimp only
  omega
 obtain rfl:i=bl.length:=a8
 rw[List.take_length]
 refine gk (k:=rt_ Tryz.results142 (k:=?_))
 exact⟨_,hsb,u,rfl,rfl⟩
theorem Mb {G:cM}{H:cG}{s:SV}{l:List En} [hs:Sl H s eEn l] (hl:l.length≤100000000) (hok:uV l):SC G Tryz.prog 110 [s.val] H (fun v H'=> ∃s':SV,v= .tuple #[s'.val, .int .i64 0]∧H'=Row s' eB (fU l)::H):=by
 have hsm:=pz hok
 have hST:=lE hsm
 have hbk:16*eg l≤l.length+15:=bH
 refine sWk Tryz.func110 Tryz.ntmps110 ?_
 refine go ?_
 refine d1_ rfl (HN hl hok) (k:=gk (k:=wi_ (k:=fun h1=>?_) (m:=fun h1=>?_)))
 ·exact absurd h1 (aj)
 refine go ?_
 refine c2_ rfl (LZ l.length rfl (a8)) (k:=?_)
 rintro _ _ ⟨s17,rfl,rfl⟩
 have hul:=dM (n:=l.length) (k:=6) (a8) (a8)
 rw[show Row s17 eB (uv l.length)=Row s17 eB (uv l.length++(dj l 0).1)from by simp[dj]]
 refine go ?_
 refine gk (k:=dn (Nat×SV×SV) (fun y=> y.1≤eg l) (fun y=> [(5,y.2.1.val),(6,y.2.2.val),(7, .int .i64 ((16*y.1:Nat):Int))]) [(0,_)] (fun y=> [Row y.2.1 eB (uv l.length++(dj l y.1).1),Row y.2.2 eB (dj l y.1).2]) _ (fun y=> eg l - y.1) ((0,s17,SV.nil)) (h0:=?_) (k:=?_))
 ·try dsimp only
  exact Yl _
 rintro⟨k,g,u⟩ hk
 try dsimp only[Yd,Ye]at*
 refine gk (k:=wi_ (k:=fun h2=>?_) (m:=fun h2=>?_))
 ·have hlt:16*k<l.length:=by omega
  have hkb:k<eg l:=bH
  obtain⟨hS1,hS2⟩:=hST k
  have hblen:=lG l k
  have hbs:=kt hsm k
  have hbl:=jZ (p:= []) hbs
  have hu:=dM (n:=(dB [] (eJ l k)).length) (k:=6) (a8) (a8)
  refine wk_ (qn_ (ws_ (wb_ (ws_ (wr_ (e_ mv (k:=?_)))))))
  refine e_ (evq iad (congrArg (Value.int .i64) (show _=((16*k+16:Nat):Int)from a8))) (k:=?_)
  refine e_ asn (k:=on_ (qn_ (gG (Nat) (fun y=> y=min (16*k+16) l.length) (fun y=> [(8, .int .i64 ((y:Nat):Int))]) [8,26,27,28,29,30,31] ?_ ?_)))
  ·refine gk (k:=wi_ (k:=fun h3=>?_) (m:=fun h3=>?_))
   ·refine gk (k:=jnE (_) (q:=?_))
    omega
   refine gk (k:=jnE (_) (q:=?_))
   omega
  rintro m hm
  try dsimp only[Yd,Ye]at*
  subst hm
  refine go ?_
  refine c3_ rfl (HP hl (a8) hsm) (k:=?_)
  rintro _ _ ⟨s35,rfl,rfl⟩
  refine go ?_
  refine c2_ rfl (y7 _ rfl (a8) (ah)) (k:=?_)
  rintro _ _ ⟨s39,rfl,rfl⟩
  refine gk (k:=app (k:=fun s42=>?_))
  refine e_ asn (k:=on_ (bn_ (qn_ (wr_ (?_)))))
  rw[show uv l.length++(dj l k).1++uv (dB [] (eJ l k)).length=uv l.length++(dj l (k+1)).1 from by simp[dj],show(dj l k).2++dB [] (eJ l k)=(dj l (k+1)).2 from rfl]
  refine e_ mv (k:=?_)
  refine e_ (evq iad (congrArg (Value.int .i64) (show _=((16*(k+1):Nat):Int)from a8))) (k:=?_)
  refine go ?_
  refine ln_ ((k+1,s39,s42)) (k:=?_)
  try dsimp only
  omega
 obtain rfl:k=eg l:=by unfold eg at*;omega
 obtain⟨hS1,hS2⟩:=hST (eg l)
 refine gk (k:=app (k:=fun s45=>?_))
 refine gk (k:=rt_ Tryz.results110 (k:=?_))
 exact⟨_,hsb,s45,rfl,rfl⟩
theorem E7 {G:cM}{H:cG}{s:SV}{fs:List FV} [hs:Sl H s eF fs] (hc:e7 fs=true):SC G Tryz.prog 31 [.agg [s.val].toArray] H (fun v H'=> ∃s':SV,v= .tuple #[s'.val, .int .i64 0]∧H'=Row s' eB (fq fs)::H):=
 (B6 (fs:=fs) (by have:=eG hc;omega) (fun f hf=> by have:=((eG hc).2 f hf).1;omega)).mono fun v H' h=> by
   rcases h with⟨h,_⟩|⟨_,h⟩
   ·rw[hc]at h;cases h
   ·exact h
theorem B3 {zs:List RG}{i:Nat}{z:RG}{H:cG}(h:zs[i]? =some z):cK (Cl rgH zs::H) (Row z.e.s ePo (z.e.l.map pgV)::Cl pgH z.e.l::Cl rgH (zs.take i)::Cl rgH (zs.drop (i+1))::H):=km (f:=rgH) h
theorem LX {H R:cG}{zs:List RG}{i:Nat}{z:RG}(hr:mL H (Cl rgH zs) R) (he:zs[i]? =some z):Sl H z.e.s ePo (z.e.l.map pgV):=
 fy (eV hr (B3 he)) inferInstance
theorem LY {H R:cG}{zs:List RG}{i:Nat}{z:RG}(hr:mL H (Cl rgH zs) R) (he:zs[i]? =some z):lI H (z.e.l.map pgV) (z.e.l.map pgP):=by
 refine⟨aj,fun j p q hp hq=> ?_⟩
 rw[Xd]at hp hq
 cases hj:z.e.l[j]? with
 |none=> rw[hj]at hp;cases hp
 |some x=>
  rw[hj]at hp hq
  obtain rfl:=Option.some.inj hp
  obtain rfl:=Option.some.inj hq
  exact⟨rfl,show Sl H x.s eI (dg x.pos)from fy (eV hr ((B3 he).trans (cK.drop (wF hj)))) inferInstance⟩
theorem lI.less {H H':cG}{l:List (Nat×SV)}{ps:List Po}(h:lI H l ps) (hs:cK H' H):lI H' l ps:=⟨h.1,fun i p q hp hq=> by
 obtain⟨h1,h2⟩:=h.2 i p q hp hq
 exact⟨h1,fy hs h2⟩⟩
theorem Hs {fs:List FV}{ds:List Doc}{zs:List RG}(h:rI zs=m8 fs ds fs.length) (hf:fs.length≤256):dy (gA fs ds)=zs.map fun z=> (z.f % 256::cF z.e.key,z.e.l.map pgP):=by
 rw[←DT fs ds hf]
 have h1:=congrArg (List.map fun p:Nat×kJ=> Eu p.1 p.2) h
 rw[m8,List.map_flatMap,rI,List.map_map]at h1
 simp only[List.map_map,Function.comp_def,Eu]at h1
 exact h1.symm
theorem K2 {fs:List FV}{ds:List Doc}{n:Nat}{zs:List RG}(h:rI zs=m8 fs ds n) {z:RG}(hz:z∈zs):z.f<n:=by
 have h1:(z.f,cF z.e.key,z.e.l.map pgP)∈m8 fs ds n:=h ▸ List.mem_map.2 ⟨z,hz,rfl⟩
 obtain⟨f,hf,h2⟩:=List.mem_flatMap.1 h1
 obtain⟨r,_,h3⟩:=List.mem_map.1 h2
 have h4:f=z.f:=congrArg (·.1) h3
 rw[←h4];exact List.mem_range.1 hf
theorem yt (f:Nat) (s:ByteArray):dO (f % 256::cF s)=sE f s:=iH.1 (by
 rw[l5,dK]
 intro x hx
 rcases List.mem_cons.1 hx with rfl|hx
 ·omega
 ·exact ko _ x hx)
theorem zU {G:cM}{H:cG}{fv dv:SV}{fs:List FV}{l:List (Int×SV)}{ds:List Doc} [hf:Sl H fv eF fs] [hd:Sl H dv eD l] (hdi:fL H l ds) (hfl:fs.length≤1000000) (hfn:∀f∈fs,f.name.size≤1000000000) (hn:ds.length≤1000000000) (hq:∀d∈ds,d.2.length≤1000000000∧∀v∈d.2,v.2.size≤1000000000) (hz:dsz ds≤30000000) (ht:(gA fs ds).length≤2000000):
 SC G Tryz.prog 63 [.agg [fv.val].toArray,dv.val] H (fun v H'=> (k8 fs ds=0∧∃s:SV,v= .tuple #[s.val, .int .i64 0]∧H'=Row s eB (rb fs ds)::H)∨(k8 fs ds≠0∧∃s:SV,v= .tuple #[s.val, .int .i64 ((k8 fs ds:Nat):Int)]∧H'=Row s eB []::H)):=by
 have hll:=hdi.1
 refine sWk Tryz.func63 Tryz.ntmps63 ?_
 refine gk (k:=bxx (k:=fun b2=>?_))
 refine go ?_
 refine d2_ rfl (HO (hdi.less (hsb)) hfl hfn hn hq) (k:=gk (k:=wi_ (k:=fun h1=>?_) (m:=fun h1=>?_)))
 ·refine go ?_
  refine s_ (cZ eB rfl) (k:=?_)
  rintro _ _ ⟨s36,rfl,rfl⟩
  refine gk (k:=rt_ Tryz.results63 (k:=?_))
  exact⟨_,hsb, .inr ⟨a8,s36,rfl,rfl⟩⟩
 have hck:k8 fs ds=0:=a8
 have hok:=qG hck hz ht
 have hsz:=hok.size
 have hfew:=hok.few
 have hfl16:=hok.flen
 have hokq:=hok.q
 obtain⟨hB1,hB2,hB3,hB4⟩:=hok.blocks
 have hid:∀x∈ds.map (·.1),x<1099511627776:=fun x hx=> by obtain⟨d,hd,rfl⟩:=List.mem_map.1 hx;exact hok.ids d hd
 have hidl:(ds.map (·.1)).length=l.length:=by rw[Yh,hll]
 refine go ?_
 refine c1_ rfl (E7 hok.chk) (k:=?_)
 rintro _ _ ⟨s40,rfl,rfl⟩
 refine go ?_
 refine s_ (cZ eI rfl) (k:=?_)
 rintro _ _ ⟨s43,rfl,rfl⟩
 refine go ?_
 refine s_ (cZ eB rfl) (k:=?_)
 rintro _ _ ⟨s44,rfl,rfl⟩
 refine e_ asn (k:=on_ (qn_ (ws_ (ws_ (wr_ (?_))))))
 rw[show Row s43 eI ([]:List Int)=Row s43 eI ((ds.take 0).map (·.1))from rfl,show Row s44 eB ([]:List Nat)=Row s44 eB (fw fs (ds.take 0))from rfl]
 refine gk (k:=dn (Nat×SV×SV) (fun y=> y.1≤l.length) (fun y=> [(9,y.2.1.val),(10,y.2.2.val),(47, .int .i64 ((y.1:Nat):Int))]) [(1,_),(2,_),(7,_),(45,_),(46,_)] (fun y=> [Row y.2.1 eI ((ds.take y.1).map (·.1)),Row y.2.2 eB (fw fs (ds.take y.1))]) (Row s40 eB (fq fs)::Vr b2 [fv.val]::H) (fun y=> l.length - y.1) ((0,s43,s44)) (h0:=?_) (k:=?_))
 ·try dsimp only
  exact Yl _
 rintro⟨i,ui,us⟩ hi
 try dsimp only[Yd,Ye]at*
 refine gk (k:=wi_ (k:=fun h2=>?_) (m:=fun h2=>?_))
 ·obtain⟨d,s,vs,hli,hdj,hsl⟩:=hdi.get (i:=i) (a8)
  have hmem:=Yj hdj
  obtain⟨hq1,hq2⟩:=hokq _ hmem
  have hvz:=ni hmem
  have hsl1:=jl (fs:=fs) (ds:=ds.take i) hfl (fun d hd=> hokq d (Yq hd))
  have hdz:=wZ ds i
  rw[Yg]at hsl1
  simp only at hq1 hq2 hvz
  obtain⟨pf,hpf⟩:∃pf,pf=fw fs (ds.take i):=⟨_,rfl⟩
  rw[←hpf]at hsl1⊢
  have hstp:fw fs (ds.take (i+1))=pf++uv vs.length++vs.flatMap (fu fs):=by rw[cP hdj,hpf];simp[fw,sO]
  have hu:=dM (n:=vs.length) (k:=6) (a8) (a8)
  have hil:((ds.take i).map (·.1)).length≤5000:=by rw[Yh,Yg];omega
  refine gk (k:=alc (k:=fun b12=>?_))
  refine gk (k:=dD eI (k:=fun s54=>?_))
  refine app (k:=fun s55=>?_)
  rw[show(ds.take i).map (·.1)++ [d]=(ds.take (i+1)).map (·.1)from by rw[cP hdj];simp]
  refine e_ asn (k:=on_ (qn_ (ws_ (wr_ (e_ mv (k:=e_ fla (k:=e_ ldv (k:=e_ lnn (k:=?_)))))))))
  refine e_ ((ae)) (k:=?_)
  refine c1_ rfl (mT vs.length (a8)) (k:=?_)
  rintro _ _ ⟨s61,rfl,rfl⟩
  refine app (k:=fun s62=>?_)
  rw[show Row s62 eB (pf++uv vs.length)=Row s62 eB (pf++uv vs.length++(vs.take 0).flatMap (fu fs))from aj]
  refine gk (k:=dn (Nat×SV) (fun y=> y.1≤vs.length) (fun y=> [(10,y.2.val),(66, .int .i64 ((y.1:Nat):Int))]) [(1,_),(2,_),(7,_),(9,_),(45,_),(46,_),(47,_),(64,_),(65,_)] (fun y=> [Row y.2 eB (pf++uv vs.length++(vs.take y.1).flatMap (fu fs))]) (Row s55 eI ((ds.take (i+1)).map (·.1))::Row s40 eB (fq fs)::Vr b2 [fv.val]::H) (fun y=> vs.length - y.1) ((0,s62)) (h0:=?_) (k:=?_))
  ·try dsimp only
   exact Yl _
  rintro⟨j,ut⟩ hj
  try dsimp only[Yd,Ye]at*
  refine go ?_
  refine gk (k:=wi_ (k:=fun h3=>?_) (m:=fun h3=>?_))
  ·obtain⟨v,hv⟩:∃v,vs[j]? =some v:=⟨_,Yi (a8)⟩
   have hvs:=hq2 v (Yj hv)
   have hvl:=kO (fs:=fs) (vs:=vs.take j) hfl (fun u hu=> hq2 u (Yq hu))
   have hvz2:=qU vs j
   obtain⟨p2,hp2⟩:∃p2,p2=pf++uv vs.length++(vs.take j).flatMap (fu fs):=⟨_,rfl⟩
   have hp2l:p2.length≤100000000:=cb
   have hst2:pf++uv vs.length++(vs.take (j+1)).flatMap (fu fs)=p2++fu fs v:=by rw[hp2,cP hv];simp
   rw[←hp2]
   refine gk (k:=alc (k:=fun b14=>?_))
   refine go ?_
   refine c2_ rfl (Jm (a8)) (k:=?_)
   rintro _ _ ⟨k,b,rfl,hkb,rfl⟩
   refine e_ mv (k:=e_ exr (k:=e_ exr (k:=e_ asn (k:=e_ asn (k:=on_ (qn_ (ws_ (wr_ (?_)))))))))
   obtain⟨k0,hk0⟩:=hok.fd _ hmem v (Yj hv)
   obtain rfl:k0=k:=by
    rcases hkb with⟨_,h9⟩|⟨_,h9⟩
    ·rw[hk0]at h9;exact Option.some.inj h9
    ·rw[hk0]at h9;cases h9
   obtain⟨pq,hpq,_⟩:=mE hk0
   have hkl:=(Yk.1 hpq).1
   have hu2:=dM (n:=k0) (k:=6) (a8) (a8)
   have hu3:=dM (n:=v.2.size) (k:=6) (a8) (a8)
   have hbl:=cJ v.2
   refine e_ mv (k:=e_ mv (k:=?_))
   refine e_ ((ae)) (k:=?_)
   refine c1_ rfl (mT k0 (a8)) (k:=?_)
   rintro _ _ ⟨s80,rfl,rfl⟩
   refine app (k:=fun s81=>?_)
   refine go ?_
   refine c1_ rfl (B4 v.2 (a8)) (k:=?_)
   rintro _ _ ⟨s85,rfl,rfl⟩
   refine app (k:=fun s86=>?_)
   rw[show p2++uv k0++(uv v.2.size++cF v.2)=pf++uv vs.length++(vs.take (j+1)).flatMap (fu fs)from by rw[hst2,fu,hk0];simp]
   refine go ?_
   refine ln_ ((j+1,s86)) (k:=?_)
   try dsimp only
   omega
  obtain rfl:j=vs.length:=a8
  rw[List.take_length,←hstp]
  refine go ?_
  refine ln_ ((i+1,s55,ut)) (k:=?_)
  try dsimp only
  omega
 obtain rfl:i=l.length:=a8
 rw[show ds.take l.length=ds from by rw[hll,List.take_length]]
 have hsl1:=jl (fs:=fs) (ds:=ds) hfl hokq
 refine go ?_
 refine c1_ rfl (zM (a8) hok.pos hok.up (fun x hx=> by have:=hid x hx;omega)) (k:=?_)
 rintro _ _ ⟨s91,rfl,rfl⟩
 rw[show uv (ds.map (·.1)).length++dz (-1) (ds.map (·.1))=qi ds from by rw[qi,Yh]]
 refine go ?_
 refine s_ (cZ eB rfl) (k:=?_)
 rintro _ _ ⟨s94,rfl,rfl⟩
 refine e_ asn (k:=on_ (qn_ (ws_ (ws_ (wr_ (?_))))))
 rw[show Row s94 eB ([]:List Nat)=Row s94 eB (j5 fs ds 0)from rfl]
 refine gk (k:=dn (Nat×SV) (fun y=> y.1≤fs.length) (fun y=> [(19,y.2.val),(98, .int .i64 ((y.1:Nat):Int))]) [(1,_),(2,_),(7,_),(10,_),(17,_),(97,_)] (fun y=> [Row y.2 eB (j5 fs ds y.1)]) (Row s91 eB (qi ds)::Row us eB (fw fs ds)::Row s40 eB (fq fs)::Vr b2 [fv.val]::H) (fun y=> fs.length - y.1) ((0,s94)) (h0:=?_) (k:=?_))
 ·try dsimp only
  exact Yl _
 rintro⟨i,u⟩ hi
 try dsimp only[Yd,Ye]at*
 refine gk (k:=wi_ (k:=fun h4=>?_) (m:=fun h4=>?_))
 ·have hlb:=kZ (fs:=fs) hsz hfew i
  have hpk:=gl (qg fs hsz i) (aV)
  rw[show(dT fs ds i).length=ds.length from by rw[dT,Yh]]at hpk
  refine go ?_
  refine go ?_
  refine c3_ rfl (Eh (hdi.less (hsb)) hfl16 (a8) (a8) hokq hsz) (k:=?_)
  rintro _ _ ⟨s105,rfl,rfl⟩
  refine c1_ rfl (pt (aV) (qg fs hsz i) (fun _=> aV)) (k:=?_)
  rintro _ _ ⟨s106,rfl,rfl⟩
  refine gk (k:=app (k:=fun s111=>?_))
  rw[show j5 fs ds i++fB (dT fs ds i)=j5 fs ds (i+1)from by simp[j5,List.range_succ]]
  refine go ?_
  refine ln_ ((i+1,s111)) (k:=?_)
  try dsimp only
  omega
 obtain rfl:i=fs.length:=a8
 have hlb:=kZ (fs:=fs) hsz hfew fs.length
 refine go ?_
 refine s_ (cZ eEn rfl) (k:=?_)
 rintro _ _ ⟨s113,rfl,rfl⟩
 refine go ?_
 refine s_ (cZ eB rfl) (k:=?_)
 rintro _ _ ⟨s114,rfl,rfl⟩
 refine go ?_
 refine c2_ rfl (M5 (hdi.less (hsb)) hfl16 (a8) hokq hsz) (k:=?_)
 rintro _ _ ⟨s117,zs,rfl,hab,rfl⟩
 have hRT:=Hs hab (a8)
 have hgd:=hok.goodT
 have hrl:=tE (gA fs ds)
 have hzl:zs.length=(dy (gA fs ds)).length:=by rw[hRT,Yh]
 have hzm:(zs.map rwV).length=zs.length:=Yh ..
 have htoks:=hok.toks
 rw[show Row s113 eEn ([]:List En)=Row s113 eEn ((gT 0 (dy (gA fs ds))).take 0)from rfl,show Row s114 eB ([]:List Nat)=Row s114 eB (ez ((dy (gA fs ds)).take 0))from rfl]
 refine gk (k:=dn (Nat×SV×SV) (fun y=> y.1≤zs.length) (fun y=> [(23,y.2.1.val),(24,y.2.2.val),(119, .int .i64 ((y.1:Nat):Int))]) [(7,_),(10,_),(17,_),(19,_),(117,_),(118,_)] (fun y=> [Row y.2.1 eEn ((gT 0 (dy (gA fs ds))).take y.1),Row y.2.2 eB (ez ((dy (gA fs ds)).take y.1))]) (Row s117 eRw (zs.map rwV)::Cl rgH zs::Row u eB (j5 fs ds fs.length)::Row s91 eB (qi ds)::Row us eB (fw fs ds)::Row s40 eB (fq fs)::Vr b2 [fv.val]::H) (fun y=> zs.length - y.1) ((0,s113,s114)) (h0:=?_) (k:=?_))
 ·try dsimp only
  exact Yl _
 rintro⟨i,ue,up⟩ hi
 try dsimp only[Yd,Ye]at*
 refine gk (k:=wi_ (k:=fun h5=>?_) (m:=fun h5=>?_))
 ·obtain⟨z,hzi⟩:∃z,zs[i]? =some z:=⟨_,Yi (a8)⟩
  have hzv:(zs.map rwV)[i]? =some (z.f,z.e.key,z.e.s):=by rw[Xd,hzi];all_goals rfl
  have hri:(dy (gA fs ds))[i]? =some (z.f % 256::cF z.e.key,z.e.l.map pgP):=by rw[hRT,Xd,hzi];all_goals rfl
  obtain⟨hrk,hrv,_⟩:=nO hri
  simp only at hrk hrv
  obtain⟨hgo,hgs,hgt⟩:=qj hgd (k:=z.f % 256::cF z.e.key)
  rw[←hrv]at hgo hgs hgt
  have hpb:=nP hri
  have hpl:=ot (dy (gA fs ds)) i
  have hpl2:=ot (dy (gA fs ds)) (i+1)
  have hen:=oD (n:=0) hri
  have heb:=hB3.1 _ (Yj hen)
  rw[yt,Nat.zero_add]at hen
  simp only at heb hpb
  rw[hpb,Ya]at hpl2
  have hsz65:z.e.key.size≤65:=by have h9:=heb.2.1;rw[yt,←cJ,l5]at h9;simp only[Yb,cJ]at h9;omega
  have hzf:=K2 hab (Yj hzi)
  have hgs1:=hgs.1
  have htk:=cP hen
  have hpgl:(z.e.l.map pgV).length=(z.e.l.map pgP).length:=aj
  have hel2:((gT 0 (dy (gA fs ds))).take i).length≤2000000:=by rw[Yg,iR];omega
  haveI hzsl:Sl (Row s117 eRw (zs.map rwV)::Cl rgH zs::Row u eB (j5 fs ds fs.length)::Row s91 eB (qi ds)::Row us eB (fw fs ds)::Row s40 eB (fq fs)::Vr b2 [fv.val]::H) z.e.s ePo (z.e.l.map pgV):=LX inferInstance hzi
  have hzpo:lI (Row s117 eRw (zs.map rwV)::Cl rgH zs::Row u eB (j5 fs ds fs.length)::Row s91 eB (qi ds)::Row us eB (fw fs ds)::Row s40 eB (fq fs)::Vr b2 [fv.val]::H) (z.e.l.map pgV) (z.e.l.map pgP):=LY inferInstance hzi
  refine gk (k:=alc (k:=fun b26=>?_))
  refine go ?_
  refine c1_ rfl (Kk (hzpo.less (hsb)) hgo hgs (a8)) (k:=?_)
  rintro _ _ ⟨s126,rfl,rfl⟩
  refine go ?_
  refine di cL (fun i=> [5,11,17,18].contains i) (fun k H=> (k=2→dh H b26 [.int .i64 ((z.f:Nat):Int), .string z.e.key,z.e.s.val])∧(k=4→dh H b26 [.int .i64 ((z.f:Nat):Int), .string z.e.key,z.e.s.val])∧(k=7→dh H b26 [.int .i64 ((z.f:Nat):Int), .string z.e.key,z.e.s.val])∧(k=8→Sl H z.e.s ePo (z.e.l.map pgV))∧(k=10→dh H b26 [.int .i64 ((z.f:Nat):Int), .string z.e.key,z.e.s.val])∧(k=13→Sl H up eB (ez ((dy (gA fs ds)).take i)))∧(k=15→Sl H s126 eB (j7 (z.e.l.map pgP)))) (af_ 0 (q:=cE fun H hH=>mv) (k:=af_ 1 (q:=cE fun H hH=>fla) (k:=?_)))
  refine cH 2 rfl rfl (aa) rfl (cE fun H hH=>aD) (?_)
  refine af_ 3 (q:=cE fun H hH=>fla) (k:=?_)
  refine cH 4 rfl rfl (aa) rfl (cE fun H hH=>aO) (?_)
  refine af_ 6 (q:=cE fun H hH=>fla) (k:=?_)
  refine cH 7 rfl rfl (aa) rfl (cE fun H hH=>by have hN:=hH.2.2.1 rfl;exact ldv) (?_)
  refine cH 8 rfl rfl (aa) rfl (cE fun H hH=>by have hN:=hH.2.2.2.1 rfl;exact lnn) (?_)
  refine af_ 9 (q:=cE fun H hH=>fla) (k:=?_)
  refine cH 10 rfl rfl (aa) rfl (cE fun H hH=>by have hN:=hH.2.2.2.2.1 rfl;exact ldv) (?_)
  refine af_ 12 (q:=cE fun H hH=>mv) (k:=?_)
  refine cH 13 rfl rfl (aa) rfl (cE fun H hH=>by have hN:=hH.2.2.2.2.2.1 rfl;exact lnn) (?_)
  refine af_ 14 (q:=cE fun H hH=>mv) (k:=?_)
  refine cH 15 rfl rfl (aa) rfl (cE fun H hH=>by have hN:=hH.2.2.2.2.2.2 rfl;exact lnn) (?_)
  refine cQ 5 rfl (aa) rfl (fun k hk=> ⟨fun hi=> ab,fun hi=> ab,fun hi=> ab,fun hi=> ab,fun hi=> ab,fun hi=> ab,fun hi=> ab⟩) (dm (vs:= [_,_]) rfl (Nq (a8) (a8))) ?_
  rintro _ _ ⟨rfl,rfl⟩
  refine cQ 11 rfl (aa) rfl (fun k hk=> ⟨fun hi=> absurd hk (ad),fun hi=> absurd hk (ad),fun hi=> ab,fun hi=> ab,fun hi=> ab,fun hi=> ab,fun hi=> ab⟩) (dm (vs:= [_]) rfl (Ed (hzpo.less (hsb)) (a8) (a8))) ?_
  rintro _ _ ⟨rfl,rfl⟩
  refine af_ 16 (q:=cE fun H hH=>bld [(0,_),(1,_),(2,_),(3,_),(4,_)]) (k:=?_)
  refine cQ 17 rfl (aa) rfl (fun k hk=> ⟨fun hi=> absurd hk (ad),fun hi=> absurd hk (ad),fun hi=> ab,fun hi=> ab,fun hi=> absurd hk (ad),fun hi=> ab,fun hi=> ab⟩) (dW eEn rfl rfl) ?_
  rintro _ _ ⟨s146,rfl,rfl⟩
  refine cQ 18 rfl (aa) rfl (fun k hk=> ⟨fun hi=> absurd hk (ad),fun hi=> absurd hk (ad),fun hi=> ab,fun hi=> ab,fun hi=> absurd hk (ad),fun hi=> ab,fun hi=> ab⟩) (ek rfl rfl rfl rfl (af) (af)) ?_
  rintro _ _ ⟨s147,rfl,rfl⟩
  rw[hpgl,←htk]
  refine af_ 19 (q:=cE fun H hH=>asn) (k:=db (aa) (fun k hk=> ⟨fun hi=> absurd hk (ad),fun hi=> absurd hk (ad),fun hi=> ab,fun hi=> ab,fun hi=> absurd hk (ad),fun hi=> ab,fun hi=> ab⟩) (gk (k:=app (k:=fun s150=>?_))))
  rw[←hpb]
  refine go ?_
  refine ln_ ((i+1,s147,s150)) (k:=?_)
  try dsimp only
  omega
 obtain rfl:i=zs.length:=a8
 rw[show(gT 0 (dy (gA fs ds))).take zs.length=gT 0 (dy (gA fs ds))from by rw[hzl,←iR _ 0,List.take_length],show(dy (gA fs ds)).take zs.length=dy (gA fs ds)from by rw[hzl,List.take_length]]
 have hel3:(gT 0 (dy (gA fs ds))).length≤2000000:=by rw[iR];omega
 refine go ?_
 refine c1_ rfl (Mb (a8) hB3) (k:=?_)
 rintro _ _ ⟨s154,rfl,rfl⟩
 refine e_ mv (k:=e_ exr (k:=e_ exr (k:=e_ asn (k:=e_ asn (k:=on_ (qn_ (ws_ (wr_ (e_ mv (k:=e_ (bld [(0,_),(1,_)]) (k:=e_ mv (k:=e_ (bld [(0,_),(1,_)]) (k:=go ?_)))))))))))))
 refine e_ (bld [(0,_),(1,_)]) (k:=e_ mv (k:=e_ (bld [(0,_),(1,_)]) (k:=e_ mv (k:=e_ (bld [(0,_),(1,_)]) (k:=e_ mv (k:=e_ (bld [(0,_),(1,_)]) (k:=?_)))))))
 refine s_ (dp eK [(1,s40),(2,s91),(3,u),(4,s154),(5,up),(6,us)] (aI) rfl (an)) (k:=?_)
 rintro _ _ ⟨s169,rfl,rfl⟩
 refine c2_ rfl (xV (bl:=ld fs ds) 83 (ag) (ag) (Ju (a:=s40) (b:=s91) (c:=u) (d:=s154) (e:=up) (f:=us)) hB1 hB2 (by simp[ld])) (k:=?_)
 rintro _ _ ⟨s170,rfl,rfl⟩
 refine gk (k:=rt_ Tryz.results63 (k:=?_))
 exact⟨_,hsb, .inl ⟨hck,s170,rfl,rfl⟩⟩
def uY (l:List Nat):Nat:=l.foldr (fun x a=> x % 128+128*a) 0
theorem rE (x:Nat) (l:List Nat):uY (x::l)=x % 128+128*uY l:=rfl
theorem vV (l:List Nat):∀j,uY (l.drop j)≤uY l:=by
 induction l with
 |nil=> intro j;simp
 |cons x l ih=>
  intro j
  cases j with
  |zero=> exact Nat.le_refl _
  |succ j=> rw[List.drop_succ_cons,rE];have:=ih j;omega
theorem tM:∀(l:List Nat) (i k x:Nat),(∀j y,j<k→l[j]? =some y→128≤y)→l[k]? =some x→i+k≤9→(i+k=9→x≤1)→x<128→¬(x=0∧0<i+k)→eY i l= .ok (uY (l.take (k+1)),k+1)
 | [],_,_,_,_,h,_,_,_,_=> aR
 |y::l,i,0,x,h1,h2,h3,h4,h5,h6=> by
  simp at h2;subst h2
  rw[eY,if_neg (a8),if_neg (a8),if_neg (a8)]
  simp[uY,Nat.mod_eq_of_lt h5]
 |y::l,i,k+1,x,h1,h2,h3,h4,h5,h6=> by
  have hy:=h1 0 y (a8) rfl
  have ih:=tM l (i+1) k x (fun j z hj hz=> h1 (j+1) z (a8) (by simpa using hz)) (by simpa using h2) (a8) (a8) h5 (a8)
  rw[eY,if_neg (a8),if_pos hy,ih]
  all_goals rfl
theorem pX:∀(l:List Nat) (i k x:Nat),(∀j y,j<k→l[j]? =some y→128≤y)→l[k]? =some x→i+k≤9→((i+k=9∧1<x)∨(x=0∧0<i+k))→eY i l= .error 3
 | [],_,_,_,_,h,_,_=> aR
 |y::l,i,0,x,h1,h2,h3,h4=> by
  simp at h2;subst h2
  rw[eY]
  by_cases c:i=9∧1<y
  ·rw[if_pos c]
  ·rw[if_neg c,if_neg (a8),if_pos (a8)]
 |y::l,i,k+1,x,h1,h2,h3,h4=> by
  have hy:=h1 0 y (a8) rfl
  have ih:=pX l (i+1) k x (fun j z hj hz=> h1 (j+1) z (a8) (by simpa using hz)) (by simpa using h2) (a8) (a8)
  rw[eY,if_neg (a8),if_pos hy,ih]
theorem pw:∀(l:List Nat) (i:Nat),(∀y∈l,128≤y)→i+l.length≤9→eY i l= .error 2
 | [],_,_,_=> rfl
 |y::l,i,h,hl=> by
  simp only[Yb]at hl
  rw[eY,if_neg (a8),if_pos (h y (aj)),pw l (i+1) (fun z hz=> h z (by simp[hz])) (a8)]
def Kq:Except Nat (Nat×Nat)→Value
 | .error e=> .tuple #[.int .u64 0, .int .i64 0, .int .i64 (kG e)]
 | .ok (v,n)=> .tuple #[.int .u64 ((v:Nat):Int), .int .i64 ((n:Nat):Int), .int .i64 0]
theorem vk {G:cM}{H:cG}{s:SV}{xs:List Nat} [Sl H s eB xs] (hn:xs.length≤100000000000) (hb:∀x∈xs,x<256):SC G Tryz.prog 86 [s.val] H (fun v H'=> v=Kq (eY 0 xs)∧H'=H):=by
 refine sWk Tryz.func86 Tryz.ntmps86 ?_
 refine go ?_
 refine wl_ (Nat) (fun k=> k≤xs.length∧k≤9∧∀j y,j<k→xs[j]? =some y→128≤y) (fun k=> [(0,s.val),(5, .int .i64 ((k+1:Nat):Int))]) (fun _=> H) (fun k=> xs.length - k) (0) (h0:=?_) (k:=?_)
 ·try dsimp only
  exact⟨Yl _,a8,fun j y h=> absurd h (Nat.not_lt_zero _)⟩
 rintro k ⟨hk,hk9,hall⟩
 try dsimp only at*
 refine ws_ (?_)
 refine nt ([(0,s.val),(5, .int .i64 ((k+1:Nat):Int)),(15, .bool (decide (k<xs.length)))]) ?_ ?_
 ·refine wr_ (e_ mv (k:=e_ mv (k:=e_ lnn (k:=e_ ile (k:=sp_ (mv) (k:=fun h1=>?_) (m:=fun h1=>?_))))))
  ·refine gk (k:=ctt)
  refine gk (k:=ctt)
 refine wi_ (k:=fun h2=>?_) (m:=fun h2=>?_)
 ·obtain⟨x,hx⟩:∃x,xs[k]? =some x:=⟨_,Yi (a8)⟩
  have hxb:=hb x (Yj hx)
  refine wk_ (qn_ (ws_ (wb_ (ws_ (?_)))))
  refine nt ([(0,s.val),(5, .int .i64 ((k+1:Nat):Int)),(27, .bool (decide (128≤x∧k<9)))]) ?_ ?_
  ·refine wr_ (e_ mv (k:=e_ mv (k:=e_ isb (k:=?_))))
   refine e_ (cO rfl rfl k (a8) (a8)) (k:=?_)
   refine e_ (dq rfl (aI) (aI) x hx) (k:=?_)
   refine e_ ige (k:=sp_ (mv) (k:=fun h3=>?_) (m:=fun h3=>?_))
   ·refine gk (k:=ctt)
   refine gk (k:=ctt)
  refine wi_ (k:=fun h4=>?_) (m:=fun h4=>?_)
  ·refine go ?_
   refine ln_ (k+1) (k:=?_)
   try dsimp only
   refine⟨a8,a8,fun j y hj hy=> ?_⟩
   rcases Nat.lt_or_eq_of_le (Nat.le_of_lt_succ hj)with h|rfl
   ·exact hall j y h hy
   ·rw[hx]at hy;cases hy;omega
  refine wk_ (qn_ (ws_ (?_)))
  refine nt ([(0,s.val),(5, .int .i64 ((k+1:Nat):Int)),(47, .bool (decide ((k=9∧1<x)∨(x=0∧0<k))))]) ?_ ?_
  ·refine wr_ (e_ mv (k:=e_ ieq (k:=sp_ (mv) (k:=fun h5=>?_) (m:=fun h5=>?_))))
   ·have hk9e:k=9:=by omega
    have hx9:xs[9]? =some x:=hk9e ▸ hx
    refine eg_ mv (k:=?_)
    refine eg_ (cO rfl rfl 9 rfl (a8)) (k:=?_)
    refine eg_ (dq rfl (aI) (aI) x hx9) (k:=?_)
    refine eg_ igt (k:=e_ pkt (k:=sp_ (mv) (k:=fun h6=>?_) (m:=fun h6=>?_)))
    ·refine gk (k:=ctt)
    refine eg_ mv (k:=eg_ igt (k:=oP (mv) (k:=fun h7=>?_) (m:=fun h7=>?_)))
    ·refine eg_ mv (k:=eg_ mv (k:=eg_ isb (k:=?_)))
     refine eg_ (cO rfl rfl k (a8) (a8)) (k:=?_)
     refine eg_ (dq rfl (aI) (aI) x hx) (k:=?_)
     refine gk (k:=ctt)
    refine gk (k:=ctt)
   refine of_ (k:=of_ (k:=of_ (k:=of_ (k:=e_ pkf (k:=e_ mv (k:=eg_ mv (k:=eg_ igt (k:=oP (mv) (k:=fun h8=>?_) (m:=fun h8=>?_)))))))))
   ·refine eg_ mv (k:=eg_ mv (k:=eg_ isb (k:=?_)))
    refine eg_ (cO rfl rfl k (a8) (a8)) (k:=?_)
    refine eg_ (dq rfl (aI) (aI) x hx) (k:=?_)
    refine gk (k:=ctt)
   refine gk (k:=ctt)
  refine wi_ (k:=fun h9=>?_) (m:=fun h9=>?_)
  ·have hbad:=pX xs 0 k x hall hx (a8) (a8)
   refine go ?_
   refine rt_ Tryz.results86 (k:=?_)
   exact⟨_,cK.refl,by rw[hbad];all_goals rfl,rfl⟩
  have hval:=tM xs 0 k x hall hx (a8) (a8) (a8) (a8)
  obtain⟨p1,p2,p3,p4,p5,p6⟩:=gZ xs 0 _ _ hb (a8) hval
  have hd0:=vV (xs.take (k+1))
  refine go ?_
  refine gk (k:=wl_ (Nat×Nat) (fun y=> y.1≤k+1∧y.2=uY ((xs.take (k+1)).drop y.1)) (fun y=> [(5, .int .i64 ((k+1:Nat):Int)),(0,s.val),(6, .int .u64 ((y.2:Nat):Int)),(7, .int .i64 ((y.1:Int) - 1))]) (fun _=> H) (fun y=> y.1) ((k+1,0)) (hs:=?_) (h0:=?_) (k:=?_))
  ·(try rw[show((k+1:Nat):Int) - 1=((k+1:Nat):Int) - 1 from rfl]);repeat (first|exact Sub.nil|refine Sub.cons rfl ?_)
  ·try dsimp only
   refine⟨Nat.le_refl _,?_⟩
   rw[List.drop_of_length_le (ax)];all_goals rfl
  rintro⟨j,v⟩ ⟨hj,hv⟩
  try dsimp only at*
  refine gk (k:=wi_ (k:=fun h10=>?_) (m:=fun h10=>?_))
  ·obtain⟨d,rfl⟩:∃d,j=d+1:=⟨j - 1,a8⟩
   obtain⟨z,hz⟩:∃z,xs[d]? =some z:=⟨_,Yi (a8)⟩
   have hz2:=hb z (Yj hz)
   have hdd:uY ((xs.take (k+1)).drop d)=z % 128+128*v:=by
    rw[dV (show(xs.take (k+1))[d]? =some z by rw[List.getElem?_take_of_lt (a8)];exact hz),rE,hv]
   have hdl:=hd0 d
   refine wk_ (qn_ (ws_ (wb_ (wr_ (e_ mv (k:=?_))))))
   refine e_ (wU 18446744073709551616 rfl rfl rfl rfl v 128 rfl rfl) (k:=?_)
   refine e_ mv (k:=e_ mv (k:=?_))
   refine e_ (cO rfl rfl d (a8) (a8)) (k:=?_)
   refine e_ (dq rfl (aI) (aI) z hz) (k:=?_)
   refine e_ (gQ rfl rfl z 128 rfl rfl (a8)) (k:=?_)
   refine e_ ((ae)) (k:=?_)
   refine e_ (lV 18446744073709551616 rfl rfl rfl rfl _ _ rfl rfl) (k:=?_)
   rw[show(v*128 % 18446744073709551616+z % 128) % 18446744073709551616=z % 128+128*v from a8]
   refine go ?_
   refine ln_ ((d,z % 128+128*v)) (h3:=?_) (k:=?_)
   ·(try rw[show((d+1:Nat):Int) - 1 - 1=(d:Int) - 1 from a8]);repeat (first|exact Sub.nil|refine Sub.cons rfl ?_)
   try dsimp only
   exact⟨a8,hdd.symm⟩
  obtain rfl:j=0:=a8
  refine go ?_
  refine gk (k:=rt_ Tryz.results86 (k:=?_))
  exact⟨_,cK.refl,by rw[hval,hv];all_goals rfl,rfl⟩
 have hsh:=pw xs 0 (fun y hy=> by obtain⟨j,hj⟩:=List.mem_iff_getElem?.1 hy;exact hall j y (by have:=(Yk.1 hj).1;omega) hj) (a8)
 refine gk (k:=rt_ Tryz.results86 (k:=?_))
 exact⟨_,cK.refl,by rw[hsh];all_goals rfl,rfl⟩
end Go.Sx
