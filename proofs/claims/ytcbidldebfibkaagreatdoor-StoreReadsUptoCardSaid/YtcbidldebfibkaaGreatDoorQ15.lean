import Derived.Test.YtcbidldebfibkaaGreatDoorQ14
set_option linter.unusedVariables false
set_option linter.unusedSimpArgs false
set_option linter.unusedSectionVars false
set_option linter.unnecessarySimpa false
set_option maxHeartbeats 0
namespace Go.Sx
open Go Go.Proofs
set_option maxRecDepth 100000
theorem SC.less {G:cM}{P:Program}{f:FuncId}{args:List Value}{K:Value→cG→Prop}{H H':cG}(hs:cK H H') (h:SC G P f args H' K):SC G P f args H K:=h.heap fun w hw=> hs.sat hw
theorem DZ {G:cM}{H R:cG}{s:SV}{xs:List Nat}{iv:Int} [hr:pI H s eB xs R] (x:Nat) (hi:iv=((x:Nat):Int)) (hx:x<9223372036854775808) (hn:xs.length≤1000000000000):SC G Tryz.prog 32 [s.val, .int .i64 iv] H (fun v H'=> ∃s':SV,v=s'.val∧H'=Row s' eB (xs++uv x)::R):=by
 subst hi
 refine SC.less (jr hr cK.refl) ?_
 have hl:=dc (n:=x) (a8)
 refine sWk Tryz.func32 Tryz.ntmps32 ?_
 refine gk (k:=wl_ (SV×Nat×List Nat) (fun y=> y.2.2++uv y.2.1=xs++uv x∧y.2.1<9223372036854775808) (fun y=> [(0,y.1.val),(1, .int .i64 ((y.2.1:Nat):Int))]) (fun y=> Row y.1 eB y.2.2::R) (fun y=> y.2.1) ((s,x,xs)) (h0:=?_) (k:=?_))
 ·try dsimp only
  exact⟨rfl,hx⟩
 rintro⟨s,n,zs⟩ ⟨hI,hnb⟩
 try dsimp only at*
 have hlen:=congrArg List.length hI
 have hpos:=ju n
 simp only[Ya]at hlen
 refine gk (k:=wi_ (k:=fun h1=>?_) (m:=fun h1=>?_))
 ·refine wk_ (qn_ (wb_ (ws_ (wr_ (e_ mv (k:=e_ mv (k:=?_)))))))
  refine e_ (gQ rfl rfl n 128 rfl rfl (a8)) (k:=?_)
  refine e_ iad (k:=?_)
  refine e_ (cS 256 rfl rfl rfl (n % 128+128) (a8) (a8)) (k:=?_)
  refine dD eB (k:=fun s1=>?_)
  refine app (hlim:=by simp only[Yb,Yc];omega) (hlim2:=by simp only[Yb,Yc];omega) (k:=fun s2=>?_)
  refine e_ asn (k:=on_ (qn_ (wr_ (e_ mv (k:=?_)))))
  refine e_ (iF rfl rfl n 128 rfl rfl (a8) (aw)) (k:=?_)
  refine go ?_
  refine ln_ ((s2,n / 128,zs++ [n % 128+128])) (k:=?_)
  try dsimp only
  refine⟨?_,a8⟩
  rw[←hI,m5 (n:=n) (a8)]
  simp
 have e:zs++ [n]=xs++uv x:=bK
 refine we_ (qe_ (le_ (bh_ (qn_ (ws_ (wr_ (e_ mv (k:=e_ mv (k:=?_)))))))))
 refine e_ (cS 256 rfl rfl rfl n rfl (a8)) (k:=?_)
 refine dD eB (k:=fun s2=>?_)
 refine app (hlim:=by simp only[Yb,Yc];omega) (hlim2:=by simp only[Yb,Yc];omega) (k:=fun s2=>?_)
 refine gk (k:=rt_ Tryz.results32 (k:=?_))
 exact⟨_,cv,s2,rfl,rfl⟩
theorem DX {G:cM}{H:cG}{iv:Int}(x:Nat) (hi:iv=((x:Nat):Int)) (hx:x<9223372036854775808):SC G Tryz.prog 32 [SV.nil.val, .int .i64 iv] H (fun v H'=> ∃s':SV,v=s'.val∧H'=Row s' eB (uv x)::H):=
 SC.less (H':=Row SV.nil eB []::H) (cK.nilRow cK.refl) (DZ (s:=SV.nil) (xs:= []) (R:=H) x hi hx (aj))
theorem DY {G:cM}{H:cG}(x:Nat) (hx:x<18446744073709551616):SC G Tryz.prog 67 [.int .u64 ((x:Nat):Int)] H (fun v H'=> ∃s':SV,v=s'.val∧H'=Row s' eB (uv x)::H):=by
 have hl:=dc hx
 refine sWk Tryz.func67 Tryz.ntmps67 ?_
 refine gk (k:=wl_ (SV×Nat×List Nat) (fun y=> y.2.2++uv y.2.1=uv x∧y.2.1<18446744073709551616) (fun y=> [(0, .int .u64 ((y.2.1:Nat):Int)),(3,y.1.val)]) (fun y=> Row y.1 eB y.2.2::H) (fun y=> y.2.1) ((SV.nil,x, [])) (h0:=?_) (k:=?_))
 ·try dsimp only
  exact⟨rfl,hx⟩
 rintro⟨s,n,zs⟩ ⟨hI,hnb⟩
 try dsimp only at*
 have hlen:=congrArg List.length hI
 have hpos:=ju n
 simp only[Ya]at hlen
 refine gk (k:=wi_ (k:=fun h1=>?_) (m:=fun h1=>?_))
 ·refine wk_ (qn_ (wb_ (ws_ (wr_ (e_ mv (k:=e_ mv (k:=?_)))))))
  refine e_ (gQ rfl rfl n 128 rfl rfl (a8)) (k:=?_)
  refine e_ (kl 18446744073709551616 rfl rfl rfl rfl (n % 128) 128 rfl rfl (a8)) (k:=?_)
  refine e_ (cS 256 rfl rfl rfl (n % 128+128) (a8) (a8)) (k:=?_)
  refine dD eB (k:=fun s1=>?_)
  refine app (hlim:=by simp only[Yb,Yc];omega) (hlim2:=by simp only[Yb,Yc];omega) (k:=fun s2=>?_)
  refine e_ asn (k:=on_ (qn_ (wr_ (e_ mv (k:=?_)))))
  refine e_ (iF rfl rfl n 128 rfl rfl (a8) (by show _≤(18446744073709551615:Int);omega)) (k:=?_)
  refine go ?_
  refine ln_ ((s2,n / 128,zs++ [n % 128+128])) (k:=?_)
  try dsimp only
  refine⟨?_,a8⟩
  rw[←hI,m5 (n:=n) (a8)]
  simp
 have e:zs++ [n]=uv x:=bK
 refine we_ (qe_ (le_ (bh_ (qn_ (ws_ (wr_ (e_ mv (k:=e_ mv (k:=?_)))))))))
 refine e_ (cS 256 rfl rfl rfl n rfl (a8)) (k:=?_)
 refine dD eB (k:=fun s2=>?_)
 refine app (hlim:=by simp only[Yb,Yc];omega) (hlim2:=by simp only[Yb,Yc];omega) (k:=fun s2=>?_)
 refine gk (k:=rt_ Tryz.results67 (k:=?_))
 exact⟨_,cv,s2,rfl,rfl⟩
theorem mT {G:cM}{H:cG}(x:Nat) (hx:x<18446744073709551616):SC G Tryz.prog 65 [.int .u64 ((x:Nat):Int)] H (fun v H'=> ∃s':SV,v=s'.val∧H'=Row s' eB (uv x)::H):=by
 have hl:=dc hx
 refine sWk Tryz.func65 Tryz.ntmps65 ?_
 refine go ?_
 refine s_ (cZ eB rfl) (k:=?_)
 rintro _ _ ⟨s1,rfl,rfl⟩
 refine gk (k:=wl_ (SV×Nat×List Nat) (fun y=> y.2.2++uv y.2.1=uv x∧y.2.1<18446744073709551616) (fun y=> [(0, .int .u64 ((y.2.1:Nat):Int)),(3,y.1.val)]) (fun y=> Row y.1 eB y.2.2::H) (fun y=> y.2.1) ((s1,x, [])) (h0:=?_) (k:=?_))
 ·try dsimp only
  exact⟨rfl,hx⟩
 rintro⟨s,n,zs⟩ ⟨hI,hnb⟩
 try dsimp only at*
 have hlen:=congrArg List.length hI
 have hpos:=ju n
 simp only[Ya]at hlen
 refine gk (k:=wi_ (k:=fun h1=>?_) (m:=fun h1=>?_))
 ·refine wk_ (qn_ (wb_ (ws_ (wr_ (e_ mv (k:=e_ mv (k:=?_)))))))
  refine e_ (gQ rfl rfl n 128 rfl rfl (a8)) (k:=?_)
  refine e_ (kl 18446744073709551616 rfl rfl rfl rfl 128 (n % 128) rfl rfl (a8)) (k:=?_)
  refine e_ (cS 256 rfl rfl rfl (128+n % 128) (a8) (a8)) (k:=?_)
  refine dD eB (k:=fun s2=>?_)
  refine app (hlim:=by simp only[Yb,Yc];omega) (hlim2:=by simp only[Yb,Yc];omega) (k:=fun s2=>?_)
  refine e_ asn (k:=on_ (qn_ (wr_ (e_ mv (k:=?_)))))
  refine e_ (iF rfl rfl n 128 rfl rfl (a8) (by show _≤(18446744073709551615:Int);omega)) (k:=?_)
  refine go ?_
  refine ln_ ((s2,n / 128,zs++ [128+n % 128])) (k:=?_)
  try dsimp only
  refine⟨?_,a8⟩
  rw[←hI,m5 (n:=n) (a8),Nat.add_comm 128]
  simp
 have e:zs++ [n]=uv x:=bK
 refine we_ (qe_ (le_ (bh_ (qn_ (ws_ (wr_ (e_ mv (k:=e_ mv (k:=?_)))))))))
 refine e_ (cS 256 rfl rfl rfl n rfl (a8)) (k:=?_)
 refine dD eB (k:=fun s3=>?_)
 refine app (hlim:=by simp only[Yb,Yc];omega) (hlim2:=by simp only[Yb,Yc];omega) (k:=fun s2=>?_)
 refine gk (k:=rt_ Tryz.results65 (k:=?_))
 exact⟨_,cv,s2,rfl,rfl⟩
theorem B4 {G:cM}{H:cG}(q:ByteArray) (hq:q.size≤1000000000000):SC G Tryz.prog 66 [.string q] H (fun v H'=> ∃s':SV,v=s'.val∧H'=Row s' eB (uv q.size++cF q)::H):=by
 have hl:=dc (n:=q.size) (a8)
 refine sWk Tryz.func66 Tryz.ntmps66 ?_
 refine ws_ (wr_ (e_ asn (k:=on_ (qn_ (ws_ (wr_ (e_ mv (k:=e_ jA (k:=?_)))))))))
 refine e_ (cS 18446744073709551616 rfl rfl rfl q.size rfl (a8)) (k:=?_)
 refine c1_ rfl (mT q.size (a8)) (k:=?_)
 rintro _ _ ⟨s1,rfl,rfl⟩
 refine go ?_
 refine s_ (m7 rfl rfl rfl (a8) (a8)) (k:=?_)
 rintro _ _ ⟨s2,rfl,rfl⟩
 refine gk (k:=rt_ Tryz.results66 (k:=?_))
 exact⟨_,hsb,s2,rfl,rfl⟩
theorem sR {G:cM}{H:cG}(x:Nat) (hx:x<4294967296):SC G Tryz.prog 69 [.int .u32 ((x:Nat):Int)] H (fun v H'=> ∃s':SV,v=s'.val∧H'=Row s' eB (w32 x)::H):=by
 refine sWk Tryz.func69 Tryz.ntmps69 ?_
 refine ws_ (wr_ (e_ asn (k:=on_ (qn_ (ws_ (wr_ (e_ mv (k:=?_))))))))
 refine e_ ((ao)) (k:=?_)
 refine e_ mv (k:=?_)
 refine e_ (ei rfl rfl _ 8 rfl rfl (aH)) (k:=?_)
 refine e_ ((ao)) (k:=?_)
 refine e_ mv (k:=?_)
 refine e_ (ei rfl rfl _ 16 rfl rfl (aH)) (k:=?_)
 refine e_ ((ao)) (k:=?_)
 refine e_ mv (k:=?_)
 refine e_ (ei rfl rfl _ 24 rfl rfl (aH)) (k:=?_)
 refine e_ ((ao)) (k:=?_)
 refine s_ (ve eB rfl rfl rfl rfl rfl) (k:=?_)
 rintro _ _ ⟨s1,rfl,rfl⟩
 refine gk (k:=rt_ Tryz.results69 (k:=?_))
 have h24:x / 16777216 % 256=x / 2 ^ 24:=a8
 have hw:w32 x= [x % 256,x / 2 ^ 8 % 256,x / 2 ^ 16 % 256,x / 2 ^ 24]:=by
  show [x % 256,x / 256 % 256,x / 65536 % 256,x / 16777216 % 256]=_
  rw[h24]
 exact⟨_,by rw[hw];exact hsb,s1,rfl,rfl⟩
theorem K9 {G:cM}{H:cG}{s:SV}{body:List Nat} [Sl H s eB body] (tag:Nat) (ht0:tag≠0) (ht:tag<256) (hb:∀x∈body,x<256) (hn:body.length≤10000000000):SC G Tryz.prog 68 [.int .u8 ((tag:Nat):Int),s.val] H (fun v H'=> ∃s':SV,v= .tuple #[s'.val, .int .i64 0]∧H'=Row s' eB (fK tag body)::H):=by
 have hul:=dc (n:=body.length) (a8)
 have hpl:=qB tag body
 refine sWk Tryz.func68 Tryz.ntmps68 ?_
 refine gk (k:=wi_ (k:=fun h1=>?_) (m:=fun h1=>?_))
 ·exfalso;omega
 refine gk (k:=dD eB (k:=fun s1=>?_))
 refine e_ asn (k:=on_ (qn_ (ws_ (wr_ (e_ mv (k:=e_ mv (k:=e_ lnn (k:=?_))))))))
 refine e_ (cS 18446744073709551616 rfl rfl rfl body.length rfl (a8)) (k:=?_)
 refine c1_ rfl (DY body.length (a8)) (k:=?_)
 rintro _ _ ⟨s2,rfl,rfl⟩
 refine app (hlim:=by simp only[Yb,Yc];omega) (hlim2:=by simp only[Yb,Yc];omega) (k:=fun s3=>?_)
 refine go ?_
 refine app (hlim:=by simp only[Ya,Yb,Yc];omega) (hlim2:=by simp only[Ya,Yb,Yc];omega) (k:=fun s4=>?_)
 refine go ?_
 refine d1_ rfl (E4 (xs:=k7 tag body) (a8) (qA ht hb)) (k:=?_)
 refine c1_ rfl (sR (mN (k7 tag body)) (wc (qA ht hb))) (k:=?_)
 rintro _ _ ⟨s5,rfl,rfl⟩
 refine s_ (ek (xs:=k7 tag body) rfl rfl rfl rfl (by rw[lK];omega) (by rw[lK];omega)) (k:=?_)
 rintro _ _ ⟨s6,rfl,rfl⟩
 refine gk (k:=rt_ Tryz.results68 (k:=?_))
 exact⟨_,hsb,s6,rfl,rfl⟩
theorem xV {G:cM}{H:cG}{s:SV}{l:List (Nat×SV)}{bl:List (Nat×List Nat)} [Sl H s eK l] (kind:Nat) (hk0:kind≠0) (hk:kind<256) (hB:kL H l bl) (ht:∀q∈bl,0<q.1∧q.1<256∧∀x∈q.2,x<256) (hn:(da bl).length≤1000000000) (hm:bl.length≤1000000000):SC G Tryz.prog 34 [.int .u8 ((kind:Nat):Int),s.val] H (fun v H'=> ∃s':SV,v= .tuple #[s'.val, .int .i64 0]∧H'=Row s' eB (jW kind bl)::H):=by
 obtain⟨hlen,hbod⟩:=hB
 have hul:=dc (n:=bl.length) (a8)
 have hql:(kQ kind bl).length≤10000000000:=by rw[uo];omega
 refine sWk Tryz.func34 Tryz.ntmps34 ?_
 refine gk (k:=wi_ (k:=fun h1=>?_) (m:=fun h1=>?_))
 ·exfalso;omega
 refine go ?_
 refine s_ (C8 eB rfl rfl rfl rfl rfl rfl) (k:=?_)
 rintro _ _ ⟨s1,rfl,rfl⟩
 refine e_ asn (k:=on_ (qn_ (ws_ (wr_ (e_ mv (k:=e_ mv (k:=e_ lnn (k:=?_))))))))
 refine e_ (cS 18446744073709551616 rfl rfl rfl l.length rfl (a8)) (k:=?_)
 refine c1_ rfl (DY l.length (a8)) (k:=?_)
 rintro _ _ ⟨s2,rfl,rfl⟩
 refine app (hlim:=by rw[hlen];simp only[Yb,Yc];omega) (hlim2:=by rw[hlen];simp only[Yb,Yc];omega) (k:=fun s3=>?_)
 refine e_ asn (k:=on_ (qn_ (ws_ (ws_ (wr_ (?_))))))
 rw[hlen]
 refine gk (k:=wl_ (SV×Nat×List Nat) (fun y=> y.2.1≤bl.length∧y.2.2= [99,110,99,100]++ [kind]++uv bl.length++da (bl.take y.2.1)) (fun y=> [(6,y.1.val),(21,s.val),(22, .int .i64 ((bl.length:Nat):Int)),(23, .int .i64 ((y.2.1:Nat):Int))]) (fun y=> Row y.1 eB y.2.2::H) (fun y=> bl.length - y.2.1) ((s3,0, [99,110,99,100,kind]++uv bl.length)) (hs:=?_) (h0:=?_) (k:=?_))
 ·(try rw[hlen])
  repeat (first|exact Sub.nil|refine Sub.cons rfl ?_)
 ·try dsimp only
  exact⟨Yl _,bu⟩
 rintro⟨so,i,zs⟩ ⟨hi,hI⟩
 try dsimp only at*
 have hzl:zs.length≤10000000000:=by
  have:=rB bl i
  rw[hI];simp only[Ya,Yb,Yc];omega
 refine gk (k:=wi_ (k:=fun h2=>?_) (m:=fun h2=>?_))
 ·obtain⟨p,hp⟩:∃p,l[i]? =some p:=⟨_,Yi (a8)⟩
  obtain⟨q,hq⟩:∃q,bl[i]? =some q:=⟨_,Yi (a8)⟩
  obtain⟨hpq,hS⟩:=hbod i p q hp hq
  obtain⟨ht1,ht2,ht3⟩:=ht q (Yj hq)
  have hbl:=qI (Yj hq)
  have hel:(fK q.1 q.2).length≤10000000000:=by
   have hu:=dc (n:=q.2.length) (a8)
   rw[ft];omega
  refine gk (k:=alc (k:=fun b1=>?_))
  refine go ?_
  refine c2_ rfl (K9 p.1 (a8) (a8) ht3 (a8)) (k:=?_)
  rintro _ _ ⟨s2,rfl,rfl⟩
  rw[hpq]
  refine go ?_
  refine dw (k:=go ?_)
  refine app (hlim:=by omega) (hlim2:=by omega) (k:=fun s4=>?_)
  refine go ?_
  refine ln_ ((s4,i+1,zs++fK q.1 q.2)) (k:=?_)
  try dsimp only
  refine⟨a8,?_⟩
  rw[cP hq,su,hI];simp
 obtain rfl:i=bl.length:=a8
 rw[List.take_length]at hI
 have hI':zs=kQ kind bl:=hI
 subst hI'
 refine go ?_
 refine d1_ rfl (B5 (a8) (ow hk fun q hq=> (ht q hq).2)) (k:=?_)
 refine c1_ rfl (sR (lN (kQ kind bl)) (tC (ow hk fun q hq=> (ht q hq).2))) (k:=?_)
 rintro _ _ ⟨s5,rfl,rfl⟩
 refine s_ (ek (xs:=kQ kind bl) rfl rfl rfl rfl (by rw[lK];omega) (by rw[lK];omega)) (k:=?_)
 rintro _ _ ⟨s6,rfl,rfl⟩
 refine gk (k:=rt_ Tryz.results34 (k:=?_))
 exact⟨_,hsb,s6,rfl,rfl⟩
theorem xW {G:cM}{H:cG}(s:ByteArray) (hn:s.size≤1000000000000):SC G Tryz.prog 111 [.string s] H (fun v H'=> v= .bool (ij (cF s))∧H'=H):=by
 have hs:=cJ s
 refine sWk Tryz.func111 Tryz.ntmps111 ?_
 refine ws_ (wr_ (e_ asn (k:=on_ (qn_ (ws_ (ws_ (wr_ (e_ mv (k:=e_ jA (k:=e_ ilt (k:=sp_ (mv) (k:=fun h1=>?_) (m:=fun h1=>?_))))))))))))
 ·refine gk (k:=ift (k:=go ?_))
  refine rt_ Tryz.results111 (k:=?_)
  have e:ij (cF s)=false:=bj
  exact⟨_,cK.refl,by rw[e];all_goals rfl,rfl⟩
 refine gk (k:=wi_ (k:=fun h2=>?_) (m:=fun h2=>?_))
 ·refine gk (k:=rt_ Tryz.results111 (k:=?_))
  have e:ij (cF s)=false:=bj
  exact⟨_,cK.refl,by rw[e];all_goals rfl,rfl⟩
 have e:ij (cF s)=oZ 0 (cF s):=by unfold ij;rw[Ys (a8)];all_goals rfl
 refine gk (k:=wl_ (Nat) (fun i=> i≤s.size∧ij (cF s)=oZ i ((cF s).drop i)) (fun i=> [(0, .string s),(3, .int .i64 ((i:Nat):Int))]) (fun _=> H) (fun i=> s.size - i) (0) (h0:=?_) (k:=?_))
 ·try dsimp only
  exact⟨Yl _,by rw[e,List.drop_zero]⟩
 rintro i ⟨hi,hI⟩
 try dsimp only at*
 refine gk (k:=wi_ (k:=fun h3=>?_) (m:=fun h3=>?_))
 ·obtain⟨c,hc⟩:∃c,(cF s)[i]? =some c:=⟨_,Yi (a8)⟩
  rw[dV hc,oZ]at hI
  refine wk_ (qn_ (ws_ (wb_ (ws_ (wr_ (e_ mv (k:=e_ mv (k:=?_))))))))
  refine e_ (ng rfl rfl _ rfl _ (by first|assumption|rfl|exact Yi (a8))) (k:=?_)
  refine e_ asn (k:=on_ (qn_ (ws_ (wr_ (e_ mv (k:=e_ ige (k:=sp_ (mv) (k:=fun h4=>?_) (m:=fun h4=>?_))))))))
  ·refine eg_ mv (k:=eg_ ile (k:=e_ pkt (k:=e_ asn (k:=on_ (qn_ (ws_ (wr_ (e_ mv (k:=e_ oQ (k:=sp_ (mv) (k:=fun h5=>?_) (m:=fun h5=>?_)))))))))))
   ·refine eg_ mv (k:=eg_ ieq (k:=oP (mv) (k:=fun h6=>?_) (m:=fun h6=>?_)))
    ·refine go ?_
     refine ift (k:=gk (k:=rt_ Tryz.results111 (k:=?_)))
     exact⟨_,cK.refl,ak,rfl⟩
    refine eg_ mv (k:=eg_ ine (k:=oP (mv) (k:=fun h7=>?_) (m:=fun h7=>?_)))
    ·refine eg_ mv (k:=eg_ ilt (k:=oP (mv) (k:=fun h8=>?_) (m:=fun h8=>?_)))
     ·refine gk (k:=ift (k:=go ?_))
      refine gk (k:=rt_ Tryz.results111 (k:=?_))
      exact⟨_,cK.refl,ak,rfl⟩
     refine gk (k:=wi_ (k:=fun h9=>?_) (m:=fun h9=>?_))
     ·refine gk (k:=rt_ Tryz.results111 (k:=?_))
      exact⟨_,cK.refl,ak,rfl⟩
     refine go ?_
     refine ln_ (i+1) (k:=?_)
     try dsimp only
     refine⟨a8,?_⟩
     rw[hI,show lF i c=true from Ys (a8),Bool.true_and]
    refine gk (k:=dw (k:=go ?_))
    refine go ?_
    refine ln_ (i+1) (k:=?_)
    try dsimp only
    refine⟨a8,?_⟩
    rw[hI,show lF i c=true from Ys (a8),Bool.true_and]
   refine go ?_
   refine gk (k:=dw (k:=go ?_))
   refine ln_ (i+1) (k:=?_)
   try dsimp only
   refine⟨a8,?_⟩
   rw[hI,show lF i c=true from Ys (a8),Bool.true_and]
  refine of_ (k:=of_ (k:=e_ pkf (k:=e_ asn (k:=on_ (qn_ (ws_ (wr_ (e_ mv (k:=e_ oQ (k:=e_ mv (k:=eg_ mv (k:=eg_ ieq (k:=oP (mv) (k:=fun h10=>?_) (m:=fun h10=>?_))))))))))))))
  ·refine go ?_
   refine ift (k:=gk (k:=rt_ Tryz.results111 (k:=?_)))
   exact⟨_,cK.refl,ak,rfl⟩
  refine eg_ mv (k:=eg_ ine (k:=oP (mv) (k:=fun h11=>?_) (m:=fun h11=>?_)))
  ·refine eg_ mv (k:=eg_ ilt (k:=oP (mv) (k:=fun h12=>?_) (m:=fun h12=>?_)))
   ·refine gk (k:=ift (k:=go ?_))
    refine gk (k:=rt_ Tryz.results111 (k:=?_))
    exact⟨_,cK.refl,ak,rfl⟩
   refine gk (k:=wi_ (k:=fun h13=>?_) (m:=fun h13=>?_))
   ·refine gk (k:=rt_ Tryz.results111 (k:=?_))
    exact⟨_,cK.refl,ak,rfl⟩
   refine go ?_
   refine ln_ (i+1) (k:=?_)
   try dsimp only
   refine⟨a8,?_⟩
   rw[hI,show lF i c=true from Ys (a8),Bool.true_and]
  refine gk (k:=dw (k:=go ?_))
  refine go ?_
  refine ln_ (i+1) (k:=?_)
  try dsimp only
  refine⟨a8,?_⟩
  rw[hI,show lF i c=true from Ys (a8),Bool.true_and]
 obtain rfl:i=s.size:=a8
 rw[List.drop_of_length_le (a8),oZ]at hI
 refine gk (k:=rt_ Tryz.results111 (k:=?_))
 exact⟨_,cK.refl,by rw[hI];all_goals rfl,rfl⟩
theorem tK {G:cM}{H:cG}{s:SV}{fs:List FV} [hs:Sl H s eF fs] (hn:fs.length≤1000000000) (hf:∀f∈fs,f.name.size≤1000000000000):SC G Tryz.prog 64 [.agg [s.val].toArray] H (fun v H'=> H'=H∧((e7 fs=false∧v= .int .i64 11)∨(e7 fs=true∧v= .int .i64 0))):=by
 refine sWk Tryz.func64 Tryz.ntmps64 ?_
 refine gk (k:=bxx (k:=fun b1=>?_))
 refine e_ asn (k:=on_ (qn_ (ws_ (ws_ (wr_ (e_ fla (k:=e_ ldv (k:=e_ lnn (k:=e_ ilt (k:=sp_ (mv) (k:=fun h1=>?_) (m:=fun h1=>?_)))))))))))
 ·refine gk (k:=ift (k:=go ?_))
  refine gk (k:=rt_ Tryz.results64 (k:=?_))
  have e:e7 fs=false:=bz
  exact⟨_,hsb,rfl, .inl ⟨e,rfl⟩⟩
 refine gk (k:=wi_ (k:=fun h2=>?_) (m:=fun h2=>?_))
 ·refine gk (k:=rt_ Tryz.results64 (k:=?_))
  have e:e7 fs=false:=bz
  exact⟨_,hsb,rfl, .inl ⟨e,rfl⟩⟩
 refine wk_ (qn_ (ws_ (ws_ (wr_ (?_)))))
 have e:e7 fs=qF [] fs:=by unfold e7;rw[Ys (a8)];all_goals rfl
 refine gk (k:=wl_ (Nat) (fun i=> i≤fs.length∧e7 fs=qF ((fs.take i).map nm) (fs.drop i)) (fun i=> [(1, .pointer (some ⟨b1,0,none⟩)),(18,s.val),(19, .int .i64 ((fs.length:Nat):Int)),(20, .int .i64 ((i:Nat):Int))]) (fun _=> Vr b1 [s.val]::H) (fun i=> fs.length - i) (0) (h0:=?_) (k:=?_))
 ·try dsimp only
  exact⟨Yl _,by rw[e,List.drop_zero];all_goals rfl⟩
 rintro i ⟨hi,hI⟩
 try dsimp only at*
 refine gk (k:=wi_ (k:=fun h3=>?_) (m:=fun h3=>?_))
 ·obtain⟨f,hfi⟩:∃f,fs[i]? =some f:=⟨_,Yi (a8)⟩
  have hfn:=hf f (Yj hfi)
  rw[dV hfi,qF]at hI
  refine gk (k:=alc (k:=fun b2=>?_))
  refine go ?_
  refine d1_ rfl (xW f.name hfn) (k:=e_ asn (k:=on_ (qn_ (ws_ (ws_ (wr_ (e_ mv (k:=e_ oQ (k:=sp_ (mv) (k:=fun h4=>?_) (m:=fun h4=>?_))))))))))
  ·refine gk (k:=ift (k:=go ?_))
   refine gk (k:=rt_ Tryz.results64 (k:=?_))
   have hk:ij (cF f.name)=false∨fZ f=false:=by
    first
     |exact .inl (ay)
     |exact .inr (bP)
   rcases hk with hk|hk <;> exact⟨_,hsb,rfl, .inl ⟨cu,rfl⟩⟩
  refine eg_ fla (k:=eg_ ldv (k:=eg_ ilt (k:=e_ pkf (k:=sp_ (mv) (k:=fun h5=>?_) (m:=fun h5=>?_)))))
  ·refine gk (k:=ift (k:=go ?_))
   refine gk (k:=rt_ Tryz.results64 (k:=?_))
   have hk:ij (cF f.name)=false∨fZ f=false:=by
    first
     |exact .inl (ay)
     |exact .inr (bP)
   rcases hk with hk|hk <;> exact⟨_,hsb,rfl, .inl ⟨cu,rfl⟩⟩
  refine gk (k:=wi_ (k:=fun h6=>?_) (m:=fun h6=>?_))
  ·refine gk (k:=rt_ Tryz.results64 (k:=?_))
   have hk:ij (cF f.name)=false∨fZ f=false:=by
    first
     |exact .inl (ay)
     |exact .inr (bP)
   rcases hk with hk|hk <;> exact⟨_,hsb,rfl, .inl ⟨cu,rfl⟩⟩
  refine wk_ (qn_ (ws_ (ws_ (wr_ (e_ fla (k:=e_ ldv (k:=e_ ine (k:=sp_ (mv) (k:=fun h7=>?_) (m:=fun h7=>?_)))))))))
  ·refine eg_ fla (k:=eg_ ldv (k:=oP (mv) (k:=fun h8=>?_) (m:=fun h8=>?_)))
   ·refine gk (k:=ift (k:=go ?_))
    refine gk (k:=rt_ Tryz.results64 (k:=?_))
    have hk:fZ f=false:=by
     clear hI;unfold fZ;rw[if_neg (a8),if_pos (a8)];simp_all
    exact⟨_,hsb,rfl, .inl ⟨cu,rfl⟩⟩
   refine eg_ fla (k:=eg_ ldv (k:=eg_ pkf (k:=oP (mv) (k:=fun h9=>?_) (m:=fun h9=>?_))))
   ·refine gk (k:=ift (k:=go ?_))
    refine gk (k:=rt_ Tryz.results64 (k:=?_))
    have hk:fZ f=false:=by
     clear hI;unfold fZ;rw[if_neg (a8),if_pos (a8)];simp_all
    exact⟨_,hsb,rfl, .inl ⟨cu,rfl⟩⟩
   refine gk (k:=wi_ (k:=fun h10=>?_) (m:=fun h10=>?_))
   ·refine gk (k:=rt_ Tryz.results64 (k:=?_))
    have hk:fZ f=false:=by
     clear hI;unfold fZ;rw[if_neg (a8),if_pos (a8)];simp_all
    exact⟨_,hsb,rfl, .inl ⟨cu,rfl⟩⟩
   refine wk_ (qn_ (ws_ (wr_ (?_))))
   have hgn:ij (cF f.name)=true:=ay
   have hgk:fZ f=true:=by
    clear hI;unfold fZ
    by_cases hk1:f.kind=1
    ·rw[if_pos hk1]
    ·rw[if_neg hk1,if_pos (a8)];simp_all
   rw[hgn,hgk]at hI
   refine gk (k:=wl_ (Nat) (fun j=> j≤i∧∀j' g,j'<j→fs[j']? =some g→cF g.name≠cF f.name) (fun j=> [(1, .pointer (some ⟨b1,0,none⟩)),(3, .int .i64 ((i:Nat):Int)),(4, .pointer (some ⟨b2,0,none⟩)),(6, .int .i64 ((j:Nat):Int)),(18,s.val),(19, .int .i64 ((fs.length:Nat):Int)),(20, .int .i64 ((i:Nat):Int))]) (fun _=> Vr b2 [.string f.name, .int .i64 f.kind, .bool f.fold, .bool f.stop, .bool f.stem]::Vr b1 [s.val]::H) (fun j=> i - j) (0) (h0:=?_) (k:=?_))
   ·try dsimp only
    exact⟨Yl _,fun j' g h=> absurd h (Nat.not_lt_zero _)⟩
   rintro j ⟨hj,hall⟩
   try dsimp only at*
   refine gk (k:=wi_ (k:=fun h11=>?_) (m:=fun h11=>?_))
   ·obtain⟨g,hgj⟩:∃f,fs[j]? =some f:=⟨_,Yi (a8)⟩
    refine go ?_
    refine cW cL (as_ 0 (q:=fla) (k:=as_ 1 (q:=ldv) (k:=as_ 2 (q:=mv) (k:=?_))))
    refine cH 3 rfl rfl (aa) rfl (du (cO rfl rfl j rfl (a8))) (?_)
    refine as_ 4 (q:=fle) (k:=?_)
    refine cH 5 rfl rfl (aa) rfl (du (dA rfl (aI) g hgj (aI))) (?_)
    refine as_ 6 (q:=fla) (k:=as_ 7 (q:=ldv) (k:=?_))
    refine cH 8 rfl rfl (aa) rfl (du (nh rfl rfl)) (?_)
    refine az_ (k:=gk (k:=wi_ (k:=fun h12=>?_) (m:=fun h12=>?_)))
    ·refine go ?_
     refine gk (k:=rt_ Tryz.results64 (k:=?_))
     refine⟨_,hsb,rfl, .inl ⟨?_,rfl⟩⟩
     have hm:cF f.name∈(fs.take i).map nm:=by
         refine List.mem_map.2 ⟨g,?_,ay⟩
         exact Yj (i:=j) (by rw[List.getElem?_take_of_lt (a8)];exact hgj)
     rw[hI,Ys hm];all_goals rfl
    refine go ?_
    refine ln_ (j+1) (k:=?_)
    try dsimp only
    refine⟨a8,fun j' g' hj' hg'=> ?_⟩
    rcases Nat.lt_or_eq_of_le (Nat.le_of_lt_succ hj')with h|rfl
    ·exact hall j' g' h hg'
    ·rw[hgj]at hg';cases hg';assumption
   obtain rfl:i=j:=a8
   have hno:cF f.name ∉(fs.take i).map nm:=by
    intro hm
    obtain⟨g,hg,he⟩:=List.mem_map.1 hm
    obtain⟨k,hk⟩:=List.mem_iff_getElem?.1 hg
    have hkl:=(Yk.1 hk).1
    rw[Yg]at hkl
    rw[List.getElem?_take_of_lt (a8)]at hk
    exact hall k g (a8) hk he
   rw[Yr hno]at hI
   refine go ?_
   refine ln_ (i+1) (k:=?_)
   try dsimp only
   refine⟨a8,?_⟩
   rw[hI,cP hfi,List.map_append];all_goals rfl
  refine gk (k:=dw (k:=?_))
  refine wk_ (qn_ (ws_ (wr_ (?_))))
  have hgn:ij (cF f.name)=true:=ay
  have hgk:fZ f=true:=by
   clear hI;unfold fZ
   by_cases hk1:f.kind=1
   ·rw[if_pos hk1]
   ·rw[if_neg hk1,if_pos (a8)];simp_all
  rw[hgn,hgk]at hI
  refine gk (k:=wl_ (Nat) (fun j=> j≤i∧∀j' g,j'<j→fs[j']? =some g→cF g.name≠cF f.name) (fun j=> [(1, .pointer (some ⟨b1,0,none⟩)),(3, .int .i64 ((i:Nat):Int)),(4, .pointer (some ⟨b2,0,none⟩)),(6, .int .i64 ((j:Nat):Int)),(18,s.val),(19, .int .i64 ((fs.length:Nat):Int)),(20, .int .i64 ((i:Nat):Int))]) (fun _=> Vr b2 [.string f.name, .int .i64 f.kind, .bool f.fold, .bool f.stop, .bool f.stem]::Vr b1 [s.val]::H) (fun j=> i - j) (0) (h0:=?_) (k:=?_))
  ·try dsimp only
   exact⟨Yl _,fun j' g h=> absurd h (Nat.not_lt_zero _)⟩
  rintro j ⟨hj,hall⟩
  try dsimp only at*
  refine gk (k:=wi_ (k:=fun h13=>?_) (m:=fun h13=>?_))
  ·obtain⟨g,hgj⟩:∃f,fs[j]? =some f:=⟨_,Yi (a8)⟩
   refine go ?_
   refine cW cL (as_ 0 (q:=fla) (k:=as_ 1 (q:=ldv) (k:=as_ 2 (q:=mv) (k:=?_))))
   refine cH 3 rfl rfl (aa) rfl (du (cO rfl rfl j rfl (a8))) (?_)
   refine as_ 4 (q:=fle) (k:=?_)
   refine cH 5 rfl rfl (aa) rfl (du (dA rfl (aI) g hgj (aI))) (?_)
   refine as_ 6 (q:=fla) (k:=as_ 7 (q:=ldv) (k:=?_))
   refine cH 8 rfl rfl (aa) rfl (du (nh rfl rfl)) (?_)
   refine az_ (k:=gk (k:=wi_ (k:=fun h14=>?_) (m:=fun h14=>?_)))
   ·refine go ?_
    refine gk (k:=rt_ Tryz.results64 (k:=?_))
    refine⟨_,hsb,rfl, .inl ⟨?_,rfl⟩⟩
    have hm:cF f.name∈(fs.take i).map nm:=by
     refine List.mem_map.2 ⟨g,?_,ay⟩
     exact Yj (i:=j) (by rw[List.getElem?_take_of_lt (a8)];exact hgj)
    rw[hI,Ys hm];all_goals rfl
   refine go ?_
   refine ln_ (j+1) (k:=?_)
   try dsimp only
   refine⟨a8,fun j' g' hj' hg'=> ?_⟩
   rcases Nat.lt_or_eq_of_le (Nat.le_of_lt_succ hj')with h|rfl
   ·exact hall j' g' h hg'
   ·rw[hgj]at hg';cases hg';assumption
  obtain rfl:i=j:=a8
  have hno:cF f.name ∉(fs.take i).map nm:=by
   intro hm
   obtain⟨g,hg,he⟩:=List.mem_map.1 hm
   obtain⟨k,hk⟩:=List.mem_iff_getElem?.1 hg
   have hkl:=(Yk.1 hk).1
   rw[Yg]at hkl
   rw[List.getElem?_take_of_lt (a8)]at hk
   exact hall k g (a8) hk he
  rw[Yr hno]at hI
  refine go ?_
  refine ln_ (i+1) (k:=?_)
  try dsimp only
  refine⟨a8,?_⟩
  rw[hI,cP hfi,List.map_append];all_goals rfl
 obtain rfl:i=fs.length:=a8
 rw[List.drop_of_length_le (Nat.le_refl _),qF]at hI
 refine gk (k:=rt_ Tryz.results64 (k:=?_))
 exact⟨_,hsb,rfl, .inr ⟨hI,rfl⟩⟩
theorem Kw {f:FV}(h:0≤f.kind):((kB f:Nat):Int)=f.kind+(if f.fold=true then 4 else 0)+(if f.stop=true then 8 else 0)+(if f.stem=true then 16 else 0):=by
 unfold kB
 split <;> split <;> split <;> omega
theorem B6 {G:cM}{H:cG}{s:SV}{fs:List FV} [hs:Sl H s eF fs] (hn:fs.length≤1000000000) (hf:∀f∈fs,f.name.size≤1000000000000):SC G Tryz.prog 31 [.agg [s.val].toArray] H (fun v H'=> (e7 fs=false∧∃s':SV,v= .tuple #[s'.val, .int .i64 11]∧H'=H)∨(e7 fs=true∧∃s':SV,v= .tuple #[s'.val, .int .i64 0]∧H'=Row s' eB (fq fs)::H)):=by
 refine sWk Tryz.func31 Tryz.ntmps31 ?_
 refine gk (k:=bxx (k:=fun b1=>?_))
 refine go ?_
 refine c1_ rfl (tK hn hf) (k:=?_)
 rintro v1 H1 ⟨rfl,hK⟩
 rcases hK with⟨hc,rfl⟩|⟨hc,rfl⟩
 ·refine gk (k:=ift (k:=go ?_))
  refine s_ (cZ eB rfl) (k:=?_)
  rintro _ _ ⟨s0,rfl,rfl⟩
  refine gk (k:=rt_ Tryz.results31 (k:=?_))
  exact⟨_,hsb, .inl ⟨hc,s0,rfl,rfl⟩⟩
 obtain⟨⟨hl1,hl2⟩,hfl⟩:=eG hc
 refine e_ asn (k:=on_ (qn_ (ws_ (ws_ (wr_ (e_ mv (k:=e_ ine (k:=on_ (qn_ (dw (k:=wk_ (qn_ (ws_ (?_))))))))))))))
 refine wr_ (e_ fla (k:=e_ ldv (k:=e_ lnn (k:=?_))))
 refine e_ (cS 18446744073709551616 rfl rfl rfl fs.length rfl (a8)) (k:=?_)
 refine c1_ rfl (mT fs.length (a8)) (k:=?_)
 rintro _ _ ⟨s1,rfl,rfl⟩
 refine gk (k:=wl_ (SV×Nat×List Nat) (fun y=> y.2.1≤fs.length∧y.2.2=uv fs.length++gC (fs.take y.2.1)∧y.2.2.length≤100+100*y.2.1) (fun y=> [(5,y.1.val),(21,s.val),(22, .int .i64 ((fs.length:Nat):Int)),(23, .int .i64 ((y.2.1:Nat):Int))]) (fun y=> Row y.1 eB y.2.2::H) (fun y=> fs.length - y.2.1) ((s1,0,uv fs.length)) (h0:=?_) (k:=?_))
 ·try dsimp only
  have:=dc (n:=fs.length) (a8)
  exact⟨Yl _,cC,a8⟩
 rintro⟨so,i,zs⟩ ⟨hi,hI,hzl⟩
 try dsimp only at*
 refine gk (k:=wi_ (k:=fun h1=>?_) (m:=fun h1=>?_))
 ·obtain⟨f,hfi⟩:∃f,fs[i]? =some f:=⟨_,Yi (a8)⟩
  obtain⟨hfn,hk1,hk2⟩:=hfl f (Yj hfi)
  have hul:=dc (n:=f.name.size) (a8)
  have hbl:=cJ f.name
  have hkB:=Kw (f:=f) (a8)
  have hk31:=(zY (f:=f) (a8) hk2).2
  have hel:(eM f).length≤100:=cD
  refine gk (k:=alc (k:=fun b2=>?_))
  refine go ?_
  refine c1_ rfl (B4 f.name (a8)) (k:=?_)
  rintro _ _ ⟨s2,rfl,rfl⟩
  refine app (hlim:=by simp only[Ya];omega) (hlim2:=by simp only[Ya];omega) (k:=fun s3=>?_)
  refine go ?_
  refine gk (k:=wi_ (k:=fun h2=>?_) (m:=fun h2=>?_))
  ·refine gk (k:=wi_ (k:=fun h3=>?_) (m:=fun h3=>?_))
   ·refine gk (k:=wi_ (k:=fun h4=>?_) (m:=fun h4=>?_))
    ·refine wr_ (e_ mv (k:=e_ iad (k:=e_ asn (k:=on_ (qn_ (wr_ (?_)))))))
     simp only[*,Bool.false_eq_true,↓reduceIte]at hkB
     refine e_ mv (k:=e_ mv (k:=?_))
     refine e_ (cS 256 rfl rfl rfl (kB f) (a8) (a8)) (k:=?_)
     refine dD eB (k:=fun s4=>?_)
     refine app (hlim:=by simp only[Ya,Yb,Yc];omega) (hlim2:=by simp only[Ya,Yb,Yc];omega) (k:=fun s5=>?_)
     refine go ?_
     refine ln_ ((s5,i+1,zs++eM f)) (h4:=?_) (k:=?_)
     ·try dsimp only
      rw[show zs++eM f=zs++(uv f.name.size++cF f.name)++ [kB f]from bf]
      exact hsb
     try dsimp only
     refine⟨a8,?_,ah⟩
     rw[hI,cP hfi,eh,Yf]
    refine wk_ (qn_ (wr_ (?_)))
    simp only[*,Bool.false_eq_true,↓reduceIte]at hkB
    refine e_ mv (k:=e_ mv (k:=?_))
    refine e_ (cS 256 rfl rfl rfl (kB f) (a8) (a8)) (k:=?_)
    refine dD eB (k:=fun s4=>?_)
    refine app (hlim:=by simp only[Ya,Yb,Yc];omega) (hlim2:=by simp only[Ya,Yb,Yc];omega) (k:=fun s5=>?_)
    refine go ?_
    refine ln_ ((s5,i+1,zs++eM f)) (h4:=?_) (k:=?_)
    ·try dsimp only
     rw[show zs++eM f=zs++(uv f.name.size++cF f.name)++ [kB f]from bf]
     exact hsb
    try dsimp only
    refine⟨a8,?_,ah⟩
    rw[hI,cP hfi,eh,Yf]
   refine gk (k:=wi_ (k:=fun h5=>?_) (m:=fun h5=>?_))
   ·refine wr_ (e_ mv (k:=e_ iad (k:=e_ asn (k:=on_ (qn_ (wr_ (?_)))))))
    simp only[*,Bool.false_eq_true,↓reduceIte]at hkB
    refine e_ mv (k:=e_ mv (k:=?_))
    refine e_ (cS 256 rfl rfl rfl (kB f) (a8) (a8)) (k:=?_)
    refine dD eB (k:=fun s4=>?_)
    refine app (hlim:=by simp only[Ya,Yb,Yc];omega) (hlim2:=by simp only[Ya,Yb,Yc];omega) (k:=fun s5=>?_)
    refine go ?_
    refine ln_ ((s5,i+1,zs++eM f)) (h4:=?_) (k:=?_)
    ·try dsimp only
     rw[show zs++eM f=zs++(uv f.name.size++cF f.name)++ [kB f]from bf]
     exact hsb
    try dsimp only
    refine⟨a8,?_,ah⟩
    rw[hI,cP hfi,eh,Yf]
   refine wk_ (qn_ (wr_ (?_)))
   simp only[*,Bool.false_eq_true,↓reduceIte]at hkB
   refine e_ mv (k:=e_ mv (k:=?_))
   refine e_ (cS 256 rfl rfl rfl (kB f) (a8) (a8)) (k:=?_)
   refine dD eB (k:=fun s4=>?_)
   refine app (hlim:=by simp only[Ya,Yb,Yc];omega) (hlim2:=by simp only[Ya,Yb,Yc];omega) (k:=fun s5=>?_)
   refine go ?_
   refine ln_ ((s5,i+1,zs++eM f)) (h4:=?_) (k:=?_)
   ·try dsimp only
    rw[show zs++eM f=zs++(uv f.name.size++cF f.name)++ [kB f]from bf]
    exact hsb
   try dsimp only
   refine⟨a8,?_,ah⟩
   rw[hI,cP hfi,eh,Yf]
  refine gk (k:=wi_ (k:=fun h6=>?_) (m:=fun h6=>?_))
  ·refine gk (k:=wi_ (k:=fun h7=>?_) (m:=fun h7=>?_))
   ·refine wr_ (e_ mv (k:=e_ iad (k:=e_ asn (k:=on_ (qn_ (wr_ (?_)))))))
    simp only[*,Bool.false_eq_true,↓reduceIte]at hkB
    refine e_ mv (k:=e_ mv (k:=?_))
    refine e_ (cS 256 rfl rfl rfl (kB f) (a8) (a8)) (k:=?_)
    refine dD eB (k:=fun s4=>?_)
    refine app (hlim:=by simp only[Ya,Yb,Yc];omega) (hlim2:=by simp only[Ya,Yb,Yc];omega) (k:=fun s5=>?_)
    refine go ?_
    refine ln_ ((s5,i+1,zs++eM f)) (h4:=?_) (k:=?_)
    ·try dsimp only
     rw[show zs++eM f=zs++(uv f.name.size++cF f.name)++ [kB f]from bf]
     exact hsb
    try dsimp only
    refine⟨a8,?_,ah⟩
    rw[hI,cP hfi,eh,Yf]
   refine wk_ (qn_ (wr_ (?_)))
   simp only[*,Bool.false_eq_true,↓reduceIte]at hkB
   refine e_ mv (k:=e_ mv (k:=?_))
   refine e_ (cS 256 rfl rfl rfl (kB f) (a8) (a8)) (k:=?_)
   refine dD eB (k:=fun s4=>?_)
   refine app (hlim:=by simp only[Ya,Yb,Yc];omega) (hlim2:=by simp only[Ya,Yb,Yc];omega) (k:=fun s5=>?_)
   refine go ?_
   refine ln_ ((s5,i+1,zs++eM f)) (h4:=?_) (k:=?_)
   ·try dsimp only
    rw[show zs++eM f=zs++(uv f.name.size++cF f.name)++ [kB f]from bf]
    exact hsb
   try dsimp only
   refine⟨a8,?_,ah⟩
   rw[hI,cP hfi,eh,Yf]
  refine gk (k:=wi_ (k:=fun h8=>?_) (m:=fun h8=>?_))
  ·refine wr_ (e_ mv (k:=e_ iad (k:=e_ asn (k:=on_ (qn_ (wr_ (?_)))))))
   simp only[*,Bool.false_eq_true,↓reduceIte]at hkB
   refine e_ mv (k:=e_ mv (k:=?_))
   refine e_ (cS 256 rfl rfl rfl (kB f) (a8) (a8)) (k:=?_)
   refine dD eB (k:=fun s4=>?_)
   refine app (hlim:=by simp only[Ya,Yb,Yc];omega) (hlim2:=by simp only[Ya,Yb,Yc];omega) (k:=fun s5=>?_)
   refine go ?_
   refine ln_ ((s5,i+1,zs++eM f)) (h4:=?_) (k:=?_)
   ·try dsimp only
    rw[show zs++eM f=zs++(uv f.name.size++cF f.name)++ [kB f]from bf]
    exact hsb
   try dsimp only
   refine⟨a8,?_,ah⟩
   rw[hI,cP hfi,eh,Yf]
  refine wk_ (qn_ (wr_ (?_)))
  simp only[*,Bool.false_eq_true,↓reduceIte]at hkB
  refine e_ mv (k:=e_ mv (k:=?_))
  refine e_ (cS 256 rfl rfl rfl (kB f) (a8) (a8)) (k:=?_)
  refine dD eB (k:=fun s4=>?_)
  refine app (hlim:=by simp only[Ya,Yb,Yc];omega) (hlim2:=by simp only[Ya,Yb,Yc];omega) (k:=fun s5=>?_)
  refine go ?_
  refine ln_ ((s5,i+1,zs++eM f)) (h4:=?_) (k:=?_)
  ·try dsimp only
   rw[show zs++eM f=zs++(uv f.name.size++cF f.name)++ [kB f]from bf]
   exact hsb
  try dsimp only
  refine⟨a8,?_,ah⟩
  rw[hI,cP hfi,eh,Yf]
 obtain rfl:i=fs.length:=a8
 rw[List.take_length]at hI
 have hI':zs=fq fs:=hI
 subst hI'
 refine gk (k:=rt_ Tryz.results31 (k:=?_))
 exact⟨_,hsb, .inr ⟨hc,so,rfl,rfl⟩⟩
end Go.Sx
