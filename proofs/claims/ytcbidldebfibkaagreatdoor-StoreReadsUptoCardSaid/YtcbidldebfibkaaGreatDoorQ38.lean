import Derived.Test.YtcbidldebfibkaaGreatDoorQ37
set_option linter.unusedVariables false
set_option linter.unusedSimpArgs false
set_option linter.unusedSectionVars false
set_option linter.unnecessarySimpa false
set_option maxHeartbeats 0
namespace Go.Sx
open Go Go.Proofs
set_option maxRecDepth 100000
structure XG where
 s1:SV
 s2:SV
 q:List Nat×List Int
def xgV (x:XG):SV×SV:=(x.s1,x.s2)
def xgH (x:XG):cG:= [Row x.s1 eB x.q.1,Row x.s2 eI x.q.2]
theorem sJ {l:List XG}(x:XG) {H:cG}:cK (Row x.s1 eB x.q.1::Row x.s2 eI x.q.2::Cl xgH l::H) (Cl xgH (l++ [x])::H):=lW (f:=xgH) x
theorem Ja {H R:cG}{xs:List XG}(hr:mL H (Cl xgH xs) R):iA H (xs.map xgV) (xs.map (·.q)):=by
 refine⟨aj,fun i p q hp hq=> ?_⟩
 rw[Xd]at hp hq
 cases hi:xs[i]? with
 |none=> rw[hi]at hp;cases hp
 |some z=>
  rw[hi]at hp hq
  obtain rfl:=Option.some.inj hp
  obtain rfl:=Option.some.inj hq
  have ho:=km (f:=xgH) (H:=R) hi
  exact⟨fy (eV hr ho) (inferInstanceAs (Sl (Row z.s1 eB z.q.1::Row z.s2 eI z.q.2::_) z.s1 eB z.q.1)),fy (eV hr ho) (inferInstanceAs (Sl (Row z.s1 eB z.q.1::Row z.s2 eI z.q.2::_) z.s2 eI z.q.2))⟩
theorem wN {hs:List HG}{i:Nat}{h:HG}{H:cG}(he:hs[i]? =some h):cK (Cl hgH hs::H) (Vr h.g.b (sgV h.g)::Row h.g.sd eD (h.g.zs.map dgV)::Cl dgH h.g.zs::Row h.g.sa eB h.g.xs::Ds h.b ⟨h.g.zs.length,h.c,h.ws⟩::Cl hgH (hs.take i)::Cl hgH (hs.drop (i+1))::H):=km (f:=hgH) he
theorem CF {H H':cG}{b:Nat}{l:List Value}(h:cK H H') (hs:dh H' b l):dh H b l:=⟨fun L hL=> by
 obtain⟨L',M,h1,h2⟩:=h L hL
 obtain⟨E,fz,hm⟩:=hs.mem L' h1
 exact⟨E,fz,h2.mem_iff.1 (Yy M hm)⟩⟩
theorem Bu {G:cM}{H R:cG}{hs:List HG}{i:Nat}{h:HG}(hr:mL H (Cl hgH hs) R) (he:hs[i]? =some h) (hne:h.g.xs≠ []) (hn:h.g.xs.length≤1000000000):SC G Tryz.prog 59 [.pointer (some ⟨h.g.b,0,none⟩)] H (fun v H'=> ∃s':SV,v=s'.val∧H'=Row s' eB h.g.xs::H):=by
 haveI h1:dh H h.g.b [h.g.v0,h.g.sd.val,h.g.v2,h.g.v3,h.g.v4,h.g.sa.val]:=CF (eV hr (wN he)) (inferInstanceAs (dh (Vr h.g.b [h.g.v0,h.g.sd.val,h.g.v2,h.g.v3,h.g.v4,h.g.sa.val]::_) h.g.b _))
 haveI h2:Sl H h.g.sa eB h.g.xs:=fy (eV hr (wN he)) inferInstance
 exact BX hne hn
theorem vI {G:cM}{H R:cG}{hs:List HG}{i:Nat}{h:HG} [qO R 25 tzT] (hr:mL H (Cl hgH hs) R) (he:hs[i]? =some h) (hok:Da h) (hd:h.dead.length≤100000000):SC G Tryz.prog 60 [.pointer (some ⟨h.b,0,none⟩)] H (fun v H'=> ∃s':SV,v=s'.val∧H'=Row s' eI h.dead::Cl hgH hs::R):=by
 have hf:=hok.few
 have hc:=hok.cnt
 refine SC.out (SC.less (H':=Ds h.b ⟨h.g.zs.length,h.c,h.ws⟩::Vr h.g.b (sgV h.g)::Row h.g.sd eD (h.g.zs.map dgV)::Cl dgH h.g.zs::Row h.g.sa eB h.g.xs::Cl hgH (hs.take i)::Cl hgH (hs.drop (i+1))::R) ((eV hr (wN he)).trans hsb) ?_)
 refine Jg (p:=⟨h.g.zs.length,h.c,h.ws⟩) (b:=h.b) inferInstance fun s=> ?_
 refine(Dy (n:=h.g.zs.length) (c:=h.c) (s:=s) (ws:=h.ws) (dead:=h.dead) (a8) (a8) hok.len hok.okw hok.bits hok.inr hok.rise hd).mono ?_
 rintro v H' ⟨s',rfl,rfl⟩
 refine⟨Row s' eI h.dead::Cl hgH hs::R,cK.keep (BD.trans (cK.trans (H':=Vr h.g.b (sgV h.g)::Row h.g.sd eD (h.g.zs.map dgV)::Cl dgH h.g.zs::Row h.g.sa eB h.g.xs::Ds h.b ⟨h.g.zs.length,h.c,h.ws⟩::Cl hgH (hs.take i)::Cl hgH (hs.drop (i+1))::R) hsb ?_)),s',rfl,rfl⟩
 have h1:=qE (f:=hgH) (l:=hs) (i:=i) (H:=R) h (Yk.1 he).1
 rw[xN he]at h1
 exact h1
theorem LM {G:cM}{H:cG}{be:Nat}{sf:SV}{nx:Int}{v2:Value}{on:Bool} [dh H be [sf.val, .int .i64 nx,v2,SV.nil.val, .bool on]]:SC G Tryz.prog 57 [.pointer (some ⟨be,0,none⟩)] H (fun v H'=> v= .tuple #[]∧H'=H):=by
 refine sWk Tryz.func57 Tryz.ntmps57 ?_
 refine go ?_
 refine dE (cK.nilRow (e:=eD) cK.refl) ?_
 refine gk (k:=wi_ (k:=fun h1=>?_) (m:=fun h1=>?_))
 ·refine gk (k:=rt_ Tryz.results57 (k:=?_))
  exact⟨_,hsb,rfl,rfl⟩
 exact absurd rfl h1
theorem Mc {G:cM}{H:cG}{be:Nat}{sf:SV}{nx:Int}{v2:Value}{on:Bool} [dh H be [sf.val, .int .i64 nx,v2,SV.nil.val, .bool on]]:SC G Tryz.prog 61 [.pointer (some ⟨be,0,none⟩)] H (fun v H'=> v= .tuple #[]∧H'=H):=by
 refine sWk Tryz.func61 Tryz.ntmps61 ?_
 refine go ?_
 refine dE (cK.nilRow (e:=eD) cK.refl) ?_
 refine gk (k:=wi_ (k:=fun h1=>?_) (m:=fun h1=>?_))
 ·refine gk (k:=rt_ Tryz.results61 (k:=?_))
  exact⟨_,hsb,rfl,rfl⟩
 exact absurd rfl h1
theorem FZ {G:cM}{H:cG}{be:Nat}{s1 sh:SV}{n:Int}{fs:List FV}{hs:List HG} [qO H 25 tzT] (hne:fs≠ []) (hfl:fs.length≤1000000) (hho:∀h∈hs,Da h) (hhl:hs.length≤100000000) (hhb:∀h∈hs,h.g.xs.length≤1000000000∧h.dead.length≤100000000):
 SC G Tryz.prog 28 [.pointer (some ⟨be,0,none⟩)] (Vr be [s1.val, .int .i64 n,sh.val,SV.nil.val, .bool true]::Row s1 eF fs::Row sh eH (hs.map hgV)::Cl hgH hs::H) (fun v H'=> ∃(sf sp:SV) (xl:List XG),v= .agg [sf.val, .int .i64 n,sp.val].toArray∧xl.map (·.q)=hs.map hgQ∧H'=Row sf eF fs::Row sp eP (xl.map xgV)::Cl xgH xl::H):=by
 have hhm:(hs.map hgV).length=hs.length:=Yh ..
 refine sWk Tryz.func28 Tryz.ntmps28 ?_
 refine gk (k:=alc (k:=fun b2=>?_))
 refine go ?_
 refine d1_ rfl (LM) (k:=go ?_)
 refine di cL (fun i=> [4,10,11].contains i) (fun k H=> (k=3→dh H be [s1.val, .int .i64 n,sh.val,SV.nil.val, .bool true])∧(k=8→dh H be [s1.val, .int .i64 n,sh.val,SV.nil.val, .bool true])) (af_ 0 (q:=cE fun H hH=>mv) (k:=af_ 1 (q:=cE fun H hH=>nck) (k:=af_ 2 (q:=cE fun H hH=>fla) (k:=?_))))
 refine cH 3 rfl rfl (aa) rfl (cE fun H hH=>aF) (?_)
 refine af_ 5 (q:=cE fun H hH=>mv) (k:=af_ 6 (q:=cE fun H hH=>nck) (k:=af_ 7 (q:=cE fun H hH=>fla) (k:=?_)))
 refine cH 8 rfl rfl (aa) rfl (cE fun H hH=>aK) (?_)
 refine uO 4 10 rfl rfl (aa) rfl rfl (fun k hk=> ⟨fun hi=> ab,fun hi=> ab⟩) (dm (vs:= [_]) rfl (G9 (fs:=fs) hne (a8))) (kr) ?_ ?_
 ·rintro _ _ ⟨sf,rfl,rfl⟩
  refine af_ 9 (q:=cE fun H hH=>bld [(0,_),(1,_)]) (k:=?_)
  refine cQ 10 rfl (aa) rfl (fun k hk=> ⟨fun hi=> absurd hk (ad),fun hi=> ab⟩) (kr) ?_
  rintro _ _ ⟨b3,rfl,rfl⟩
  refine cQ 11 rfl (aa) rfl (fun k hk=> ⟨fun hi=> absurd hk (ad),fun hi=> ab⟩) (dk rfl rfl rfl) ?_
  rintro _ _ ⟨rfl,rfl⟩
  refine db (aa) (fun k hk=> ⟨fun hi=> absurd hk (ad),fun hi=> absurd hk (ad)⟩) (qn_ (ws_ (ws_ (wr_ (?_)))))
  refine dE (cK.nilRow (e:=eP) (eA (f:=xgH) cK.refl)) ?_
  rw[show Row SV.nil eP ([]:List (SV×SV))=Row SV.nil eP (([]:List XG).map xgV)from rfl]
  refine gk (k:=dn (Nat×SV×(List XG)) (fun y=> y.1≤hs.length∧y.2.2.length=y.1∧y.2.2.map (·.q)=(hs.take y.1).map hgQ) (fun y=> [(23, .int .i64 ((y.1:Nat):Int))]) [(2,_),(3,_),(21,_),(22,_)] (fun y=> [Vr b3 [sf.val, .int .i64 n,y.2.1.val],Row y.2.1 eP (y.2.2.map xgV),Cl xgH y.2.2]) (Row sf eF fs::Vr be [s1.val, .int .i64 n,sh.val,SV.nil.val, .bool true]::Row s1 eF fs::Row sh eH (hs.map hgV)::Vr b2 [SV.nil.val, .int .i64 0,SV.nil.val]::Cl hgH hs::H) (fun y=> hs.length - y.1) ((0,SV.nil, [])) (h0:=?_) (k:=?_))
  ·try dsimp only
   exact⟨Yl _,rfl,rfl⟩
  rintro⟨i,u,xl⟩ ⟨hi,hxl,hxq⟩
  try dsimp only[Yd,Ye]at*
  refine gk (k:=wi_ (k:=fun h1=>?_) (m:=fun h1=>?_))
  ·obtain⟨h,hh⟩:∃h,hs[i]? =some h:=⟨_,Yi (a8)⟩
   have hhv:(hs.map hgV)[i]? =some (h.g.b,h.b):=by rw[Xd,hh];all_goals rfl
   have hok:=hho h (Yj hh)
   obtain⟨hb1,hb2⟩:=hhb h (Yj hh)
   have hxm:(xl.map xgV).length=xl.length:=Yh ..
   refine gk (k:=alc (k:=fun b5=>?_))
   refine go ?_
   refine di cL (fun i=> [4,7,9,10,12].contains i) (fun k H=> (k=1→dh H b3 [sf.val, .int .i64 n,u.val])∧(k=3→dh H b5 [.pointer (some ⟨h.g.b,0,none⟩), .pointer (some ⟨h.b,0,none⟩)])∧(k=6→dh H b5 [.pointer (some ⟨h.g.b,0,none⟩), .pointer (some ⟨h.b,0,none⟩)])) (af_ 0 (q:=cE fun H hH=>fla) (k:=?_))
   refine cH 1 rfl rfl (aa) rfl (cE fun H hH=>aD) (?_)
   refine af_ 2 (q:=cE fun H hH=>fla) (k:=?_)
   refine cH 3 rfl rfl (aa) rfl (cE fun H hH=>aO) (?_)
   refine af_ 5 (q:=cE fun H hH=>fla) (k:=?_)
   refine cH 6 rfl rfl (aa) rfl (cE fun H hH=>c9) (?_)
   refine cQ 4 rfl (aa) rfl (fun k hk=> ⟨fun hi=> ab,fun hi=> ab,fun hi=> ab⟩) (dm (vs:= [_]) rfl (Bu (hs:=hs) inferInstance hh hok.ne hb1)) ?_
   rintro _ _ ⟨s31,rfl,rfl⟩
   refine cQ 7 rfl (aa) rfl (fun k hk=> ⟨fun hi=> ab,fun hi=> absurd hk (ad),fun hi=> ab⟩) (dm (vs:= [_]) rfl (vI (hs:=hs) inferInstance hh hok hb2)) ?_
   rintro _ _ ⟨s34,rfl,rfl⟩
   refine af_ 8 (q:=cE fun H hH=>bld [(0,_),(1,_)]) (k:=?_)
   refine cQ 9 rfl (aa) rfl (fun k hk=> ⟨fun hi=> ab,fun hi=> absurd hk (ad),fun hi=> absurd hk (ad)⟩) (dW eP rfl rfl) ?_
   rintro _ _ ⟨s36,rfl,rfl⟩
   refine cQ 10 rfl (aa) rfl (fun k hk=> ⟨fun hi=> ab,fun hi=> absurd hk (ad),fun hi=> absurd hk (ad)⟩) (ek rfl rfl rfl rfl (af) (af)) ?_
   rintro _ _ ⟨s37,rfl,rfl⟩
   refine af_ 11 (q:=cE fun H hH=>fla) (k:=?_)
   refine cQ 12 rfl (aa) rfl (fun k hk=> ⟨fun hi=> absurd hk (ad),fun hi=> absurd hk (ad),fun hi=> absurd hk (ad)⟩) (dk rfl rfl rfl) ?_
   rintro _ _ ⟨rfl,rfl⟩
   rw[show xl.map xgV++ [(s31,s34)]=(xl++ [(⟨s31,s34,(h.g.xs,h.dead)⟩:XG)]).map xgV from by simp[xgV]]
   refine db (aa) (fun k hk=> ⟨fun hi=> absurd hk (ad),fun hi=> absurd hk (ad),fun hi=> absurd hk (ad)⟩) (bn_ (qn_ (wr_ (?_))))
   refine dE (cK.trans (H':=Row s31 eB h.g.xs::Row s34 eI h.dead::Cl xgH xl::Vr b3 [sf.val, .int .i64 n,s37.val]::Row s37 eP ((xl++ [(⟨s31,s34,(h.g.xs,h.dead)⟩:XG)]).map xgV)::Row sf eF fs::Vr be [s1.val, .int .i64 n,sh.val,SV.nil.val, .bool true]::Row s1 eF fs::Row sh eH (hs.map hgV)::Vr b2 [SV.nil.val, .int .i64 0,SV.nil.val]::Cl hgH hs::H) (hsb) (sJ ⟨s31,s34,(h.g.xs,h.dead)⟩)) ?_
   refine go ?_
   refine ln_ ((i+1,s37,xl++ [⟨s31,s34,(h.g.xs,h.dead)⟩])) (k:=?_)
   try dsimp only
   exact⟨a8,au,by rw[List.map_append,hxq,cP hh];simp[hgQ]⟩
  have hii:i=hs.length:=a8
  rw[hii,List.take_length]at hxq
  refine gk (k:=rt_ Tryz.results28 (k:=?_))
  exact⟨_,hsb,sf,u,xl,rfl,hxq,rfl⟩
 rintro _ _ ⟨b3,rfl,rfl⟩
 refine cQ 4 rfl (aa) rfl (fun k hk=> ⟨fun hi=> ab,fun hi=> ab⟩) (dm (vs:= [_]) rfl (G9 (fs:=fs) hne (a8))) ?_
 rintro _ _ ⟨sf,rfl,rfl⟩
 refine af_ 9 (q:=cE fun H hH=>bld [(0,_),(1,_)]) (k:=?_)
 refine cQ 11 rfl (aa) rfl (fun k hk=> ⟨fun hi=> absurd hk (ad),fun hi=> ab⟩) (dk rfl rfl rfl) ?_
 rintro _ _ ⟨rfl,rfl⟩
 refine db (aa) (fun k hk=> ⟨fun hi=> absurd hk (ad),fun hi=> absurd hk (ad)⟩) (qn_ (ws_ (ws_ (wr_ (?_)))))
 refine dE (cK.nilRow (e:=eP) (eA (f:=xgH) cK.refl)) ?_
 rw[show Row SV.nil eP ([]:List (SV×SV))=Row SV.nil eP (([]:List XG).map xgV)from rfl]
 refine gk (k:=dn (Nat×SV×(List XG)) (fun y=> y.1≤hs.length∧y.2.2.length=y.1∧y.2.2.map (·.q)=(hs.take y.1).map hgQ) (fun y=> [(23, .int .i64 ((y.1:Nat):Int))]) [(2,_),(3,_),(21,_),(22,_)] (fun y=> [Vr b3 [sf.val, .int .i64 n,y.2.1.val],Row y.2.1 eP (y.2.2.map xgV),Cl xgH y.2.2]) (Row sf eF fs::Vr be [s1.val, .int .i64 n,sh.val,SV.nil.val, .bool true]::Row s1 eF fs::Row sh eH (hs.map hgV)::Vr b2 [SV.nil.val, .int .i64 0,SV.nil.val]::Cl hgH hs::H) (fun y=> hs.length - y.1) ((0,SV.nil, [])) (h0:=?_) (k:=?_))
 ·try dsimp only
  exact⟨Yl _,rfl,rfl⟩
 rintro⟨i,u,xl⟩ ⟨hi,hxl,hxq⟩
 try dsimp only[Yd,Ye]at*
 refine gk (k:=wi_ (k:=fun h2=>?_) (m:=fun h2=>?_))
 ·obtain⟨h,hh⟩:∃h,hs[i]? =some h:=⟨_,Yi (a8)⟩
  have hhv:(hs.map hgV)[i]? =some (h.g.b,h.b):=by rw[Xd,hh];all_goals rfl
  have hok:=hho h (Yj hh)
  obtain⟨hb1,hb2⟩:=hhb h (Yj hh)
  have hxm:(xl.map xgV).length=xl.length:=Yh ..
  refine gk (k:=alc (k:=fun b5=>?_))
  refine go ?_
  refine di cL (fun i=> [4,7,9,10,12].contains i) (fun k H=> (k=1→dh H b3 [sf.val, .int .i64 n,u.val])∧(k=3→dh H b5 [.pointer (some ⟨h.g.b,0,none⟩), .pointer (some ⟨h.b,0,none⟩)])∧(k=6→dh H b5 [.pointer (some ⟨h.g.b,0,none⟩), .pointer (some ⟨h.b,0,none⟩)])) (af_ 0 (q:=cE fun H hH=>fla) (k:=?_))
  refine cH 1 rfl rfl (aa) rfl (cE fun H hH=>aD) (?_)
  refine af_ 2 (q:=cE fun H hH=>fla) (k:=?_)
  refine cH 3 rfl rfl (aa) rfl (cE fun H hH=>aO) (?_)
  refine af_ 5 (q:=cE fun H hH=>fla) (k:=?_)
  refine cH 6 rfl rfl (aa) rfl (cE fun H hH=>c9) (?_)
  refine cQ 4 rfl (aa) rfl (fun k hk=> ⟨fun hi=> ab,fun hi=> ab,fun hi=> ab⟩) (dm (vs:= [_]) rfl (Bu (hs:=hs) inferInstance hh hok.ne hb1)) ?_
  rintro _ _ ⟨s31,rfl,rfl⟩
  refine cQ 7 rfl (aa) rfl (fun k hk=> ⟨fun hi=> ab,fun hi=> absurd hk (ad),fun hi=> ab⟩) (dm (vs:= [_]) rfl (vI (hs:=hs) inferInstance hh hok hb2)) ?_
  rintro _ _ ⟨s34,rfl,rfl⟩
  refine af_ 8 (q:=cE fun H hH=>bld [(0,_),(1,_)]) (k:=?_)
  refine cQ 9 rfl (aa) rfl (fun k hk=> ⟨fun hi=> ab,fun hi=> absurd hk (ad),fun hi=> absurd hk (ad)⟩) (dW eP rfl rfl) ?_
  rintro _ _ ⟨s36,rfl,rfl⟩
  refine cQ 10 rfl (aa) rfl (fun k hk=> ⟨fun hi=> ab,fun hi=> absurd hk (ad),fun hi=> absurd hk (ad)⟩) (ek rfl rfl rfl rfl (af) (af)) ?_
  rintro _ _ ⟨s37,rfl,rfl⟩
  refine af_ 11 (q:=cE fun H hH=>fla) (k:=?_)
  refine cQ 12 rfl (aa) rfl (fun k hk=> ⟨fun hi=> absurd hk (ad),fun hi=> absurd hk (ad),fun hi=> absurd hk (ad)⟩) (dk rfl rfl rfl) ?_
  rintro _ _ ⟨rfl,rfl⟩
  rw[show xl.map xgV++ [(s31,s34)]=(xl++ [(⟨s31,s34,(h.g.xs,h.dead)⟩:XG)]).map xgV from by simp[xgV]]
  refine db (aa) (fun k hk=> ⟨fun hi=> absurd hk (ad),fun hi=> absurd hk (ad),fun hi=> absurd hk (ad)⟩) (bn_ (qn_ (wr_ (?_))))
  refine dE (cK.trans (H':=Row s31 eB h.g.xs::Row s34 eI h.dead::Cl xgH xl::Vr b3 [sf.val, .int .i64 n,s37.val]::Row s37 eP ((xl++ [(⟨s31,s34,(h.g.xs,h.dead)⟩:XG)]).map xgV)::Row sf eF fs::Vr be [s1.val, .int .i64 n,sh.val,SV.nil.val, .bool true]::Row s1 eF fs::Row sh eH (hs.map hgV)::Vr b2 [SV.nil.val, .int .i64 0,SV.nil.val]::Cl hgH hs::H) (hsb) (sJ ⟨s31,s34,(h.g.xs,h.dead)⟩)) ?_
  refine go ?_
  refine ln_ ((i+1,s37,xl++ [⟨s31,s34,(h.g.xs,h.dead)⟩])) (k:=?_)
  try dsimp only
  exact⟨a8,au,by rw[List.map_append,hxq,cP hh];simp[hgQ]⟩
 have hii:i=hs.length:=a8
 rw[hii,List.take_length]at hxq
 refine gk (k:=rt_ Tryz.results28 (k:=?_))
 exact⟨_,hsb,sf,u,xl,rfl,hxq,rfl⟩
def m6 (k:Nat) (l:List Int):List Int:=l.filter fun x=> decide (x<((k:Nat):Int))
theorem kX {l:List Int}{k:Nat}(h:∀x∈l,((k:Nat):Int)≤x):m6 k l= []:=by
 rw[m6,List.filter_eq_nil_iff]
 intro x hx
 have:=h x hx
 simp;omega
theorem xn {l:List Int}{k:Nat}(h:∀x∈l,x<((k:Nat):Int)):m6 k l=l:=by
 rw[m6,List.filter_eq_self]
 intro x hx
 exact Ys (h x hx)
theorem Ck {x:Int}{l:List Int}(h:rise (x::l)=true):rise l=true∧∀y∈l,x<y:=by
 refine⟨(kY.1 h).2,fun y hy=> ?_⟩
 obtain⟨j,hj⟩:=List.getElem?_of_mem hy
 exact sQ h (i:=0) (j:=j+1) rfl hj (a8)
theorem qV:∀{l:List Int}{k:Nat},rise l=true→m6 (k+1) l=m6 k l++(if((k:Nat):Int)∈l then [((k:Nat):Int)]else [])
 | [],_,_=> rfl
 |x::l,k,h=> by
  obtain⟨h1,h2⟩:=Ck h
  by_cases hx:x<((k:Nat):Int)
  ·have hne:((k:Nat):Int)≠x:=by omega
   have e1:m6 (k+1) (x::l)=x::m6 (k+1) l:=List.filter_cons_of_pos (Ys (a8))
   have e2:m6 k (x::l)=x::m6 k l:=List.filter_cons_of_pos (Ys hx)
   rw[e1,e2,qV h1,Yd]
   simp[hne]
  ·by_cases he:x=((k:Nat):Int)
   ·have e1:m6 (k+1) (x::l)=x::m6 (k+1) l:=List.filter_cons_of_pos (Ys (a8))
    have e2:m6 k (x::l)= []:=kX fun y hy=> by
     rcases List.mem_cons.1 hy with rfl|hy
     ·omega
     ·have:=h2 y hy;omega
    have e3:m6 (k+1) l= []:=kX fun y hy=> by have:=h2 y hy;omega
    rw[e1,e2,e3,if_pos (by rw[he];simp),he];all_goals rfl
   ·have e1:m6 (k+1) (x::l)= []:=kX fun y hy=> by
     rcases List.mem_cons.1 hy with rfl|hy
     ·omega
     ·have:=h2 y hy;omega
    have e2:m6 k (x::l)= []:=kX fun y hy=> by
     rcases List.mem_cons.1 hy with rfl|hy
     ·omega
     ·have:=h2 y hy;omega
    have hn:((k:Nat):Int)∉ x::l:=fun hm=> by
     rcases List.mem_cons.1 hm with h9|hm
     ·omega
     ·have:=h2 _ hm;omega
    rw[e1,e2,if_neg hn];all_goals rfl
theorem xm (k:Nat) (l:List Int):(m6 k l).length≤l.length:=List.length_filter_le _ _
theorem xP {fs:List FV}{xs:List Nat}{ds:List Doc}(hc:e7 fs=true) (hb:∀x∈xs,x<256) (hn:xs.length≤2000000) (h:fM fs xs=some ds):ds.length≤4096∧(∀d∈ds,d.2.length≤64∧∀v∈d.2,v.2.size≤4096)∧dsz ds≤30000000∧(gA fs ds).length≤2000000:=by
 rw[fM]at h
 split at h
 ·cases h
 ·rename_i bl hr
  split at h
  ·rename_i hl6
   split at h
   ·cases h
   ·rename_i ds' hd
    split at h
    ·obtain rfl:=Option.some.inj h
     have hq:=Ls hb hr
     have g1:∀i,i<6→bl.getD i (0, [])∈bl:=fun i hi=> by
      rw[List.getD_eq_getElem?_getD,Yi (a8)];exact List.getElem_mem _
     exact rD hc (hq _ (g1 1 (ag))).1 (hq _ (g1 5 (ag))).1 (by have:=(hq _ (g1 5 (ag))).2;omega) hd
    ·cases h
  ·cases h
theorem oo {gs:List QG}{i:Nat}{g:QG}{H:cG}(he:gs[i]? =some g):cK (Cl qgH gs::H) (Row g.sd eD (g.zs.map dgV)::Cl dgH g.zs::Row g.sb eBo g.fl::Cl qgH (gs.take i)::Cl qgH (gs.drop (i+1))::H):=km (f:=qgH) he
theorem Ki {G:cM}{H:cG}{be:Nat}{s1 sh:SV}{n:Int}{fs:List FV}{gs:List QG}(hc:e7 fs=true) (hgo:∀g∈gs,J2 fs g) (hgl:gs.length≤100000000) (hgb:∀g∈gs,g.xs.length≤2000000∧(∀x∈g.xs,x<256)∧g.dead.length≤100000000):
 SC G Tryz.prog 29 [.pointer (some ⟨be,0,none⟩)] (Vr be [s1.val, .int .i64 n,sh.val,SV.nil.val, .bool true]::Row s1 eF fs::Row sh eP (gs.map qgV)::Cl qgH gs::H) (fun v H'=> ∃(sf sp:SV) (xl:List XG),v= .agg [sf.val, .int .i64 n,sp.val].toArray∧xl.map (·.q)=gs.map qgQ∧H'=Row sf eF fs::Row sp eP (xl.map xgV)::Cl xgH xl::H):=by
 have hgm:(gs.map qgV).length=gs.length:=Yh ..
 obtain⟨hc1,hc2⟩:=eG hc
 refine sWk Tryz.func29 Tryz.ntmps29 ?_
 refine gk (k:=alc (k:=fun b2=>?_))
 refine go ?_
 refine d1_ rfl (Mc) (k:=go ?_)
 refine di cL (fun i=> [4,10,11].contains i) (fun k H=> (k=3→dh H be [s1.val, .int .i64 n,sh.val,SV.nil.val, .bool true])∧(k=8→dh H be [s1.val, .int .i64 n,sh.val,SV.nil.val, .bool true])) (af_ 0 (q:=cE fun H hH=>mv) (k:=af_ 1 (q:=cE fun H hH=>nck) (k:=af_ 2 (q:=cE fun H hH=>fla) (k:=?_))))
 refine cH 3 rfl rfl (aa) rfl (cE fun H hH=>aF) (?_)
 refine af_ 5 (q:=cE fun H hH=>mv) (k:=af_ 6 (q:=cE fun H hH=>nck) (k:=af_ 7 (q:=cE fun H hH=>fla) (k:=?_)))
 refine cH 8 rfl rfl (aa) rfl (cE fun H hH=>aK) (?_)
 refine uO 4 10 rfl rfl (aa) rfl rfl (fun k hk=> ⟨fun hi=> ab,fun hi=> ab⟩) (dm (vs:= [_]) rfl (zS (fs:=fs) (a8))) (kr) ?_ ?_
 ·rintro _ _ ⟨sf,rfl,rfl⟩
  refine af_ 9 (q:=cE fun H hH=>bld [(0,_),(1,_)]) (k:=?_)
  refine cQ 10 rfl (aa) rfl (fun k hk=> ⟨fun hi=> absurd hk (ad),fun hi=> ab⟩) (kr) ?_
  rintro _ _ ⟨b3,rfl,rfl⟩
  refine cQ 11 rfl (aa) rfl (fun k hk=> ⟨fun hi=> absurd hk (ad),fun hi=> ab⟩) (dk rfl rfl rfl) ?_
  rintro _ _ ⟨rfl,rfl⟩
  refine db (aa) (fun k hk=> ⟨fun hi=> absurd hk (ad),fun hi=> absurd hk (ad)⟩) (qn_ (ws_ (ws_ (wr_ (?_)))))
  refine dE (cK.nilRow (e:=eP) (eA (f:=xgH) cK.refl)) ?_
  rw[show Row SV.nil eP ([]:List (SV×SV))=Row SV.nil eP (([]:List XG).map xgV)from rfl]
  refine gk (k:=dn (Nat×SV×(List XG)) (fun y=> y.1≤gs.length∧y.2.2.length=y.1∧y.2.2.map (·.q)=(gs.take y.1).map qgQ) (fun y=> [(28, .int .i64 ((y.1:Nat):Int))]) [(0,_),(2,_),(3,_),(26,_),(27,_)] (fun y=> [Vr b3 [sf.val, .int .i64 n,y.2.1.val],Row y.2.1 eP (y.2.2.map xgV),Cl xgH y.2.2]) (Row sf eF fs::Vr be [s1.val, .int .i64 n,sh.val,SV.nil.val, .bool true]::Row s1 eF fs::Row sh eP (gs.map qgV)::Cl qgH gs::Vr b2 [SV.nil.val, .int .i64 0,SV.nil.val]::H) (fun y=> gs.length - y.1) ((0,SV.nil, [])) (h0:=?_) (k:=?_))
  ·try dsimp only
   exact⟨Yl _,rfl,rfl⟩
  rintro⟨i,u,xl⟩ ⟨hi,hxl,hxq⟩
  try dsimp only[Yd,Ye]at*
  refine gk (k:=wi_ (k:=fun h1=>?_) (m:=fun h1=>?_))
  ·obtain⟨g,hg⟩:∃g,gs[i]? =some g:=⟨_,Yi (a8)⟩
   have hgv:(gs.map qgV)[i]? =some (g.sd,g.sb):=by rw[Xd,hg];all_goals rfl
   have hok:=hgo g (Yj hg)
   obtain⟨hb1,hb2,hb3⟩:=hgb g (Yj hg)
   have hxm:(xl.map xgV).length=xl.length:=Yh ..
   obtain⟨hck0,hEq⟩:=zE hok.seg
   obtain⟨k1,k2,k3,k4⟩:=xP hc hb2 hb1 hok.seg
   have hzd:(g.zs.map dgD).length=g.zs.length:=Yh ..
   have hfl:=hok.len
   haveI hgs1:Sl (Cl qgH gs::Vr b2 [SV.nil.val, .int .i64 0,SV.nil.val]::H) g.sd eD (g.zs.map dgV):=fy (oo hg) inferInstance
   haveI hgs2:Sl (Cl qgH gs::Vr b2 [SV.nil.val, .int .i64 0,SV.nil.val]::H) g.sb eBo g.fl:=fy (oo hg) inferInstance
   have hgd:fL (Cl qgH gs::Vr b2 [SV.nil.val, .int .i64 0,SV.nil.val]::H) (g.zs.map dgV) (g.zs.map dgD):=fL.less (oo hg) (yR inferInstance)
   refine gk (k:=alc (k:=fun b5=>?_))
   refine go ?_
   refine di cL (fun i=> [6].contains i) (fun k H=> (k=3→dh H be [s1.val, .int .i64 n,sh.val,SV.nil.val, .bool true])∧(k=5→dh H b5 [g.sd.val,g.sb.val])) (af_ 0 (q:=cE fun H hH=>mv) (k:=af_ 1 (q:=cE fun H hH=>nck) (k:=af_ 2 (q:=cE fun H hH=>fla) (k:=?_))))
   refine cH 3 rfl rfl (aa) rfl (cE fun H hH=>aF) (?_)
   refine af_ 4 (q:=cE fun H hH=>fla) (k:=?_)
   refine cH 5 rfl rfl (aa) rfl (cE fun H hH=>aK) (?_)
   refine cQ 6 rfl (aa) rfl (fun k hk=> ⟨fun hi=> ab,fun hi=> ab⟩) (dm (vs:= [_,_]) rfl (SC.mono (zU (ds:=g.zs.map dgD) (hgd.less (hsb)) (a8) (fun f hf=> aY) (a8) (fun d hd=> ⟨bU,fun v hv=> bJ⟩) k3 k4) (fun v H' h=> h.elim id fun h9=> absurd hck0 h9.1))) ?_
   rintro _ _ ⟨_,s39,rfl,rfl⟩
   refine af_ 7 (q:=cE fun H hH=>mv) (k:=af_ 8 (q:=cE fun H hH=>exr) (k:=af_ 9 (q:=cE fun H hH=>exr) (k:=af_ 10 (q:=cE fun H hH=>asn) (k:=af_ 11 (q:=cE fun H hH=>asn) (k:=db (aa) (fun k hk=> ⟨fun hi=> absurd hk (ad),fun hi=> absurd hk (ad)⟩) (qn_ (ws_ (wr_ (e_ mv (k:=e_ (bld [(0,_)]) (k:=alc (k:=fun b8=>?_))))))))))))
   refine sto (k:=on_ (qn_ (ws_ (ws_ (wr_ (?_))))))
   rw[hEq]
   refine dE (cK.nilRow (e:=eI) cK.refl) ?_
   rw[show Row SV.nil eI ([]:List Int)=Row SV.nil eI (m6 0 g.dead)from by rw[kX (fun x hx=> cz)]]
   refine gk (k:=dn (Nat×SV) (fun y=> y.1≤g.fl.length) (fun y=> [(47, .int .i64 ((y.1:Nat):Int))]) [(0,_),(2,_),(3,_),(8,_),(26,_),(27,_),(28,_),(45,_),(46,_)] (fun y=> [Vr b8 [s39.val,y.2.val],Row y.2 eI (m6 y.1 g.dead)]) (Row s39 eB g.xs::Vr b5 [g.sd.val,g.sb.val]::Vr b3 [sf.val, .int .i64 n,u.val]::Row u eP (xl.map xgV)::Cl xgH xl::Row sf eF fs::Vr be [s1.val, .int .i64 n,sh.val,SV.nil.val, .bool true]::Row s1 eF fs::Row sh eP (gs.map qgV)::Cl qgH gs::Vr b2 [SV.nil.val, .int .i64 0,SV.nil.val]::H) (fun y=> g.fl.length - y.1) ((0,SV.nil)) (h0:=?_) (k:=?_))
   ·try dsimp only
    exact Yl _
   rintro⟨k,dv⟩ hk
   try dsimp only[Yd,Ye]at*
   have hul:=xm k g.dead
   have hst:=qV (k:=k) hok.rise
   refine gk (k:=wi_ (k:=fun h2=>?_) (m:=fun h2=>?_))
   ·have hbk:=hok.bits k (a8)
    refine go ?_
    refine gk (k:=ir_ (k:=fun h3=>?_) (m:=fun h3=>?_))
    ·rw[if_pos (Yt h3)]at hst
     refine gk (k:=dD eI (k:=fun s56=>?_))
     refine app (k:=fun s57=>?_)
     refine e_ fla (k:=sto (k:=?_))
     rw[←hst]
     refine go ?_
     refine ln_ ((k+1,s57)) (k:=?_)
     try dsimp only
     omega
    rw[if_neg (of_decide_eq_false h3),Ym]at hst
    rw[←hst]
    refine go ?_
    refine ln_ ((k+1,dv)) (k:=?_)
    try dsimp only
    omega
   have hkk:k=g.fl.length:=a8
   rw[hkk,xn (fun x hx=> cz)]
   refine gk (k:=dD eP (k:=fun s63=>?_))
   refine app (k:=fun s64=>?_)
   refine e_ fla (k:=sto (k:=?_))
   rw[show xl.map xgV++ [(s39,dv)]=(xl++ [(⟨s39,dv,(g.xs,g.dead)⟩:XG)]).map xgV from by simp[xgV]]
   refine dE (cK.trans (H':=Row s39 eB g.xs::Row dv eI g.dead::Cl xgH xl::Vr b3 [sf.val, .int .i64 n,s64.val]::Row s64 eP ((xl++ [(⟨s39,dv,(g.xs,g.dead)⟩:XG)]).map xgV)::Row sf eF fs::Vr be [s1.val, .int .i64 n,sh.val,SV.nil.val, .bool true]::Row s1 eF fs::Row sh eP (gs.map qgV)::Cl qgH gs::Vr b2 [SV.nil.val, .int .i64 0,SV.nil.val]::H) (hsb) (sJ ⟨s39,dv,(g.xs,g.dead)⟩)) ?_
   refine go ?_
   refine ln_ ((i+1,s64,xl++ [⟨s39,dv,(g.xs,g.dead)⟩])) (k:=?_)
   try dsimp only
   exact⟨a8,au,by rw[List.map_append,hxq,cP hg];simp[qgQ]⟩
  have hii:i=gs.length:=a8
  rw[hii,List.take_length]at hxq
  refine gk (k:=rt_ Tryz.results29 (k:=?_))
  exact⟨_,hsb,sf,u,xl,rfl,hxq,rfl⟩
 rintro _ _ ⟨b3,rfl,rfl⟩
 refine cQ 4 rfl (aa) rfl (fun k hk=> ⟨fun hi=> ab,fun hi=> ab⟩) (dm (vs:= [_]) rfl (zS (fs:=fs) (a8))) ?_
 rintro _ _ ⟨sf,rfl,rfl⟩
 refine af_ 9 (q:=cE fun H hH=>bld [(0,_),(1,_)]) (k:=?_)
 refine cQ 11 rfl (aa) rfl (fun k hk=> ⟨fun hi=> absurd hk (ad),fun hi=> ab⟩) (dk rfl rfl rfl) ?_
 rintro _ _ ⟨rfl,rfl⟩
 refine db (aa) (fun k hk=> ⟨fun hi=> absurd hk (ad),fun hi=> absurd hk (ad)⟩) (qn_ (ws_ (ws_ (wr_ (?_)))))
 refine dE (cK.nilRow (e:=eP) (eA (f:=xgH) cK.refl)) ?_
 rw[show Row SV.nil eP ([]:List (SV×SV))=Row SV.nil eP (([]:List XG).map xgV)from rfl]
 refine gk (k:=dn (Nat×SV×(List XG)) (fun y=> y.1≤gs.length∧y.2.2.length=y.1∧y.2.2.map (·.q)=(gs.take y.1).map qgQ) (fun y=> [(28, .int .i64 ((y.1:Nat):Int))]) [(0,_),(2,_),(3,_),(26,_),(27,_)] (fun y=> [Vr b3 [sf.val, .int .i64 n,y.2.1.val],Row y.2.1 eP (y.2.2.map xgV),Cl xgH y.2.2]) (Row sf eF fs::Vr be [s1.val, .int .i64 n,sh.val,SV.nil.val, .bool true]::Row s1 eF fs::Row sh eP (gs.map qgV)::Cl qgH gs::Vr b2 [SV.nil.val, .int .i64 0,SV.nil.val]::H) (fun y=> gs.length - y.1) ((0,SV.nil, [])) (h0:=?_) (k:=?_))
 ·try dsimp only
  exact⟨Yl _,rfl,rfl⟩
 rintro⟨i,u,xl⟩ ⟨hi,hxl,hxq⟩
 try dsimp only[Yd,Ye]at*
 refine gk (k:=wi_ (k:=fun h4=>?_) (m:=fun h4=>?_))
 ·obtain⟨g,hg⟩:∃g,gs[i]? =some g:=⟨_,Yi (a8)⟩
  have hgv:(gs.map qgV)[i]? =some (g.sd,g.sb):=by rw[Xd,hg];all_goals rfl
  have hok:=hgo g (Yj hg)
  obtain⟨hb1,hb2,hb3⟩:=hgb g (Yj hg)
  have hxm:(xl.map xgV).length=xl.length:=Yh ..
  obtain⟨hck0,hEq⟩:=zE hok.seg
  obtain⟨k1,k2,k3,k4⟩:=xP hc hb2 hb1 hok.seg
  have hzd:(g.zs.map dgD).length=g.zs.length:=Yh ..
  have hfl:=hok.len
  haveI hgs1:Sl (Cl qgH gs::Vr b2 [SV.nil.val, .int .i64 0,SV.nil.val]::H) g.sd eD (g.zs.map dgV):=fy (oo hg) inferInstance
  haveI hgs2:Sl (Cl qgH gs::Vr b2 [SV.nil.val, .int .i64 0,SV.nil.val]::H) g.sb eBo g.fl:=fy (oo hg) inferInstance
  have hgd:fL (Cl qgH gs::Vr b2 [SV.nil.val, .int .i64 0,SV.nil.val]::H) (g.zs.map dgV) (g.zs.map dgD):=fL.less (oo hg) (yR inferInstance)
  refine gk (k:=alc (k:=fun b5=>?_))
  refine go ?_
  refine di cL (fun i=> [6].contains i) (fun k H=> (k=3→dh H be [s1.val, .int .i64 n,sh.val,SV.nil.val, .bool true])∧(k=5→dh H b5 [g.sd.val,g.sb.val])) (af_ 0 (q:=cE fun H hH=>mv) (k:=af_ 1 (q:=cE fun H hH=>nck) (k:=af_ 2 (q:=cE fun H hH=>fla) (k:=?_))))
  refine cH 3 rfl rfl (aa) rfl (cE fun H hH=>aF) (?_)
  refine af_ 4 (q:=cE fun H hH=>fla) (k:=?_)
  refine cH 5 rfl rfl (aa) rfl (cE fun H hH=>aK) (?_)
  refine cQ 6 rfl (aa) rfl (fun k hk=> ⟨fun hi=> ab,fun hi=> ab⟩) (dm (vs:= [_,_]) rfl (SC.mono (zU (ds:=g.zs.map dgD) (hgd.less (hsb)) (a8) (fun f hf=> aY) (a8) (fun d hd=> ⟨bU,fun v hv=> bJ⟩) k3 k4) (fun v H' h=> h.elim id fun h9=> absurd hck0 h9.1))) ?_
  rintro _ _ ⟨_,s39,rfl,rfl⟩
  refine af_ 7 (q:=cE fun H hH=>mv) (k:=af_ 8 (q:=cE fun H hH=>exr) (k:=af_ 9 (q:=cE fun H hH=>exr) (k:=af_ 10 (q:=cE fun H hH=>asn) (k:=af_ 11 (q:=cE fun H hH=>asn) (k:=db (aa) (fun k hk=> ⟨fun hi=> absurd hk (ad),fun hi=> absurd hk (ad)⟩) (qn_ (ws_ (wr_ (e_ mv (k:=e_ (bld [(0,_)]) (k:=alc (k:=fun b8=>?_))))))))))))
  refine sto (k:=on_ (qn_ (ws_ (ws_ (wr_ (?_))))))
  rw[hEq]
  refine dE (cK.nilRow (e:=eI) cK.refl) ?_
  rw[show Row SV.nil eI ([]:List Int)=Row SV.nil eI (m6 0 g.dead)from by rw[kX (fun x hx=> cz)]]
  refine gk (k:=dn (Nat×SV) (fun y=> y.1≤g.fl.length) (fun y=> [(47, .int .i64 ((y.1:Nat):Int))]) [(0,_),(2,_),(3,_),(8,_),(26,_),(27,_),(28,_),(45,_),(46,_)] (fun y=> [Vr b8 [s39.val,y.2.val],Row y.2 eI (m6 y.1 g.dead)]) (Row s39 eB g.xs::Vr b5 [g.sd.val,g.sb.val]::Vr b3 [sf.val, .int .i64 n,u.val]::Row u eP (xl.map xgV)::Cl xgH xl::Row sf eF fs::Vr be [s1.val, .int .i64 n,sh.val,SV.nil.val, .bool true]::Row s1 eF fs::Row sh eP (gs.map qgV)::Cl qgH gs::Vr b2 [SV.nil.val, .int .i64 0,SV.nil.val]::H) (fun y=> g.fl.length - y.1) ((0,SV.nil)) (h0:=?_) (k:=?_))
  ·try dsimp only
   exact Yl _
  rintro⟨k,dv⟩ hk
  try dsimp only[Yd,Ye]at*
  have hul:=xm k g.dead
  have hst:=qV (k:=k) hok.rise
  refine gk (k:=wi_ (k:=fun h5=>?_) (m:=fun h5=>?_))
  ·have hbk:=hok.bits k (a8)
   refine go ?_
   refine gk (k:=ir_ (k:=fun h6=>?_) (m:=fun h6=>?_))
   ·rw[if_pos (Yt h6)]at hst
    refine gk (k:=dD eI (k:=fun s56=>?_))
    refine app (k:=fun s57=>?_)
    refine e_ fla (k:=sto (k:=?_))
    rw[←hst]
    refine go ?_
    refine ln_ ((k+1,s57)) (k:=?_)
    try dsimp only
    omega
   rw[if_neg (of_decide_eq_false h6),Ym]at hst
   rw[←hst]
   refine go ?_
   refine ln_ ((k+1,dv)) (k:=?_)
   try dsimp only
   omega
  have hkk:k=g.fl.length:=a8
  rw[hkk,xn (fun x hx=> cz)]
  refine gk (k:=dD eP (k:=fun s63=>?_))
  refine app (k:=fun s64=>?_)
  refine e_ fla (k:=sto (k:=?_))
  rw[show xl.map xgV++ [(s39,dv)]=(xl++ [(⟨s39,dv,(g.xs,g.dead)⟩:XG)]).map xgV from by simp[xgV]]
  refine dE (cK.trans (H':=Row s39 eB g.xs::Row dv eI g.dead::Cl xgH xl::Vr b3 [sf.val, .int .i64 n,s64.val]::Row s64 eP ((xl++ [(⟨s39,dv,(g.xs,g.dead)⟩:XG)]).map xgV)::Row sf eF fs::Vr be [s1.val, .int .i64 n,sh.val,SV.nil.val, .bool true]::Row s1 eF fs::Row sh eP (gs.map qgV)::Cl qgH gs::Vr b2 [SV.nil.val, .int .i64 0,SV.nil.val]::H) (hsb) (sJ ⟨s39,dv,(g.xs,g.dead)⟩)) ?_
  refine go ?_
  refine ln_ ((i+1,s64,xl++ [⟨s39,dv,(g.xs,g.dead)⟩])) (k:=?_)
  try dsimp only
  exact⟨a8,au,by rw[List.map_append,hxq,cP hg];simp[qgQ]⟩
 have hii:i=gs.length:=a8
 rw[hii,List.take_length]at hxq
 refine gk (k:=rt_ Tryz.results29 (k:=?_))
 exact⟨_,hsb,sf,u,xl,rfl,hxq,rfl⟩
section
variable {G:cM}{P:Program}{t:Tm}{H:cG}{dst:Option Tmp}{ty:TypeId}{pos:String}{after:Array Edge}{g:Option (Nat×Bool)}
theorem IA {T U:TypeId}{x y:Operand}{k':IntKind}{i j:Int}(hx:evo t x=some (.int .i64 i)) (hy:evo t y=some (.int k' j)) (a b:Nat) (ha:i=a) (hb:j=b) (hb2:b≤63) (h:a*2 ^ b<9223372036854775808):
 Ev G P ⟨dst, .binOp .shl T x y U,ty,pos,after,g⟩ t H (.int .i64 ((a*2 ^ b:Nat):Int)):=
 fun ρ hρ w _=> by
  have e:IntKind.i64.wrap ((a:Int)*2 ^ min b IntKind.i64.bits)=((a*2 ^ b:Nat):Int):=by
   rw[show min b IntKind.i64.bits=b from Nat.min_eq_left (by show b≤64;omega),show((a:Int)*2 ^ b)=((a*2 ^ b:Nat):Int)from aj]
   exact iM (a8)
  simp only[execOp,hρ _ _ hx,hρ _ _ hy,eqGuard,binOp,Op.shift,ha,hb]
  simp only[show ¬((b:Int)<0)from a8,if_false,Int.toNat_natCast,e,Sem.run_bind,Sem.run_pure]
  rfl
theorem L9 {T U:TypeId}{x y:Operand}{i j:Int}(hx:evo t x=some (.int .i64 i)) (hy:evo t y=some (.int .i64 j)) (a b:Nat) (ha:i=a) (hb:j=b) (hla:a<9223372036854775808) (hlb:b<9223372036854775808):
 Ev G P ⟨dst, .binOp .or T x y U,ty,pos,after,g⟩ t H (.int .i64 ((a |||b:Nat):Int)):=
 fun ρ hρ w _=> by
  have e:(BitVec.ofInt IntKind.i64.bits (a:Int) |||BitVec.ofInt IntKind.i64.bits (b:Int)).toNat=a |||b:=by
   rw[gj,gj,BitVec.toNat_or,BitVec.toNat_ofNat,BitVec.toNat_ofNat,Nat.mod_eq_of_lt (by show a<2 ^ 64;omega),Nat.mod_eq_of_lt (by show b<2 ^ 64;omega)]
  have hlt:a |||b<2 ^ 63:=Nat.or_lt_two_pow (a8) (a8)
  have e2:IntKind.i64.wrap ((a |||b:Nat):Int)=((a |||b:Nat):Int):=iM (a8)
  simp only[execOp,hρ _ _ hx,hρ _ _ hy,eqGuard,binOp,Op.intBits,ha,hb]
  simp only[Sem.run_bind,Sem.run_pure,e,e2,ne_eq,not_true_eq_false,↓reduceIte]
  rfl
end
def fj:Nat→List Nat→Option (Nat×Nat)
 |_, []=> none
 |i,x::r=> if 9≤i then none else if x<128 then some (x,1)else
  match fj (i+1) r with
  |some (v,n)=> some (x % 128+128*v,n+1)
  |none=> none
def yx (a c:Nat):Option (Nat×Nat)→Option (Nat×Nat)
 |some (v,n)=> some (a+v*2 ^ (7*c),c+n)
 |none=> none
def Jb (p:Nat):Option (Nat×Nat)→Value
 |some (v,n)=> .tuple #[.int .i64 ((v:Nat):Int), .int .i64 ((p+n:Nat):Int)]
 |none=> .tuple #[.int .i64 0, .int .i64 (-1)]
theorem Kl (c:Nat):2 ^ (7*(c+1))=128*2 ^ (7*c):=by rw[show 7*(c+1)=7*c+7 from a8,Nat.pow_add];omega
theorem HV {c:Nat}(h:c≤9):2 ^ (7*c)≤9223372036854775808:=Nat.pow_le_pow_right (i:=7*c) (j:=63) (n:=2) (ag) (a8)
theorem Aj {a c x:Nat}{r:List Nat}(h9:c<9) (hx:128≤x):yx a c (fj c (x::r))=yx (a+x % 128*2 ^ (7*c)) (c+1) (fj (c+1) r):=by
 rw[fj,if_neg (a8),if_neg (a8)]
 cases fj (c+1) r with
 |none=> rfl
 |some q=>
  obtain⟨v,n⟩:=q
  simp only[yx,Kl,Option.some.injEq,Prod.mk.injEq]
  refine⟨?_,a8⟩
  rw[Nat.add_mul,Nat.add_assoc]
  congr 2
  rw[Nat.mul_comm 128 v,Nat.mul_assoc]
theorem HY {a b k:Nat}(h:a<2 ^ k):a |||b*2 ^ k=a+b*2 ^ k:=by
 have:=Nat.shiftLeft_add_eq_or_of_lt h b
 rw[Nat.shiftLeft_eq]at this
 rw[Nat.or_comm,←this,Nat.add_comm]
theorem sS {G:cM}{H:cG}{s:SV}{xs:List Nat}{p:Nat} [hs:Sl H s eB xs] (hn:xs.length≤100000000000) (hp:p≤100000000000) (hb:∀x∈xs,x<256):SC G Tryz.prog 52 [s.val, .int .i64 ((p:Nat):Int)] H (fun v H'=> v=Jb p (fj 0 (xs.drop p))∧H'=H):=by
 refine sWk Tryz.func52 Tryz.ntmps52 ?_
 refine go ?_
 refine gk (k:=wl_ (Nat×Nat) (fun y=> y.1≤9∧y.2<2 ^ (7*y.1)∧fj 0 (xs.drop p)=yx y.2 y.1 (fj y.1 (xs.drop (p+y.1)))) (fun y=> [(0,s.val),(6, .int .i64 ((y.2:Nat):Int)),(7, .int .u64 ((7*y.1:Nat):Int)),(8, .int .i64 ((p+y.1:Nat):Int))]) (fun _=> H) (fun y=> 9 - y.1) ((0,0)) (h0:=?_) (k:=?_))
 ·try dsimp only
  refine⟨a8,ag,?_⟩
  cases fj 0 (xs.drop p)with
  |none=> rfl
  |some q=> obtain⟨v,n⟩:=q;simp[yx]
 rintro⟨c,a⟩ ⟨hc,ha,hI⟩
 try dsimp only at*
 refine ws_ (?_)
 refine nt ([(0,s.val),(6, .int .i64 ((a:Nat):Int)),(7, .int .u64 ((7*c:Nat):Int)),(8, .int .i64 ((p+c:Nat):Int)),(21, .bool (decide (p+c<xs.length∧c<9)))]) ?_ ?_
 ·refine wr_ (e_ mv (k:=e_ ige (k:=sp_ (mv) (k:=fun h1=>?_) (m:=fun h1=>?_))))
  ·refine eg_ mv (k:=eg_ mv (k:=eg_ lnn (k:=eg_ ilt (k:=e_ pkt (k:=sp_ (mv) (k:=fun h2=>?_) (m:=fun h2=>?_))))))
   ·refine gk (k:=ctt)
   refine gk (k:=ctt)
  refine gk (k:=ctt)
 refine wi_ (k:=fun h3=>?_) (m:=fun h3=>?_)
 ·obtain⟨x,hx⟩:∃x,xs[p+c]? =some x:=⟨_,Yi (a8)⟩
  have hxb:=hb x (Yj hx)
  have hpw:=HV (c:=c+1) (a8)
  rw[Kl]at hpw
  have hm:x % 128*2 ^ (7*c)≤127*2 ^ (7*c):=Nat.mul_le_mul_right _ (a8)
  have hand:x &&& 127=x % 128:=Nat.and_two_pow_sub_one_eq_mod x 7
  rw[dV hx]at hI
  refine wk_ (qn_ (ws_ (wb_ (ws_ (wr_ (e_ mv (k:=e_ mv (k:=e_ mv (k:=?_)))))))))
  refine e_ (cO rfl rfl (p+c) rfl (a8)) (k:=?_)
  refine e_ (dq rfl (aI) (aI) x hx) (k:=?_)
  refine e_ (fV 256 rfl rfl rfl rfl x 127 rfl rfl hxb (ag)) (k:=?_)
  rw[hand]
  refine e_ (dS rfl (a8)) (k:=?_)
  refine e_ mv (k:=?_)
  refine e_ (IA rfl rfl (x % 128) (7*c) rfl rfl (a8) (a8)) (k:=?_)
  refine e_ (L9 rfl rfl a (x % 128*2 ^ (7*c)) rfl rfl (a8) (a8)) (k:=?_)
  rw[HY ha]
  refine e_ asn (k:=on_ (qn_ (ws_ (wr_ (e_ mv (k:=?_))))))
  refine e_ (kl 18446744073709551616 rfl rfl rfl rfl (7*c) 7 rfl rfl (a8)) (k:=?_)
  refine e_ asn (k:=on_ (qn_ (ws_ (wr_ (e_ mv (k:=e_ mv (k:=?_)))))))
  refine e_ (cO rfl rfl (p+c) rfl (a8)) (k:=?_)
  refine e_ (dq rfl (aI) (aI) x hx) (k:=?_)
  refine gk (k:=wi_ (k:=fun h4=>?_) (m:=fun h4=>?_))
  ·have hR:fj 0 (xs.drop p)=some (a+x % 128*2 ^ (7*c),c+1):=by rw[hI,fj,if_neg (a8),if_pos (a8),Nat.mod_eq_of_lt (a8)];all_goals rfl
   refine go ?_
   refine gk (k:=rt_ Tryz.results52 (k:=?_))
   exact⟨_,cK.refl,by rw[hR];all_goals rfl,rfl⟩
  refine go ?_
  refine ln_ ((c+1,a+x % 128*2 ^ (7*c))) (k:=?_)
  try dsimp only
  exact⟨a8,by rw[Kl];omega,by rw[hI,Aj (a8) (a8)];all_goals rfl⟩
 have hR:fj 0 (xs.drop p)=none:=by
  rw[hI]
  cases hd:xs.drop (p+c)with
  |nil=> rfl
  |cons x r=>
   have:=congrArg List.length hd
   rw[Yo,Yb]at this
   rw[fj,if_pos (a8)];all_goals rfl
 refine gk (k:=rt_ Tryz.results52 (k:=?_))
 exact⟨_,cK.refl,by rw[hR];all_goals rfl,rfl⟩
end Go.Sx
