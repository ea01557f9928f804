import Derived.Test.YtcbidldebfibkaaGreatDoorQ15
set_option linter.unusedVariables false
set_option linter.unusedSimpArgs false
set_option linter.unusedSectionVars false
set_option linter.unnecessarySimpa false
set_option maxHeartbeats 0
namespace Go.Sx
open Go Go.Proofs
set_option maxRecDepth 100000
theorem Hz {G:cM}{H:cG}{s:SV}{l:List Int} [Sl H s eI l] (hm:l.length≤10000000000) (hbl:iW l=false) (hri:rise l=true) (hl:∀x∈l,x≤9223372036854775807):SC G Tryz.prog 33 [s.val] H (fun v H'=> ∃s':SV,v=s'.val∧H'=Row s' eB (uv l.length++dz (-1) l)::H):=by
 have hb:=(il l).1 hbl
 refine sWk Tryz.func33 Tryz.ntmps33 ?_
 refine go ?_
 refine c2_ rfl (DX l.length rfl (a8)) (k:=?_)
 rintro _ _ ⟨s1,rfl,rfl⟩
 refine gk (k:=wl_ (SV×Nat×Int×List Nat) (fun y=> y.2.1≤l.length∧y.2.2.2++dz y.2.2.1 (l.drop y.2.1)=uv l.length++dz (-1) l∧y.2.2.2.length≤10+10*y.2.1∧ -1≤y.2.2.1∧(y.2.1=0→y.2.2.1= -1)∧∀x,0<y.2.1→l[y.2.1 - 1]? =some x→x=y.2.2.1) (fun y=> [(0,s.val),(3,y.1.val),(4, .int .i64 ((y.2.1:Nat):Int))]) (fun y=> Row y.1 eB y.2.2.2::H) (fun y=> l.length - y.2.1) ((s1,0, -1,uv l.length)) (h0:=?_) (k:=?_))
 ·try dsimp only
  have:=dc (n:=l.length) (a8)
  exact⟨Yl _,aj,a8,Int.le_refl _,fun _=> rfl,fun x h=> absurd h (Nat.lt_irrefl _)⟩
 rintro⟨so,k,last,zs⟩ ⟨hk,hI,hlen,hlast,hz,hprev⟩
 try dsimp only at*
 refine gk (k:=wi_ (k:=fun h1=>?_) (m:=fun h1=>?_))
 ·obtain⟨x,hx⟩:∃x,l[k]? =some x:=⟨_,Yi (a8)⟩
  have hx0:=hb k x hx
  have hxm:=hl x (Yj hx)
  have hgt:last<x:=by
   rcases Nat.eq_zero_or_pos k with h0|h0
   ·have:=hz h0;omega
   ·obtain⟨w,hw⟩:∃w,l[k - 1]? =some w:=⟨_,Yi (a8)⟩
    have h3:=hprev w h0 hw
    have h4:=(gJ l).1 hri (k - 1) w x hw (by rw[Nat.sub_add_cancel h0];exact hx)
    omega
  have hul2:=dc (n:=(x - last - 1).toNat) (a8)
  refine gk (k:=wi_ (k:=fun h2=>?_) (m:=fun h2=>?_))
  ·have hl0:=hz (a8)
   refine wr_ (e_ mv (k:=e_ mv (k:=e_ mv (k:=?_))))
   refine e_ (cO rfl rfl k rfl (a8)) (k:=?_)
   refine go ?_
   refine c2_ rfl (DZ (xs:=zs) (x - last - 1).toNat (a8) (a8) (a8)) (k:=?_)
   rintro _ _ ⟨s2,rfl,rfl⟩
   refine go ?_
   refine ln_ ((s2,k+1,x,zs++uv (x - last - 1).toNat)) (k:=?_)
   try dsimp only
   refine⟨a8,?_,ah,a8,fun h=> a8,fun w' _ hw'=> ?_⟩
   ·rw[←hI,dV hx,dz,Yf]
   ·rw[Nat.add_sub_cancel]at hw'
    rw[hx]at hw';cases hw';rfl
  obtain⟨w,hw⟩:∃w,l[k - 1]? =some w:=⟨_,Yi (a8)⟩
  have hwl:=hprev w (a8) hw
  have hw0:=hb (k - 1) w hw
  refine di cL (fun i=> [12].contains i) (fun k H=> (k=3→Sl H s eI l)∧(k=4→Sl H s eI l)∧(k=8→Sl H s eI l)∧(k=9→Sl H s eI l)) (af_ 0 (q:=cE fun H hH=>mv) (k:=af_ 1 (q:=cE fun H hH=>mv) (k:=af_ 2 (q:=cE fun H hH=>mv) (k:=?_))))
  refine cH 3 rfl rfl (aa) rfl (cE fun H hH=>by have hN:=hH.1 rfl;exact cO rfl rfl k rfl (a8)) (?_)
  refine cH 4 rfl rfl (aa) rfl (cE fun H hH=>by have hN:=hH.2.1 rfl;exact dq rfl (aI) (aI) x hx) (?_)
  refine af_ 5 (q:=cE fun H hH=>mv) (k:=af_ 6 (q:=cE fun H hH=>mv) (k:=af_ 7 (q:=cE fun H hH=>isb) (k:=?_)))
  refine cH 8 rfl rfl (aa) rfl (cE fun H hH=>by have hN:=hH.2.2.1 rfl;exact cO rfl rfl (k - 1) (a8) (a8)) (?_)
  refine cH 9 rfl rfl (aa) rfl (cE fun H hH=>by have hN:=hH.2.2.2 rfl;exact dq rfl (aI) (aI) w hw) (?_)
  refine af_ 10 (q:=cE fun H hH=>isb) (k:=af_ 11 (q:=cE fun H hH=>isb) (k:=?_))
  refine cQ 12 rfl (aa) rfl (fun k hk=> ⟨fun hi=> ab,fun hi=> ab,fun hi=> ab,fun hi=> ab⟩) (dm (vs:= [_,_]) rfl (DZ (xs:=zs) (x - last - 1).toNat (a8) (a8) (a8))) ?_
  rintro _ _ ⟨s2,rfl,rfl⟩
  refine af_ 13 (q:=cE fun H hH=>asn) (k:=db (aa) (fun k hk=> ⟨fun hi=> ab,fun hi=> ab,fun hi=> ab,fun hi=> ab⟩) (go ?_))
  refine ln_ ((s2,k+1,x,zs++uv (x - last - 1).toNat)) (k:=?_)
  try dsimp only
  refine⟨a8,?_,ah,a8,fun h=> a8,fun w' _ hw'=> ?_⟩
  ·rw[←hI,dV hx,dz,Yf]
  ·rw[Nat.add_sub_cancel]at hw'
   rw[hx]at hw';cases hw';rfl
 obtain rfl:k=l.length:=a8
 have e:zs=uv l.length++dz (-1) l:=by rw[←hI];simp[dz]
 refine gk (k:=rt_ Tryz.results33 (k:=?_))
 exact⟨_,hsb,so,rfl,by rw[e]⟩
def kG (e:Nat):Int:=([11,8,1,2,3,4,5,6,7,9,10,12,13,14,15,16,17,18,19,20,21,22,23,24]:List Int).getD e (-1)
theorem ji.bods2 {F H H':cG}{l:List (Nat×SV)}{bl:List (Nat×List Nat)}(h:ji F H l bl) (hF:∀(s:SV) (b:List Nat),Sl F s eB b→Sl H' s eB b) (hH:∀(s:SV) (b:List Nat),Sl H s eB b→Sl H' s eB b):kL H' l bl:=
 ⟨h.1,fun i p q hp hq=> by
   obtain⟨h1,h2⟩:=h.2 i p q hp hq
   exact⟨h1,h2.elim (hF _ _) (hH _ _)⟩⟩
theorem Hy {G:cM}{H:cG}{sf sp:SV}{fs:List FV}{lp:List (SV×SV)}{ps:Pcs}{next:Int} [Sl H sf eF fs] [hsp:Sl H sp eP lp] (hP:iA H lp ps) (hk:sH ps) (hn:fs.length≤1000000000) (hf:∀f∈fs,f.name.size≤1000000000000) (hpl:ps.length≤100000000) (hsum:jK ps≤900000000):
 SC G Tryz.prog 9 [.agg [sf.val, .int .i64 next,sp.val].toArray] H (fun v H'=> (∃e,fG fs next ps= .error e∧v= .tuple #[.slice none 0 0, .int .i64 (kG e)]∧H'=H∧e<24)∨(∃img,∃s':SV,fG fs next ps= .ok img∧v= .tuple #[s'.val, .int .i64 0]∧H'=Row s' eB img::H)):=by
 obtain⟨hlen,hin⟩:=hP
 refine sWk Tryz.func9 Tryz.ntmps9 ?_
 refine gk (k:=bxx (k:=fun b1=>?_))
 refine go ?_
 refine c1_ rfl (B6 hn hf) (k:=?_)
 rintro v1 H1 hK
 rcases hK with⟨hc,s0,rfl,rfl⟩|⟨hc,s1,rfl,rfl⟩
 ·refine go ?_
  refine ift (k:=gk (k:=rt_ Tryz.results9 (k:=?_)))
  exact⟨_,hsb, .inl ⟨0,by rw[fG,if_pos hc],rfl,rfl,ag⟩⟩
 have hes:=nY hc
 refine go ?_
 refine dw (k:=wk_ (qn_ (ws_ (ws_ (wr_ (e_ fla (k:=e_ ldv (k:=e_ ilt (k:=sp_ (mv) (k:=fun h1=>?_) (m:=fun h1=>?_))))))))))
 ·refine gk (k:=ift (k:=go ?_))
  refine gk (k:=rt_ Tryz.results9 (k:=?_))
  exact⟨_,hsb, .inl ⟨1,aW,rfl,rfl,ag⟩⟩
 refine gk (k:=wi_ (k:=fun h2=>?_) (m:=fun h2=>?_))
 ·refine gk (k:=rt_ Tryz.results9 (k:=?_))
  exact⟨_,hsb, .inl ⟨1,aW,rfl,rfl,ag⟩⟩
 refine wk_ (qn_ (ws_ (wr_ (?_))))
 have e0:fG fs next ps=match ee ps with
  | .error e=> .error e
  | .ok bl=> .ok (jW 73 ((1,fq fs)::(2,uv next.toNat)::bl)):=by
  rw[fG,if_neg (by rw[hc];simp),if_neg (a8)]
  all_goals rfl
 have hun:=dc (n:=next.toNat) (a8)
 refine e_ mv (k:=e_ (bld [(0,_),(1,_)]) (k:=go ?_))
 refine c2_ rfl (DX next.toNat (a8) (a8)) (k:=?_)
 rintro _ _ ⟨s2,rfl,rfl⟩
 refine e_ (bld [(0,_),(1,_)]) (k:=?_)
 refine s_ (mi eK rfl rfl rfl) (k:=?_)
 rintro _ _ ⟨s3,rfl,rfl⟩
 refine gk (k:=wl_ (SV×Nat×List (Nat×SV)×List (Nat×List Nat)×cG) (fun y=> y.2.1≤ps.length∧ji y.2.2.2.2 H y.2.2.1 ((1,fq fs)::(2,uv next.toNat)::y.2.2.2.1)∧y.2.2.1.length=2*y.2.1+2∧ee ps=vL y.2.2.2.1 (ee (ps.drop y.2.1))) (fun y=> [(1, .pointer (some ⟨b1,0,none⟩)),(6,y.1.val),(7, .int .i64 ((y.2.1:Nat):Int))]) (fun y=> Row y.1 eK y.2.2.1::dH y.2.2.2.2::Vr b1 [sf.val, .int .i64 next,sp.val]::H) (fun y=> ps.length - y.2.1) ((s3,0, [(1,s1),(2,s2)], [], [Row s2 eB (uv next.toNat),Row s1 eB (fq fs)])) (hh:=?_) (h0:=?_) (k:=?_))
 ·try dsimp only
  refine cK.row (iT (iT (jH ?_)))
  exact hsb
 ·try dsimp only
  refine⟨Yl _,?_,rfl,?_⟩
  ·have h1:ji [Row s2 eB (uv next.toNat),Row s1 eB (fq fs)] H ([]++ [(1,s1)]) ([]++ [(1,fq fs)]):=(ji.nil (F:= [Row s2 eB (uv next.toNat),Row s1 eB (fq fs)])).snoc 1 s1 _ (fun _ _ h=> h) (.inl inferInstance)
   exact h1.snoc 2 s2 _ (fun _ _ h=> h) (.inl inferInstance)
  ·rw[List.drop_zero]
   cases ee ps with
   |ok r=> rfl
   |error e=> rfl
 rintro⟨s,i,l,bl,F⟩ ⟨hi,hB,hl,hI⟩
 try dsimp only at*
 refine gk (k:=wi_ (k:=fun h3=>?_) (m:=fun h3=>?_))
 ·obtain⟨p,hp⟩:∃p,lp[i]? =some p:=⟨_,Yi (a8)⟩
  obtain⟨q,hq⟩:∃q,ps[i]? =some q:=⟨_,Yi (a8)⟩
  obtain⟨hS1,hS2⟩:=hin i p q hp hq
  obtain⟨k1,k2,k3,k4⟩:=hk q (Yj hq)
  rw[dV hq,ee]at hI
  refine wk_ (qn_ (ws_ (wb_ (ws_ (wr_ (e_ fla (k:=e_ ldv (k:=e_ mv (k:=?_)))))))))
  refine e_ (cO rfl rfl i rfl (a8)) (k:=?_)
  refine e_ fle (k:=?_)
  refine e_ (dA rfl (aI) p hp (aI)) (k:=?_)
  refine gk (k:=wl_ (Nat) (fun k=> k≤q.2.length∧∀j x,j<k→q.2[j]? =some x→0≤x) (fun k=> [(1, .pointer (some ⟨b1,0,none⟩)),(6,s.val),(7, .int .i64 ((i:Nat):Int)),(8,p.2.val),(9, .int .i64 ((k:Nat):Int))]) (fun _=> Row s eK l::dH F::Vr b1 [sf.val, .int .i64 next,sp.val]::H) (fun k=> q.2.length - k) (0) (h0:=?_) (k:=?_))
  ·try dsimp only
   exact⟨Yl _,fun j x h=> absurd h (Nat.not_lt_zero _)⟩
  rintro k ⟨hk1,hall⟩
  try dsimp only at*
  refine gk (k:=wi_ (k:=fun h4=>?_) (m:=fun h4=>?_))
  ·obtain⟨x,hx⟩:∃x,q.2[k]? =some x:=⟨_,Yi (a8)⟩
   refine wk_ (qn_ (ws_ (wb_ (ws_ (wr_ (e_ mv (k:=e_ mv (k:=?_))))))))
   refine e_ (cO rfl rfl k rfl (a8)) (k:=?_)
   refine gk (k:=wi_ (k:=fun h5=>?_) (m:=fun h5=>?_))
   ·refine go ?_
    refine gk (k:=rt_ Tryz.results9 (k:=?_))
    exact⟨_,hsb, .inl ⟨1,by rw[e0,hI,if_pos (np hx (ay))];all_goals rfl,rfl,rfl,ag⟩⟩
   refine go ?_
   refine ln_ (k+1) (k:=?_)
   try dsimp only
   refine⟨a8,fun j y hj hy=> ?_⟩
   rcases Nat.lt_or_eq_of_le (Nat.le_of_lt_succ hj)with h|rfl
   ·exact hall j y h hy
   ·rw[hx]at hy;cases hy;omega
  have hb:iW q.2=false:=(il q.2).2 fun j x hx=> hall j x (by have:=(Yk.1 hx).1;omega) hx
  rw[if_neg (by rw[hb];simp)]at hI
  refine gk (k:=wl_ (Nat) (fun k=> 1≤k∧(1<k→k≤q.2.length)∧∀j x y,j+1<k→q.2[j]? =some x→q.2[j+1]? =some y→x<y) (fun k=> [(1, .pointer (some ⟨b1,0,none⟩)),(6,s.val),(7, .int .i64 ((i:Nat):Int)),(8,p.2.val),(10, .int .i64 ((k:Nat):Int))]) (fun _=> Row s eK l::dH F::Vr b1 [sf.val, .int .i64 next,sp.val]::H) (fun k=> q.2.length - k) (1) (h0:=?_) (k:=?_))
  ·try dsimp only
   exact⟨Nat.le_refl _,fun h=> absurd h (Nat.lt_irrefl _),fun j x y h=> a8⟩
  rintro k2 ⟨hj1,hj2,hall2⟩
  try dsimp only at*
  refine gk (k:=wi_ (k:=fun h6=>?_) (m:=fun h6=>?_))
  ·obtain⟨x,hx⟩:∃x,q.2[k2 - 1]? =some x:=⟨_,Yi (a8)⟩
   obtain⟨y,hy⟩:∃y,q.2[k2]? =some y:=⟨_,Yi (a8)⟩
   refine go ?_
   refine cW cL (as_ 0 (q:=mv) (k:=as_ 1 (q:=mv) (k:=?_)))
   refine cH 2 rfl rfl (aa) rfl (du (cO rfl rfl k2 rfl (a8))) (?_)
   refine cH 3 rfl rfl (aa) rfl (du (dq rfl (aI) (aI) y hy)) (?_)
   refine as_ 4 (q:=mv) (k:=as_ 5 (q:=mv) (k:=as_ 6 (q:=isb) (k:=?_)))
   refine cH 7 rfl rfl (aa) rfl (du (cO rfl rfl (k2 - 1) (a8) (a8))) (?_)
   refine cH 8 rfl rfl (aa) rfl (du (dq rfl (aI) (aI) x hx)) (?_)
   refine as_ 9 (q:=ile) (k:=az_ (k:=gk (k:=wi_ (k:=fun h7=>?_) (m:=fun h7=>?_))))
   ·refine go ?_
    refine gk (k:=rt_ Tryz.results9 (k:=?_))
    have hr:rise q.2=false:=by
     rw[←Bool.not_eq_true,gJ]
     intro hall
     have:=hall (k2 - 1) x y hx (by rw[Nat.sub_add_cancel hj1];exact hy)
     omega
    exact⟨_,hsb, .inl ⟨5,by rw[e0,hI,if_pos hr];all_goals rfl,rfl,rfl,ag⟩⟩
   refine go ?_
   refine ln_ (k2+1) (k:=?_)
   try dsimp only
   refine⟨a8,fun _=> a8,fun j a c hj ha hc=> ?_⟩
   rcases Nat.lt_or_eq_of_le (Nat.le_of_lt_succ hj)with h|h
   ·exact hall2 j a c h ha hc
   ·obtain rfl:j=k2 - 1:=by omega
    rw[hx]at ha
    rw[Nat.sub_add_cancel hj1,hy]at hc
    cases ha;cases hc;omega
  have hri:rise q.2=true:=(gJ q.2).2 fun j x y hx hy=> hall2 j x y (by have:=(Yk.1 hy).1;omega) hx hy
  rw[if_neg (by rw[hri];simp)]at hI
  refine we_ (qe_ (le_ (bh_ (qn_ (ws_ (wr_ (e_ mv (k:=e_ fla (k:=e_ ldv (k:=e_ mv (k:=?_)))))))))))
  refine e_ (cO rfl rfl i rfl (a8)) (k:=?_)
  refine e_ fle (k:=?_)
  refine e_ (dA rfl (aI) p hp (aI)) (k:=?_)
  refine e_ (bld [(0,_),(1,_)]) (k:=dD eK (k:=fun s4=>?_))
  refine app (hlim:=by simp only[Yb,Yc];omega) (hlim2:=by simp only[Yb,Yc];omega) (k:=fun s5=>?_)
  refine go ?_
  refine c1_ rfl (Hz (l:=q.2) (a8) hb hri k3) (k:=?_)
  rintro _ _ ⟨s6,rfl,rfl⟩
  refine e_ (bld [(0,_),(1,_)]) (k:=dD eK (k:=fun s7=>?_))
  refine app (hlim:=by simp only[Ya,Yb,Yc];omega) (hlim2:=by simp only[Ya,Yb,Yc];omega) (k:=fun s8=>?_)
  refine go ?_
  refine ln_ ((s8,i+1,l++ [(3,p.1)]++ [(4,s6)],bl++ [(3,q.1),(4,uv q.2.length++dz (-1) q.2)],Row s6 eB (uv q.2.length++dz (-1) q.2)::F)) (k:=?_)
  try dsimp only
  refine⟨a8,?_,aB,?_⟩
  ·have h1:=(hB.snoc (F':=Row s6 eB (uv q.2.length++dz (-1) q.2)::F) 3 p.1 q.1 (fun _ _ h=> inferInstance) (.inr hS1)).snoc (F':=Row s6 eB (uv q.2.length++dz (-1) q.2)::F) 4 s6 (uv q.2.length++dz (-1) q.2) (fun _ _ h=> h) (.inl inferInstance)
   simpa using h1
  ·rw[hI]
   cases ee (ps.drop (i+1))with
   |ok r=> simp[vL]
   |error e=> rfl
 obtain rfl:i=ps.length:=a8
 rw[List.drop_of_length_le (Nat.le_refl _),ee]at hI
 have hI':ee ps= .ok bl:=by rw[hI];simp[vL]
 obtain⟨m1,m2⟩:=mU ps bl hk hI'
 obtain⟨n1,n2,n3⟩:=mu ps bl hk hI'
 have hall:∀q∈(1,fq fs)::(2,uv next.toNat)::bl,0<q.1∧q.1<256∧∀x∈q.2,x<256:=by
  intro q hq
  rcases List.mem_cons.1 hq with rfl|hq
  ·exact⟨aj,aj,qz hc⟩
  ·rcases List.mem_cons.1 hq with rfl|hq
   ·exact⟨aj,aj,gH _⟩
   ·exact⟨(n3 q hq).1,(n3 q hq).2.1,(n3 q hq).2.2.1⟩
 have hel:(da ((1,fq fs)::(2,uv next.toNat)::bl)).length≤1000000000:=by
  have hu1:=dc (n:=(fq fs).length) (a8)
  have hu2:=dc (n:=(uv next.toNat).length) (a8)
  rw[show da ((1,fq fs)::(2,uv next.toNat)::bl)=fK 1 (fq fs)++(fK 2 (uv next.toNat)++da bl)from bu,Ya,Ya,ft,ft]
  omega
 refine go ?_
 refine c2_ rfl (xV (bl:=(1,fq fs)::(2,uv next.toNat)::bl) 73 (ag) (ag) (hB.bods2 (fun _ _ h=> inferInstance) (fun _ _ h=> inferInstance)) hall hel (aJ)) (k:=?_)
 rintro _ _ ⟨s5,rfl,rfl⟩
 refine gk (k:=rt_ Tryz.results9 (k:=?_))
 exact⟨_,hsb, .inr ⟨_,s5,by rw[e0,hI'],rfl,rfl⟩⟩
class sI (G:cM):Prop where
 out:G.eT=368
theorem IV:∃k,Tryz.prog.info? 368=some k∧k.comparable=true:=by
 have h:(Tryz.prog.info? 368).map (·.comparable)=some true:=aa
 cases hk:Tryz.prog.info? 368 with
 |none=> rw[hk]at h;cases h
 |some k=> rw[hk]at h;exact⟨k,rfl,bY⟩
section
variable {G:cM}{t:Tm}{H:cG}{dst:Option Tmp}{ty:TypeId}{pos:String}{after:Array Edge}{g:Option (Nat×Bool)}
theorem dJ {T U:TypeId}{x y:Operand}{i j:Nat}{ms:Array (String×TypeId)} [he:sI G] [hT:Und Tryz.prog T (.interface ms)] [hg:Glb G H] [h1:jh i] [h2:jh j] (hx:evo t x=some (G.err i)) (hy:evo t y=some (G.err j)):Ev G Tryz.prog ⟨dst, .binOp .eql T x y U,ty,pos,after,g⟩ t H (.bool (decide (i=j))):=
 haveI:Und Tryz.prog G.eT (.pointer 394):=⟨by rw[he.out];exact Tryz.underlying368⟩
 Ar (by rw[he.out];exact IV) (ag) hg.inj hx hy
end
def EX (e:Nat):Int:=if 15≤e∧e<24 then kG e else -1
theorem EW:∀e:Fin 24,(e.val≠2∧e.val≠3∧e.val≠4∧e.val≠5∧e.val≠6∧e.val≠7∧e.val≠8∧e.val≠1∧e.val≠9∧e.val≠10∧e.val≠0∧e.val≠11∧e.val≠12∧e.val≠13∧e.val≠14)→EX e.val=kG e.val:=ag
theorem I8 {G:cM}{H:cG} [hg:Glb G H] [sI G] (e:Nat) [he:jh e]:SC G Tryz.prog 41 [G.err e] H (fun v H'=> v= .int .i64 (EX e)∧H'=H):=by
 refine sWk Tryz.func41 Tryz.ntmps41 ?_
 refine ws_ (wr_ (e_ asn (k:=on_ (qn_ (ws_ (ws_ (wr_ (e_ mv (k:=on_ (qn_ (wb_ (ws_ (wr_ (?_))))))))))))))
 refine e_ ldv (k:=?_)
 refine e_ (dJ rfl rfl) (k:=?_)
 refine gk (k:=wi_ (k:=fun h1=>?_) (m:=fun h1=>?_))
 ·refine gk (k:=rt_ Tryz.results41 (k:=?_))
  exact⟨_,cK.refl,az,rfl⟩
 refine ws_ (wr_ (e_ ldv (k:=?_)))
 refine e_ (dJ rfl rfl) (k:=?_)
 refine gk (k:=wi_ (k:=fun h2=>?_) (m:=fun h2=>?_))
 ·refine gk (k:=rt_ Tryz.results41 (k:=?_))
  exact⟨_,cK.refl,az,rfl⟩
 refine ws_ (wr_ (e_ ldv (k:=?_)))
 refine e_ (dJ rfl rfl) (k:=?_)
 refine gk (k:=wi_ (k:=fun h3=>?_) (m:=fun h3=>?_))
 ·refine gk (k:=rt_ Tryz.results41 (k:=?_))
  exact⟨_,cK.refl,az,rfl⟩
 refine ws_ (wr_ (e_ ldv (k:=?_)))
 refine e_ (dJ rfl rfl) (k:=?_)
 refine gk (k:=wi_ (k:=fun h4=>?_) (m:=fun h4=>?_))
 ·refine gk (k:=rt_ Tryz.results41 (k:=?_))
  exact⟨_,cK.refl,az,rfl⟩
 refine ws_ (wr_ (e_ ldv (k:=?_)))
 refine e_ (dJ rfl rfl) (k:=?_)
 refine gk (k:=wi_ (k:=fun h5=>?_) (m:=fun h5=>?_))
 ·refine gk (k:=rt_ Tryz.results41 (k:=?_))
  exact⟨_,cK.refl,az,rfl⟩
 refine ws_ (wr_ (e_ ldv (k:=?_)))
 refine e_ (dJ rfl rfl) (k:=?_)
 refine gk (k:=wi_ (k:=fun h6=>?_) (m:=fun h6=>?_))
 ·refine gk (k:=rt_ Tryz.results41 (k:=?_))
  exact⟨_,cK.refl,az,rfl⟩
 refine ws_ (wr_ (e_ ldv (k:=?_)))
 refine e_ (dJ rfl rfl) (k:=?_)
 refine gk (k:=wi_ (k:=fun h7=>?_) (m:=fun h7=>?_))
 ·refine gk (k:=rt_ Tryz.results41 (k:=?_))
  exact⟨_,cK.refl,az,rfl⟩
 refine ws_ (wr_ (e_ ldv (k:=?_)))
 refine e_ (dJ rfl rfl) (k:=?_)
 refine gk (k:=wi_ (k:=fun h8=>?_) (m:=fun h8=>?_))
 ·refine gk (k:=rt_ Tryz.results41 (k:=?_))
  exact⟨_,cK.refl,az,rfl⟩
 refine ws_ (wr_ (e_ ldv (k:=?_)))
 refine e_ (dJ rfl rfl) (k:=?_)
 refine gk (k:=wi_ (k:=fun h9=>?_) (m:=fun h9=>?_))
 ·refine gk (k:=rt_ Tryz.results41 (k:=?_))
  exact⟨_,cK.refl,az,rfl⟩
 refine gk (k:=rt_ Tryz.results41 (k:=?_))
 exact⟨_,cK.refl,by rw[EX,if_neg (by have:=he.out;omega)];all_goals rfl,rfl⟩
theorem u7 {G:cM}{H:cG} [hg:Glb G H] [sI G] (e:Nat) [he:jh e]:SC G Tryz.prog 12 [G.err e] H (fun v H'=> v= .int .i64 (kG e)∧H'=H):=by
 refine sWk Tryz.func12 Tryz.ntmps12 ?_
 refine ws_ (wr_ (e_ asn (k:=on_ (qn_ (ws_ (ws_ (wr_ (e_ mv (k:=on_ (qn_ (wb_ (ws_ (wr_ (?_))))))))))))))
 refine e_ (gR rfl) (k:=?_)
 refine gk (k:=ir_ (k:=fun h1=>?_) (m:=fun h1=>?_))
 ·cases h1
 refine ws_ (wr_ (e_ ldv (k:=?_)))
 refine e_ (dJ rfl rfl) (k:=?_)
 refine gk (k:=wi_ (k:=fun h2=>?_) (m:=fun h2=>?_))
 ·refine gk (k:=rt_ Tryz.results12 (k:=?_))
  exact⟨_,cK.refl,az,rfl⟩
 refine ws_ (wr_ (e_ ldv (k:=?_)))
 refine e_ (dJ rfl rfl) (k:=?_)
 refine gk (k:=wi_ (k:=fun h3=>?_) (m:=fun h3=>?_))
 ·refine gk (k:=rt_ Tryz.results12 (k:=?_))
  exact⟨_,cK.refl,az,rfl⟩
 refine ws_ (wr_ (e_ ldv (k:=?_)))
 refine e_ (dJ rfl rfl) (k:=?_)
 refine gk (k:=wi_ (k:=fun h4=>?_) (m:=fun h4=>?_))
 ·refine gk (k:=rt_ Tryz.results12 (k:=?_))
  exact⟨_,cK.refl,az,rfl⟩
 refine ws_ (wr_ (e_ ldv (k:=?_)))
 refine e_ (dJ rfl rfl) (k:=?_)
 refine gk (k:=wi_ (k:=fun h5=>?_) (m:=fun h5=>?_))
 ·refine gk (k:=rt_ Tryz.results12 (k:=?_))
  exact⟨_,cK.refl,az,rfl⟩
 refine ws_ (wr_ (e_ ldv (k:=?_)))
 refine e_ (dJ rfl rfl) (k:=?_)
 refine gk (k:=wi_ (k:=fun h6=>?_) (m:=fun h6=>?_))
 ·refine gk (k:=rt_ Tryz.results12 (k:=?_))
  exact⟨_,cK.refl,az,rfl⟩
 refine ws_ (wr_ (e_ ldv (k:=?_)))
 refine e_ (dJ rfl rfl) (k:=?_)
 refine gk (k:=wi_ (k:=fun h7=>?_) (m:=fun h7=>?_))
 ·refine gk (k:=rt_ Tryz.results12 (k:=?_))
  exact⟨_,cK.refl,az,rfl⟩
 refine ws_ (wr_ (e_ ldv (k:=?_)))
 refine e_ (dJ rfl rfl) (k:=?_)
 refine gk (k:=wi_ (k:=fun h8=>?_) (m:=fun h8=>?_))
 ·refine gk (k:=rt_ Tryz.results12 (k:=?_))
  exact⟨_,cK.refl,az,rfl⟩
 refine ws_ (wr_ (e_ ldv (k:=?_)))
 refine e_ (dJ rfl rfl) (k:=?_)
 refine gk (k:=wi_ (k:=fun h9=>?_) (m:=fun h9=>?_))
 ·refine gk (k:=rt_ Tryz.results12 (k:=?_))
  exact⟨_,cK.refl,az,rfl⟩
 refine ws_ (wr_ (e_ ldv (k:=?_)))
 refine e_ (dJ rfl rfl) (k:=?_)
 refine gk (k:=wi_ (k:=fun h10=>?_) (m:=fun h10=>?_))
 ·refine gk (k:=rt_ Tryz.results12 (k:=?_))
  exact⟨_,cK.refl,az,rfl⟩
 refine ws_ (wr_ (e_ ldv (k:=?_)))
 refine e_ (dJ rfl rfl) (k:=?_)
 refine gk (k:=wi_ (k:=fun h11=>?_) (m:=fun h11=>?_))
 ·refine gk (k:=rt_ Tryz.results12 (k:=?_))
  exact⟨_,cK.refl,az,rfl⟩
 refine ws_ (wr_ (e_ ldv (k:=?_)))
 refine e_ (dJ rfl rfl) (k:=?_)
 refine gk (k:=wi_ (k:=fun h12=>?_) (m:=fun h12=>?_))
 ·refine gk (k:=rt_ Tryz.results12 (k:=?_))
  exact⟨_,cK.refl,az,rfl⟩
 refine ws_ (wr_ (e_ ldv (k:=?_)))
 refine e_ (dJ rfl rfl) (k:=?_)
 refine gk (k:=wi_ (k:=fun h13=>?_) (m:=fun h13=>?_))
 ·refine gk (k:=rt_ Tryz.results12 (k:=?_))
  exact⟨_,cK.refl,az,rfl⟩
 refine ws_ (wr_ (e_ ldv (k:=?_)))
 refine e_ (dJ rfl rfl) (k:=?_)
 refine gk (k:=wi_ (k:=fun h14=>?_) (m:=fun h14=>?_))
 ·refine gk (k:=rt_ Tryz.results12 (k:=?_))
  exact⟨_,cK.refl,az,rfl⟩
 refine ws_ (wr_ (e_ ldv (k:=?_)))
 refine e_ (dJ rfl rfl) (k:=?_)
 refine gk (k:=wi_ (k:=fun h15=>?_) (m:=fun h15=>?_))
 ·refine gk (k:=rt_ Tryz.results12 (k:=?_))
  exact⟨_,cK.refl,az,rfl⟩
 refine ws_ (wr_ (e_ ldv (k:=?_)))
 refine e_ (dJ rfl rfl) (k:=?_)
 refine gk (k:=wi_ (k:=fun h16=>?_) (m:=fun h16=>?_))
 ·refine gk (k:=rt_ Tryz.results12 (k:=?_))
  exact⟨_,cK.refl,az,rfl⟩
 refine go ?_
 refine d1_ rfl (I8 e) (k:=gk (k:=rt_ Tryz.results12 (k:=?_)))
 exact⟨_,cK.refl,by rw[EW ⟨e,he.out⟩ (aP)];all_goals rfl,rfl⟩
theorem EU {G:cM}{H:cG} [hg:Glb G H]:SC G Tryz.prog 12 [.nilIface] H (fun v H'=> v= .int .i64 0∧H'=H):=by
 refine sWk Tryz.func12 Tryz.ntmps12 ?_
 refine ws_ (wr_ (e_ asn (k:=on_ (qn_ (ws_ (ws_ (wr_ (e_ mv (k:=on_ (qn_ (wb_ (ws_ (wr_ (?_))))))))))))))
 refine e_ (gS rfl) (k:=?_)
 refine gk (k:=ir_ (k:=fun h1=>?_) (m:=fun h1=>?_))
 ·refine gk (k:=rt_ Tryz.results12 (k:=?_))
  exact⟨_,hsb,rfl,rfl⟩
 cases h1
def pk:List FV:= [⟨⟨#[116]⟩,1,false,false,false⟩]
def jw:Pcs:= [([120], [2,5])]
theorem iA.one {H:cG}{a b:SV}{x:List Nat}{y:List Int}(ha:Sl H a eB x) (hb:Sl H b eI y):iA H [(a,b)] [(x,y)]:=
 (iA.nil (F:=H)).snoc a b x y (fun _ _ h=> h) (fun _ _ h=> h) ha hb
theorem iA.ext {F F':cG}{l:List (SV×SV)}{ps:Pcs}(h:iA F l ps) (hF:∀(s:SV) (b:List Nat),Sl F s eB b→Sl F' s eB b) (hF2:∀(s:SV) (b:List Int),Sl F s eI b→Sl F' s eI b):iA F' l ps:=
 ⟨h.1,fun i p q hp hq=> ⟨hF _ _ (h.2 i p q hp hq).1,hF2 _ _ (h.2 i p q hp hq).2⟩⟩
theorem wv {G:cM}{H:cG}:SC G Tryz.prog 30 [] H (fun v H'=> ∃lp F,∃sf sp:SV,iA F lp jw∧v= .agg [sf.val, .int .i64 300,sp.val].toArray∧H'=Row sf eF pk::Row sp eP lp::dH F::H):=by
 refine sWk Tryz.func30 Tryz.ntmps30 ?_
 refine gk (k:=alc (k:=fun b1=>?_))
 refine on_ (qn_ (ws_ (wr_ (e_ (bld [(0,_),(1,_)]) (k:=dD eF (k:=fun s1=>?_))))))
 refine e_ (bld [(0,_)]) (k:=dD eB (k:=fun s2=>?_))
 refine s_ (xG rfl (aj)) (k:=?_)
 rintro _ _ ⟨rfl,rfl⟩
 refine s_ (mi eI rfl rfl rfl) (k:=?_)
 rintro _ _ ⟨s3,rfl,rfl⟩
 refine e_ (bld [(0,_),(1,_)]) (k:=dD eP (k:=fun s4=>?_))
 refine e_ (bld [(0,_),(1,_),(2,_)]) (k:=gk (k:=rt_ Tryz.results30 (k:=?_)))
 refine⟨Row s1 eF pk::Row s4 eP [(s2,s3)]::dH [Row s2 eB [120],Row s3 eI [2,5]]::H,?_,_,_,s1,s4,iA.one inferInstance inferInstance,rfl,rfl⟩
 refine cK.row (cK.row (iT (iT (jH ?_))))
 exact hsb
section
variable {G:cM}{P:Program}{t:Tm}{H:cG}{dst:Option Tmp}{ty:TypeId}{pos:String}{after:Array Edge}{g:Option (Nat×Bool)}
theorem mG {T E:TypeId}{x:Operand}{v:Value} [hT:Und P T (.pointer E)] (hx:evo t x=some v):Ev G P ⟨dst, .makeInterface T x,ty,pos,after,g⟩ t H (.iface T v):=
 fun ρ hρ w _=> by
  simp only[execOp,hρ _ _ hx,Instr.makeInterface,Sem.run_bind,df (T:=T),Result.andThen_ok,Sem.run_pure]
theorem D6 (v:Value) (W:World):(Instr.typeAssert (.iface 104 v) 34 104 true).run Tryz.prog W= .ok (.tuple #[v, .bool true]) W:=aa
theorem qy {x:Operand}{v:Value}(hx:evo t x=some (.iface 104 v)):Ev G Tryz.prog ⟨dst, .typeAssert x 34 104 true,ty,pos,after,g⟩ t H (.tuple #[v, .bool true]):=
 fun ρ hρ w _=> by
  simp only[execOp,hρ _ _ hx,Sem.run_bind,D6,Result.andThen_ok,Sem.run_pure]
end
theorem Ga {G:cM}{H:cG}{s:SV}{fs:List FV} [Sl H s eF fs] (hne:fs≠ []) (hn:fs.length≤1000000000):SC G Tryz.prog 98 [s.val] H (fun v H'=> ∃s':SV,v=s'.val∧H'=Row s' eF fs::H):=by
 refine sWk Tryz.func98 Tryz.ntmps98 ?_
 refine ws_ (wr_ (e_ asn (k:=on_ (qn_ (ws_ (ws_ (wr_ (e_ mv (k:=?_)))))))))
 refine e_ (oX rfl hne) (k:=?_)
 refine gk (k:=ir_ (k:=fun h1=>?_) (m:=fun h1=>?_))
 ·cases h1
 refine go ?_
 refine s_ (cZ eF rfl) (k:=?_)
 rintro _ _ ⟨s1,rfl,rfl⟩
 refine go ?_
 refine app (hlim:=by simp only[Yc];omega) (hlim2:=by simp only[Yc];omega) (k:=fun s2=>?_)
 refine gk (k:=rt_ Tryz.results98 (k:=?_))
 rw[Ye]
 exact⟨_,hsb,s2,rfl,rfl⟩
theorem G9 {G:cM}{H:cG}{s:SV}{fs:List FV} [Sl H s eF fs] (hne:fs≠ []) (hn:fs.length≤1000000000):SC G Tryz.prog 58 [.agg [s.val].toArray] H (fun v H'=> ∃s':SV,v= .agg [s'.val].toArray∧H'=Row s' eF fs::H):=by
 refine sWk Tryz.func58 Tryz.ntmps58 ?_
 refine gk (k:=bxx (k:=fun b1=>?_))
 refine alc (k:=fun b2=>?_)
 refine go ?_
 refine c1_ rfl (Ga hne hn) (k:=?_)
 rintro _ _ ⟨s1,rfl,rfl⟩
 refine e_ (bld [(0,_)]) (k:=gk (k:=rt_ Tryz.results58 (k:=?_)))
 exact⟨_,hsb,s1,rfl,rfl⟩
theorem EV {G:cM}{H:cG}{s:SV}{fs:List FV} [hg:Glb G H] [Sl H s eF fs] (hc:e7 fs=true):SC G Tryz.prog 92 [.agg [s.val].toArray] H (fun v H'=> ∃be,∃s':SV,v= .tuple #[.pointer (some ⟨be,0,none⟩), .nilIface]∧H'=Vr be [s'.val, .int .i64 0,SV.nil.val,SV.nil.val, .bool true]::Row s' eF fs::H):=by
 obtain⟨⟨hl1,hl2⟩,hfl⟩:=eG hc
 have hne:fs≠ []:=by rintro rfl;simp at hl1
 refine sWk Tryz.func92 Tryz.ntmps92 ?_
 refine gk (k:=bxx (k:=fun b1=>?_))
 refine go ?_
 refine c1_ rfl (po (a8) (fun f hf=> by have:=hfl f hf;omega)) (k:=?_)
 rintro v1 H1 ⟨rfl,hK⟩
 rcases hK with⟨hc',rfl⟩|⟨hc',rfl⟩
 ·exfalso;rw[hc]at hc';cases hc'
 refine e_ asn (k:=on_ (qn_ (ws_ (wr_ (e_ mv (k:=?_))))))
 refine e_ (cN rfl) (k:=?_)
 refine gk (k:=dw (k:=go ?_))
 refine c1_ rfl (G9 hne (a8)) (k:=?_)
 rintro _ _ ⟨s1,rfl,rfl⟩
 refine e_ (bld [(0,_),(4,_)]) (k:=bxx (k:=fun be=>?_))
 refine gk (k:=rt_ Tryz.results92 (k:=?_))
 exact⟨_,hsb,be,s1,rfl,rfl⟩
theorem zF {G:cM}{H:cG}{s sf:SV}{fs:List FV}{xs:List Nat} [hg:Glb G H] [Tab H 26 ig] [Tab H 24 fF] [Sl H sf eF fs] [hs:Sl H s eB xs] (hc:e7 fs=true) (hr:eZ 83 xs=none) (hn:xs.length≤1000000000) (hb:∀x∈xs,x<256):SC G Tryz.prog 124 [.agg [sf.val].toArray,s.val] H (fun v H'=> v= .tuple #[.pointer none,G.err 10]∧H'=H):=by
 obtain⟨⟨hl1,hl2⟩,hfl⟩:=eG hc
 refine sWk Tryz.func124 Tryz.ntmps124 ?_
 refine gk (k:=bxx (k:=fun b1=>?_))
 refine go ?_
 refine c1_ rfl (po (a8) (fun f hf=> by have:=hfl f hf;omega)) (k:=?_)
 rintro v1 H1 ⟨rfl,hK⟩
 rcases hK with⟨hc',rfl⟩|⟨hc',rfl⟩
 ·exfalso;rw[hc]at hc';cases hc'
 refine e_ asn (k:=on_ (qn_ (ws_ (wr_ (e_ mv (k:=?_))))))
 refine e_ (cN rfl) (k:=?_)
 refine gk (k:=dw (k:=go ?_))
 refine c2_ rfl (By 83 (ag) hn hb) (k:=?_)
 rintro v1 H1 hK
 rcases hK with⟨he,rfl,e,rfl⟩|⟨bl,lb,F0,sbl,he,hB,rfl,rfl⟩
 ·refine e_ mv (k:=e_ exr (k:=e_ exr (k:=e_ asn (k:=e_ asn (k:=on_ (qn_ (ws_ (ws_ (wr_ (e_ mv (k:=?_)))))))))))
  refine e_ (cR rfl) (k:=?_)
  refine gk (k:=ift (k:=go ?_))
  refine cW cL (as_ 0 (q:=ldv) (k:=as_ 1 (q:=asn) (k:=as_ 2 (q:=asn) (k:=az_ (k:=gk (k:=rt_ Tryz.results124 (k:=?_)))))))
  exact⟨_,hsb,rfl,rfl⟩
 exfalso;rw[hr]at he;cases he
theorem I1 {G:cM}{H:cG}{be:Nat}{sf s1 s2 sh sw:SV}{fs:List FV}{xs:List Nat}{nx last:Int}{on:Bool} [hg:Glb G H] [Tab H 26 ig] [Tab H 24 fF] [he:dh H be [sf.val, .int .i64 nx,sh.val,sw.val, .bool on]] [Sl H sf eF fs] [hs:Sl H s1 eB xs] (hc:e7 fs=true) (hr:eZ 83 xs=none) (hn:xs.length≤1000000000) (hb:∀x∈xs,x<256):SC G Tryz.prog 93 [.pointer (some ⟨be,0,none⟩), .agg [s1.val,s2.val].toArray, .int .i64 last] H (fun v H'=> v= .tuple #[.agg [.pointer none, .pointer none].toArray,G.err 10]∧H'=H):=by
 refine sWk Tryz.func93 Tryz.ntmps93 ?_
 refine gk (k:=bxx (k:=fun b1=>?_))
 refine alc (k:=fun b2=>?_)
 refine go ?_
 refine di cL (fun i=> [6].contains i) (fun k H=> (k=3→dh H be [sf.val, .int .i64 nx,sh.val,sw.val, .bool on])∧(k=5→dh H b1 [s1.val,s2.val])) (af_ 0 (q:=cE fun H hH=>mv) (k:=af_ 1 (q:=cE fun H hH=>nck) (k:=af_ 2 (q:=cE fun H hH=>fla) (k:=?_))))
 refine cH 3 rfl rfl (aa) rfl (cE fun H hH=>aF) (?_)
 refine af_ 4 (q:=cE fun H hH=>fla) (k:=?_)
 refine cH 5 rfl rfl (aa) rfl (cE fun H hH=>aK) (?_)
 refine cQ 6 rfl (aa) rfl (fun k hk=> ⟨fun hi=> ab,fun hi=> ab⟩) (dm (vs:= [_,_]) rfl (zF hc hr hn hb)) ?_
 rintro _ _ ⟨rfl,rfl⟩
 refine af_ 7 (q:=cE fun H hH=>mv) (k:=af_ 8 (q:=cE fun H hH=>exr) (k:=af_ 9 (q:=cE fun H hH=>exr) (k:=af_ 10 (q:=cE fun H hH=>asn) (k:=af_ 11 (q:=cE fun H hH=>asn) (k:=db (aa) (fun k hk=> ⟨fun hi=> absurd hk (ad),fun hi=> absurd hk (ad)⟩) (qn_ (ws_ (ws_ (wr_ (e_ mv (k:=?_)))))))))))
 refine e_ (cR rfl) (k:=?_)
 refine gk (k:=ir_ (k:=fun h1=>?_) (m:=fun h1=>?_))
 ·refine go ?_
  refine di cL (fun i=> [2].contains i) (fun k H=> (k=1→dh H 10 [G.err 10])) (af_ 0 (q:=cE fun H hH=>bld []) (k:=?_))
  refine cH 1 rfl rfl (aa) rfl (cE fun H hH=>aq) (?_)
  refine cQ 2 rfl (aa) rfl (fun k hk=> fun hi=> ab) (dk rfl rfl rfl) ?_
  rintro _ _ ⟨rfl,rfl⟩
  refine af_ 3 (q:=cE fun H hH=>asn) (k:=db (aa) (fun k hk=> fun hi=> ab) (gk (k:=rt_ Tryz.results93 (k:=?_))))
  exact⟨_,hsb,rfl,rfl⟩
 cases h1
theorem Is {G:cM}{H:cG}{sf sp:SV}{fs:List FV}{lp:List (SV×SV)}{n:Int}{p:SV×SV}{xs:List Nat} [hg:Glb G H] [Tab H 26 ig] [Tab H 24 fF] [Sl H sf eF fs] [hsp:Sl H sp eP lp] (hc:e7 fs=true) (h0:0≤n) (h1:n≤1099511627776) (hp:lp[0]? =some p) (hs:Sl H p.1 eB xs) (hr:eZ 83 xs=none) (hn:xs.length≤1000000000) (hb:∀x∈xs,x<256):
 SC G Tryz.prog 56 [.agg [sf.val, .int .i64 n,sp.val].toArray] H (fun v H'=> ∃bp,v= .tuple #[.pointer none, .iface 104 (.pointer (some ⟨bp,0,none⟩))]∧H'=Vr bp [.int .i64 0,G.err 10]::H):=by
 have hl0:=(Yk.1 hp).1
 refine sWk Tryz.func56 Tryz.ntmps56 ?_
 refine gk (k:=bxx (k:=fun b1=>?_))
 refine go ?_
 refine c1_ rfl (EV hc) (k:=?_)
 rintro _ _ ⟨be,s1,rfl,rfl⟩
 refine e_ mv (k:=e_ exr (k:=e_ exr (k:=e_ asn (k:=e_ asn (k:=on_ (qn_ (ws_ (ws_ (wr_ (e_ mv (k:=?_)))))))))))
 refine e_ (cN rfl) (k:=?_)
 refine gk (k:=dw (k:=wk_ (qn_ (ws_ (ws_ (wr_ (e_ fla (k:=e_ ldv (k:=e_ ilt (k:=sp_ (mv) (k:=fun h1=>?_) (m:=fun h1=>?_)))))))))))
 ·exfalso;omega
 refine gk (k:=wi_ (k:=fun h2=>?_) (m:=fun h2=>?_))
 ·exfalso;omega
 refine go ?_
 refine gk (k:=wl_ (Unit) (fun _=> True) (fun _=> [(4, .pointer (some ⟨be,0,none⟩)),(6, .int .i64 (-1)),(36,sp.val),(37, .int .i64 ((lp.length:Nat):Int)),(38, .int .i64 0)]) (fun _=> Vr be [s1.val, .int .i64 n,SV.nil.val,SV.nil.val, .bool true]::Row s1 eF fs::H) (fun _=> 0) (()) (h0:=?_) (k:=?_))
 ·try dsimp only
 rintro _ _
 try dsimp only at*
 refine gk (k:=wi_ (k:=fun h3=>?_) (m:=fun h3=>?_))
 ·refine wk_ (qn_ (ws_ (wb_ (ws_ (wr_ (e_ mv (k:=?_)))))))
  refine e_ (cO rfl rfl 0 rfl (a8)) (k:=?_)
  refine e_ (lU rfl (aI) (aI) p hp) (k:=?_)
  refine alc (k:=fun b2=>?_)
  refine go ?_
  refine d3_ rfl (I1 (fs:=fs) (xs:=xs) (sh:=SV.nil) (sw:=SV.nil) (on:=true) hc hr hn hb) (k:=gk (k:=alc (k:=fun b3=>?_)))
  refine sto (k:=e_ asn (k:=on_ (qn_ (ws_ (ws_ (wr_ (e_ mv (k:=?_))))))))
  refine e_ (cR rfl) (k:=?_)
  refine gk (k:=ift (k:=ws_ (wr_ (e_ mv (k:=e_ mv (k:=e_ (bld [(0,_),(1,_)]) (k:=bxx (k:=fun bp=>?_))))))))
  refine e_ (mG rfl) (k:=?_)
  refine gk (k:=rt_ Tryz.results56 (k:=?_))
  exact⟨_,hsb,bp,rfl,rfl⟩
 exfalso;omega
theorem Ig {G:cM}{H:cG}{s:SV}{xs:List Nat} [hg:Glb G H] [Tab H 26 ig] [Tab H 24 fF] [hs:Sl H s eB xs] (hn:xs.length≤1000000000) (hb:∀x∈xs,x<256) (hu:unE xs=none):SC G Tryz.prog 27 [s.val] H (fun v H'=> v= .tuple #[.pointer none,G.err 10]∧H'=H):=by
 refine sWk Tryz.func27 Tryz.ntmps27 ?_
 refine go ?_
 refine c1_ rfl (nN hn hb) (k:=?_)
 rintro v1 H1 hK
 rcases hK with⟨_,rfl,rfl⟩|⟨fs,n,ps,lp,F,sf,sp,he,hP,rfl,rfl⟩
 ·refine gk (k:=alc (k:=fun b1=>?_))
  refine sto (k:=e_ asn (k:=on_ (qn_ (ws_ (ws_ (wr_ (e_ mv (k:=?_))))))))
  refine e_ (cR rfl) (k:=?_)
  refine gk (k:=ift (k:=gk (k:=rt_ Tryz.results27 (k:=?_))))
  exact⟨_,hsb,rfl,rfl⟩
 exfalso;rw[hu]at he;cases he
theorem Ih {G:cM}{H:cG}{s:SV}{xs:List Nat}{fs:List FV}{n:Nat}{ps:Pcs}{q:List Nat×List Int} [hg:Glb G H] [Tab H 26 ig] [Tab H 24 fF] [hs:Sl H s eB xs] (hn:xs.length≤1000000000) (hb:∀x∈xs,x<256) (hu:unE xs=some (fs,n,ps)) (hc:e7 fs=true) (hnx:n≤1099511627776) (hq:ps[0]? =some q) (hr:eZ 83 q.1=none) (hql:q.1.length≤1000000000) (hqb:∀x∈q.1,x<256):
 SC G Tryz.prog 27 [s.val] H (fun v H'=> ∃bp,v= .tuple #[.pointer none, .iface 104 (.pointer (some ⟨bp,0,none⟩))]∧H'=Vr bp [.int .i64 0,G.err 10]::H):=by
 refine sWk Tryz.func27 Tryz.ntmps27 ?_
 refine go ?_
 refine c1_ rfl (nN hn hb) (k:=?_)
 rintro v1 H1 hK
 rcases hK with⟨he,rfl,rfl⟩|⟨fs',n',ps',lp,F,sf,sp,he,hP,rfl,rfl⟩
 ·exfalso;rw[hu]at he;cases he
 rw[hu]at he
 simp only[Option.some.injEq,Prod.mk.injEq]at he
 obtain⟨rfl,rfl,rfl⟩:=he
 obtain⟨p,hp⟩:∃p,lp[0]? =some p:=by
  have h0:=(Yk.1 hq).1
  exact⟨_,Yi (by rw[hP.1];exact h0)⟩
 obtain⟨hS1,hS2⟩:=hP.2 0 p q hp hq
 refine gk (k:=alc (k:=fun b1=>?_))
 refine sto (k:=e_ asn (k:=on_ (qn_ (ws_ (ws_ (wr_ (e_ mv (k:=?_))))))))
 refine e_ (cN rfl) (k:=?_)
 refine gk (k:=dw (k:=go ?_))
 refine c1_ rfl (Is (fs:=fs) (lp:=lp) (p:=p) (xs:=q.1) hc (a8) (a8) hp inferInstance hr hql hqb) (k:=?_)
 rintro _ _ ⟨bp,rfl,rfl⟩
 refine gk (k:=rt_ Tryz.results27 (k:=?_))
 exact⟨_,hsb,bp,rfl,rfl⟩
theorem K8 {G:cM}{H:cG}{s:SV}{xs:List Nat} [hg:Glb G H] [sI G] [Tab H 26 ig] [Tab H 24 fF] [hs:Sl H s eB xs] (hn:xs.length≤1000000000) (hb:∀x∈xs,x<256) (hu:unE xs=none):SC G Tryz.prog 24 [s.val, .int .i64 (-1), .int .i64 10] H (fun v H'=> v= .bool true∧H'=H):=by
 refine sWk Tryz.func24 Tryz.ntmps24 ?_
 refine go ?_
 refine d1_ rfl (Ig hn hb hu) (k:=e_ mv (k:=e_ exr (k:=e_ exr (k:=e_ asn (k:=e_ asn (k:=on_ (qn_ (ws_ (ws_ (wr_ (e_ mv (k:=?_))))))))))))
 refine e_ (iG rfl) (k:=?_)
 refine e_ mv (k:=eg_ mv (k:=?_))
 refine eg_ (gR rfl) (k:=?_)
 refine gk (k:=dw (k:=gk (k:=wi_ (k:=fun h1=>?_) (m:=fun h1=>?_))))
 ·refine go ?_
  refine d1_ rfl (u7 10) (k:=gk (k:=rt_ Tryz.results24 (k:=?_)))
  exact⟨_,hsb,rfl,rfl⟩
 exfalso;omega
theorem Ka {G:cM}{H:cG}{s:SV}{xs:List Nat}{fs:List FV}{n:Nat}{ps:Pcs}{q:List Nat×List Int} [hg:Glb G H] [sI G] [Tab H 26 ig] [Tab H 24 fF] [hs:Sl H s eB xs] (hn:xs.length≤1000000000) (hb:∀x∈xs,x<256) (hu:unE xs=some (fs,n,ps)) (hc:e7 fs=true) (hnx:n≤1099511627776) (hq:ps[0]? =some q) (hr:eZ 83 q.1=none) (hql:q.1.length≤1000000000) (hqb:∀x∈q.1,x<256):
 SC G Tryz.prog 24 [s.val, .int .i64 0, .int .i64 10] H (fun v H'=> v= .bool true∧H'=H):=by
 refine sWk Tryz.func24 Tryz.ntmps24 ?_
 refine go ?_
 refine c1_ rfl (Ih hn hb hu hc hnx hq hr hql hqb) (k:=?_)
 rintro _ _ ⟨bp,rfl,rfl⟩
 refine e_ mv (k:=e_ exr (k:=e_ exr (k:=e_ asn (k:=e_ asn (k:=on_ (qn_ (ws_ (ws_ (wr_ (e_ mv (k:=?_)))))))))))
 refine e_ (iG rfl) (k:=?_)
 refine e_ mv (k:=eg_ mv (k:=?_))
 refine eg_ (gR rfl) (k:=?_)
 refine gk (k:=dw (k:=gk (k:=wi_ (k:=fun h1=>?_) (m:=fun h1=>?_))))
 ·exfalso;omega
 refine wk_ (qn_ (ws_ (wr_ (e_ mv (k:=?_)))))
 refine e_ (qy rfl) (k:=?_)
 refine e_ mv (k:=e_ exr (k:=e_ exr (k:=e_ asn (k:=e_ asn (k:=on_ (qn_ (ws_ (wr_ (e_ mv (k:=sr_ (mv) (k:=fun h2=>?_) (m:=fun h2=>?_)))))))))))
 ·refine eg_ mv (k:=?_)
  refine eg_ (iG rfl) (k:=?_)
  refine e_ pkt (k:=sr_ (mv) (k:=fun h3=>?_) (m:=fun h3=>?_))
  ·refine eg_ mv (k:=eg_ nck (k:=eg_ fla (k:=eg_ ldv (k:=eg_ mv (k:=eg_ ieq (k:=e_ pkt (k:=sr_ (mv) (k:=fun h4=>?_) (m:=fun h4=>?_))))))))
   ·refine go ?_
    refine sg_ (dm (vs:= [_]) rfl (u7 10)) (k:=?_)
    rintro _ _ ⟨rfl,rfl⟩
    refine gk (k:=rt_ Tryz.results24 (k:=?_))
    exact⟨_,hsb,rfl,rfl⟩
   exact absurd h4 (ag)
  cases h3
 cases h2
theorem qZ:e7 pk=true:=an
theorem yd {fs:List FV}{next:Int}{ps:Pcs}{img:List Nat}(hk:sH ps) (hn:ps.length≤1000000000) (h:fG fs next ps= .ok img):img.length≤jK ps+1200∧∀x∈img,x<256:=by
 rw[fG]at h
 split at h
 ·cases h
 ·rename_i hc
  simp only[Bool.not_eq_false]at hc
  split at h
  ·cases h
  ·rename_i hx
   split at h
   ·cases h
   ·rename_i bl hp
    simp only[Except.ok.injEq]at h
    subst h
    obtain⟨q1,q2,q3⟩:=mu ps bl hk hp
    obtain⟨m1,m2⟩:=mU ps bl hk hp
    have hes:=nY hc
    have hun:=dc (n:=next.toNat) (a8)
    have hu1:=dc (n:=(fq fs).length) (a8)
    have hu2:=dc (n:=(uv next.toNat).length) (a8)
    have hu3:=dc (n:=((1,fq fs)::(2,uv next.toNat)::bl).length) (aJ)
    have hall:∀q∈(1,fq fs)::(2,uv next.toNat)::bl,q.1<256∧∀x∈q.2,x<256:=by
     intro q hq
     rcases List.mem_cons.1 hq with rfl|hq
     ·exact⟨aj,qz hc⟩
     ·rcases List.mem_cons.1 hq with rfl|hq
      ·exact⟨aj,gH _⟩
      ·exact⟨(q3 q hq).2.1,(q3 q hq).2.2.1⟩
    refine⟨?_,?_⟩
    ·rw[kA,show da ((1,fq fs)::(2,uv next.toNat)::bl)=fK 1 (fq fs)++(fK 2 (uv next.toNat)++da bl)from bu,Ya,Ya,ft,ft]
     omega
    ·intro x hx
     rcases List.mem_append.1 hx with hx|hx
     ·exact ow (ag) hall x hx
     ·exact tk _ x hx
theorem mn:sH jw:=by
 intro p hp
 simp only[jw,List.mem_singleton]at hp
 subst hp
 refine⟨fun x hx=> ?_,aj,fun x hx=> ?_,aj⟩
 ·simp at hx;omega
 ·simp at hx;omega
theorem zy:∃img,fG pk 300 jw= .ok img:=⟨_,by rw[fG,if_neg (by rw[qZ];simp),if_neg (a8)];all_goals rfl⟩
theorem vg:fG pk (-1) jw= .error 1:=by rw[fG,if_neg (by rw[qZ];simp),if_pos (a8)]
theorem rT:∀f∈pk,f.name.size≤1000000000000:=by
 intro f hf
 simp only[pk,List.mem_singleton]at hf
 subst hf
 decide
theorem qY:jK jw≤900000000:=ag
theorem Cb:eZ 83 [120]=none:=by rw[eZ,if_pos (aj)]
theorem wS {G:cM}{H:cG} [hg:Glb G H] [sI G] [Tab H 26 ig] [Tab H 24 fF]:SC G Tryz.prog 8 [] H (fun v H'=> v= .bool true∧H'=H):=by
 obtain⟨img,himg⟩:=zy
 obtain⟨hu,_,_,_⟩:=AQ mn (ag) himg
 obtain⟨hil,hib⟩:=yd mn (ag) himg
 have hil:img.length≤1000000000:=by have:=qY;omega
 refine sWk Tryz.func8 Tryz.ntmps8 ?_
 refine go ?_
 refine c0_ rfl (wv) (k:=?_)
 rintro _ _ ⟨lp1,F1,sf1,sp1,hP1,rfl,rfl⟩
 refine c1_ rfl (DJ (ps:=jw) (hP1.ext (fun _ _ h=> inferInstance) (fun _ _ h=> inferInstance)) mn (ag) rT (ag) qY) (k:=?_)
 rintro v1 H1 hK
 rcases hK with⟨e,he,_⟩|⟨img',s1,he,rfl,rfl⟩
 ·exfalso;rw[himg]at he;cases he
 rw[himg]at he
 obtain rfl:=Except.ok.inj he
 refine e_ mv (k:=e_ exr (k:=e_ exr (k:=e_ asn (k:=e_ asn (k:=on_ (qn_ (ws_ (ws_ (wr_ (e_ mv (k:=?_)))))))))))
 refine e_ (cN rfl) (k:=?_)
 refine gk (k:=dw (k:=go ?_))
 refine c1_ rfl (nN hil hib) (k:=?_)
 rintro v1 H1 hK
 rcases hK with⟨he,_⟩|⟨fs,n,ps,lp,F,sf,sp,he,hP,rfl,rfl⟩
 ·exfalso;rw[hu]at he;cases he
 rw[hu]at he
 simp only[Option.some.injEq,Prod.mk.injEq]at he
 obtain⟨rfl,rfl,rfl⟩:=he
 refine gk (k:=alc (k:=fun b3=>?_))
 refine go ?_
 refine di cL (fun i=> [4,5].contains i) (fun k H=> (k=3→dh H b3 [sf.val, .int .i64 ((Int.toNat 300:Nat):Int),sp.val])) (af_ 0 (q:=cE fun H hH=>mv) (k:=?_))
 refine cH 1 rfl rfl (aa) rfl (cE fun H hH=>cN rfl) (?_)
 refine af_ 2 (q:=cE fun H hH=>mv) (k:=?_)
 refine jN 3 rfl rfl rfl rfl (aa) rfl (cE fun H hH=>by have hN:=hH rfl;exact lds) (?_)
 refine pH 4 rfl rfl rfl (aa) rfl (fun k hk=> fun hi=> ab) (dm (vs:= []) rfl (wv)) ?_
 rintro _ _ ⟨lp2,F2,sf2,sp2,hP2,rfl,rfl⟩
 refine pH 5 rfl rfl rfl (aa) rfl (fun k hk=> fun hi=> ab) (dm (vs:= [_,_]) rfl (zH (ps:=jw) (ps2:=jw) (hP.ext (fun _ _ h=> inferInstance) (fun _ _ h=> inferInstance)) (hP2.ext (fun _ _ h=> inferInstance) (fun _ _ h=> inferInstance)) (fun p hp=> (mn p hp).1) (fun p hp=> (mn p hp).1) (ag) (ag) (ag))) ?_
 rintro _ _ ⟨rfl,rfl⟩
 refine ag_ 6 (q:=cE fun H hH=>oQ) (k:=af_ 7 (q:=cE fun H hH=>pkf) (k:=db (aa) (fun k hk=> fun hi=> absurd hk (ad)) (gk (k:=ir_ (k:=fun h1=>?_) (m:=fun h1=>?_)))))
 ·exact absurd h1 (ag)
 refine go ?_
 refine c0_ rfl (wv) (k:=?_)
 rintro _ _ ⟨lp3,F3,sf3,sp3,hP3,rfl,rfl⟩
 refine alc (k:=fun b4=>?_)
 refine go ?_
 refine c1_ rfl (DJ (ps:=jw) (hP3.ext (fun _ _ h=> inferInstance) (fun _ _ h=> inferInstance)) mn (ag) rT (ag) qY) (k:=?_)
 rintro v1 H1 hK
 rcases hK with⟨e,he,rfl,rfl⟩|⟨img',s2,he,rfl,rfl⟩
 ·rw[vg]at he
  obtain rfl:=Except.error.inj he
  refine go ?_
  refine d1_ rfl (u7 1) (k:=e_ ieq (k:=sr_ (mv) (k:=fun h2=>?_) (m:=fun h2=>?_)))
  ·refine go ?_
   refine sg_ (dm (vs:= [_,_,_]) rfl (Ka (n:=Int.toNat 300) (ps:=jw) (q:=([120], [2,5])) hil hib hu qZ (ag) rfl Cb (aj) (by intro x hx;simp at hx;omega))) (k:=?_)
   rintro _ _ ⟨rfl,rfl⟩
   refine gk (k:=rt_ Tryz.results8 (k:=?_))
   exact⟨_,hsb,rfl,rfl⟩
  exact absurd h2 (ag)
 exfalso;rw[vg]at he;cases he
end Go.Sx
