import Derived.Test.YtjhdcheijnegnaaGreatDoorQ17
import Derived.Test.YtjhdcheijnegnaaGreatDoorQ16
set_option linter.all false
set_option maxHeartbeats 0
namespace Go.Sx
open Go Go.Proofs Tryz Tryz
set_option maxRecDepth 100000
theorem A2 {H R H':cG}{b:Nat} [hr:Rem H Vr b [.bool false,.slice none 0 0] R] (h:cH R H'):cH H (Bg b 0::H'):=
 cH.rem hr (cH.trans (H':=Vr b [.bool false,(SV.nil.up (wds 0).length).val]::Row SV.nil eU []::H') (by rw[dV];exact cH.trans (cH.keep h) (cH.keep (cH.add (A:=Row SV.nil eU []) (.inl ⟨rfl,rfl,rfl⟩) cH.refl))) (eg NW.nil cH.refl))
theorem KK {G:cJ}{H R:cG}{F:SV}{all:List Nat}{n x:Nat} [hr:gV H F eU all R] (hF:fO F) (hl:all.length=F.c) (hw:Wd all) (hx:x<B64):SC G prog 88 [(F.up n).val,uN x] H (λv H'=>∃(F':SV) (all':List Nat),v=(F'.up (wds x).length).val∧NW F' all' x∧H'=Row F' eU all'::R):=by
 refine eZ (dH hr cH.refl) ?_
 refine sWk func88 ?_
 refine ws_ (wr_ (e_ asn (k:=on_ (qn_ (ws_ (ws_ (wr_ (e_ mv (k:=e_ asn (k:=on_ (qn_ (ws_ (wr_ (?_))))))))))))))
 refine e_ mv (k:=e_ mv (k:=e_ ieq (k:=on_ (qn_ (wi_ (k:=λh1=>?_) (m:=λh1=>?_))))))
 ·refine ws_ (wr_ (e_ mv (k:=e_ mv (k:=?_))))
  refine c2_ rfl (xe hF hl hw hx) (k:=?_)
  rintro _ _ ⟨F2,all2,rfl,hn2,rfl⟩
  refine e_ asn (k:=on_ (qn_ (wt_ (qr_ (rT (k:=?_))))))
  exact⟨_,hsb,F2,all2,rfl,hn2,rfl⟩
 exact absurd trivial h1
theorem N0 {G:cJ}{H R:cG}{b v x:Nat} [hb:Rem H Bg b v R] (hx:x<B64):SC G prog 46 [pA b,uN x] H (λv' H'=>v'=pA b∧H'=Bg b x::R):=by
 refine eZ (cH.rem hb cH.refl) ?_
 have hen:∀(q0:Array Value) w,(callFunc 46 q0).run prog w=.ok (.enter 46 q0) w:=λ_ _=>aa
 refine kE b hen λF all hn=>?_
 refine sWk func46 ?_
 refine ws_ (wr_ (e_ asn (k:=on_ (qn_ (ws_ (wr_ (e_ mv (k:=e_ mv (k:=e_ nck (k:=e_ fla (k:=e_ ldv (k:=e_ mv (k:=?_)))))))))))))
 refine c2_ rfl (KK hn.fl hn.len hn.wd hx) (k:=?_)
 rintro _ _ ⟨F2,all2,rfl,hn2,rfl⟩
 refine e_ nck (k:=e_ fla (k:=sto (k:=on_ (qn_ (ws_ (wr_ (e_ mv (k:=e_ nck (k:=e_ fla (k:=sto (k:=on_ (qn_ (ws_ (?_))))))))))))))
 refine wr_ (e_ mv (k:=e_ asn (k:=on_ (qn_ (wt_ (rT (k:=?_)))))))
 exact⟨_,eg hn2 cH.refl,rfl,rfl⟩
theorem MZ {G:cJ}{H R:cG}{b v:Nat} [hb:Rem H Bg b v R]:SC G prog 42 [pA b] H (λv' H'=>v'=.int .i64 (if v=0 then 0 else 1)∧H'=Bg b v::R):=by
 refine eZ (cH.rem hb cH.refl) ?_
 have hen:∀(q0:Array Value) w,(callFunc 42 q0).run prog w=.ok (.enter 42 q0) w:=λ_ _=>aa
 refine kE b hen λF all hn=>?_
 haveI hz:Sl (Vr b [.bool false,(F.up (wds v).length).val]::Row F eU all::R) (F.up (wds v).length) eU (wds v):=hn.sl inferInstance
 refine sWk func42 ?_
 refine ws_ (wr_ (e_ asn (k:=on_ (qn_ (ws_ (ws_ (wr_ (e_ mv (k:=e_ nck (k:=e_ fla (k:=e_ ldv (k:=e_ lnn (k:=e_ ieq (k:=?_))))))))))))))
 refine on_ (qn_ (wi_ (k:=λh1=>?_) (m:=λh1=>?_)))
 ·have hv0:v=0:=jN.1 (Vb (az))
  refine ws_ (wr_ (e_ asn (k:=on_ (qn_ (wt_ (qr_ (rT (k:=?_))))))))
  exact⟨_,eg hn cH.refl,by rw[if_pos hv0];all_goals rfl,rfl⟩
 have hv0:v≠0:=λh=>by have h9:=h1;rw[h,dV]at h9;exact h9 rfl
 refine wk_ (qn_ (ws_ (ws_ (wr_ (e_ mv (k:=e_ nck (k:=e_ fla (k:=e_ ldv (k:=on_ (qn_ (wi_ (k:=λh2=>?_) (m:=λh2=>?_))))))))))))
 ·exact absurd h2 (ae)
 refine wk_ (qn_ (ws_ (wr_ (e_ asn (k:=on_ (qn_ (wt_ (rT (k:=?_)))))))))
 exact⟨_,eg hn cH.refl,by rw[if_neg hv0];all_goals rfl,rfl⟩
theorem KR {G:cJ}{H:cG}{s:SV}{v:Nat} [hs:Sl H s eU (wds v)] (hv:v<B64):SC G prog 87 [s.val] H (λv' H'=>v'=uN v∧H'=H):=by
 refine sWk func87 ?_
 refine ws_ (wr_ (e_ asn (k:=on_ (qn_ (ws_ (ws_ (wr_ (e_ mv (k:=e_ lnn (k:=e_ ieq (k:=on_ (qn_ (wi_ (k:=λh1=>?_) (m:=λh1=>?_))))))))))))))
 ·have hv0:v=0:=jN.1 (Vb (az))
  refine ws_ (wr_ (e_ asn (k:=on_ (qn_ (wt_ (qr_ (rT (k:=?_))))))))
  exact⟨_,hsb,by rw[hv0];all_goals rfl,rfl⟩
 have hv0:v≠0:=λh=>by have h9:=h1;rw[h,dV]at h9;exact h9 rfl
 refine wk_ (qn_ (ws_ (wr_ (e_ mv (k:=e_ (ixa (i:=0)) (k:=e_ (lel (hy:=(show(wds v)[0]? =some v by rw[gF hv0 hv];all_goals rfl))) (k:=e_ asn (k:=on_ (qn_ (ws_ (ws_ (wr_ (e_ mv (k:=?_))))))))))))))
 refine of_ (k:=of_ (k:=of_ (k:=e_ pkf (k:=on_ (qn_ (iff_ (k:=wk_ (qn_ (ws_ (wr_ (e_ mv (k:=e_ asn (k:=on_ (?_))))))))))))))
 refine qn_ (wt_ (rT (k:=?_)))
 exact⟨_,hsb,rfl,rfl⟩
theorem Hz {G:cJ}{H R:cG}{b v:Nat} [hb:Rem H Bg b v R] (hv:v<B64):SC G prog 44 [pA b] H (λv' H'=>v'=uN v∧H'=Bg b v::R):=by
 refine eZ (cH.rem hb cH.refl) ?_
 have hen:∀(q0:Array Value) w,(callFunc 44 q0).run prog w=.ok (.enter 44 q0) w:=λ_ _=>aa
 refine kE b hen λF all hn=>?_
 refine sWk func44 ?_
 refine ws_ (wr_ (e_ asn (k:=on_ (qn_ (ws_ (wr_ (e_ mv (k:=e_ nck (k:=e_ fla (k:=e_ ldv (k:=?_)))))))))))
 refine d1_ rfl (KR (hs:=hn.sl inferInstance) hv) (k:=e_ asn (k:=on_ (qn_ (wt_ (rT (k:=?_))))))
 exact⟨_,eg hn cH.refl,rfl,rfl⟩
theorem MG {x z:Nat}(h:∀m,x<2^m↔z<2^m):cX x=cX z:=by
 rcases Uc x with rfl|hx
 ·have:z=0:=by have:=(h 0).1 (ae);omega
  rw[this]
 ·have hz:z≠0:=λh0=>by have:=(h 0).2 (by rw[h0];decide);omega
  have h1:=jI x
  have h2:=jI z
  have h3:=iG (n:=x) (a8)
  have h4:=iG hz
  have h5:=(h _).2 h2
  have h6:=(h _).1 h1
  have e1:cX x-1<cX z:=(T0 (by decide:1<2)).1 (Vl h3 h5)
  have e2:cX z-1<cX x:=(T0 (by decide:1<2)).1 (Vl h4 h6)
  omega
theorem vB {a b:Nat}(h:b≤a):cX (a |||b)=cX a:=MG λm=>⟨λh1=>Vl Nat.left_le_or h1,λh1=>X8 h1 (Vl h h1)⟩
theorem qy {a b:Nat}(ha:a<B64) (hb:b<B64):a |||b<B64:=X8 (n:=64) ha hb
theorem MF:∀{x:Nat},x≠0→∃top,(wds x)[(wds x).length-1]? =some top∧top<B64∧cX x=((wds x).length-1)*64+cX top:=by
 intro x
 induction x using Nat.strongRecOn with
 |_ x ih=>
  intro h0
  by_cases h1:x<B64
  ·exact⟨x,by rw[gF h0 h1];all_goals rfl,h1,by rw[gF h0 h1];simp⟩
  ·have h2:x/B64≠0:=by simp only[B64]at*;omega
   obtain⟨top,q1,q2,q3⟩:=ih (x/B64) (Nat.div_lt_self (X1 h0) (ae)) h2
   have hp:0<(wds (x/B64)).length:=by
    rcases Uc (wds (x/B64)).length with h|h
    ·exact absurd (jN.1 (Vb h)) h2
    ·exact h
   refine⟨top,?_,q2,?_⟩
   ·rw[l0 h0,Yb,Uj]
    obtain⟨k,hk⟩:∃k,(wds (x/B64)).length=k+1:=⟨(wds (x/B64)).length-1,a8⟩
    rw[hk,Uj]at q1
    rw[hk,Xc];exact q1
   ·have:=ek x 64 (by simp only[B64]at h1;omega)
    rw[this,show(2:Nat)^64=B64 from rfl,q3,l0 h0,Yb]
    omega
theorem E6 {G:cJ}{H:cG}{s:SV}{v:Nat} [hs:Sl H s eU (wds v)] (hv9:(wds v).length≤1000):SC G prog 86 [s.val] H (λv' H'=>v'=iN (cX v)∧H'=H):=by
 refine sWk func86 ?_
 refine ws_ (wr_ (e_ asn (k:=on_ (qn_ (ws_ (ws_ (wr_ (e_ mv (k:=e_ lnn (k:=e_ isb (k:=e_ asn (k:=on_ (qn_ (?_))))))))))))))
 refine ws_ (wr_ (e_ mv (k:=e_ ige (k:=on_ (qn_ (wi_ (k:=λh1=>?_) (m:=λh1=>?_)))))))
 ·have hlp:0<(wds v).length:=by have h9:=h1;omega
  have hv0:v≠0:=λh=>by rw[h,dV]at hlp;exact absurd hlp (ae)
  obtain⟨top,q1,q2,q3⟩:=MF hv0
  have q2':top<18446744073709551616:=q2
  refine ws_ (wr_ (e_ mv (k:=e_ mv (k:=e_ (ixa (i:=(wds v).length-1) (hj:=by omega)) (k:=e_ (lel (hy:=q1)) (k:=e_ asn (k:=on_ (qn_ (ws_ (wr_ (e_ mv (k:=e_ mv (k:=?_)))))))))))))
  refine e_ (du rfl rfl _ 1 rfl rfl (aq)) (k:=?_)
  refine e_ (fI 18446744073709551616 rfl rfl rfl rfl _ _ rfl rfl q2 (by have:=Vs top (2^1);omega)) (k:=?_)
  refine e_ asn (k:=on_ (qn_ (ws_ (wr_ (?_)))))
  obtain⟨a1,ha1,hb1⟩:∃a1,a1=(top |||top/2^1)∧cX a1=cX top:=⟨_,rfl,vB (Vs _ _)⟩
  have hc1:a1<18446744073709551616:=by rw[ha1];exact qy q2 (Vl (Vs _ _) q2)
  rw[←ha1]
  refine e_ mv (k:=e_ mv (k:=?_))
  refine e_ (du rfl rfl _ 2 rfl rfl (aq)) (k:=?_)
  refine e_ (fI 18446744073709551616 rfl rfl rfl rfl _ _ rfl rfl hc1 (by have:=Vs a1 (2^2);omega)) (k:=?_)
  refine e_ asn (k:=on_ (qn_ (ws_ (wr_ (?_)))))
  obtain⟨a2,ha2,hb2⟩:∃a2,a2=(a1 |||a1/2^2)∧cX a2=cX a1:=⟨_,rfl,vB (Vs _ _)⟩
  have hc2:a2<18446744073709551616:=by rw[ha2];exact qy hc1 (Vl (Vs _ _) hc1)
  rw[←ha2]
  refine e_ mv (k:=e_ mv (k:=?_))
  refine e_ (du rfl rfl _ 4 rfl rfl (aq)) (k:=?_)
  refine e_ (fI 18446744073709551616 rfl rfl rfl rfl _ _ rfl rfl hc2 (by have:=Vs a2 (2^4);omega)) (k:=?_)
  refine e_ asn (k:=on_ (qn_ (ws_ (wr_ (?_)))))
  obtain⟨a3,ha3,hb3⟩:∃a3,a3=(a2 |||a2/2^4)∧cX a3=cX a2:=⟨_,rfl,vB (Vs _ _)⟩
  have hc3:a3<18446744073709551616:=by rw[ha3];exact qy hc2 (Vl (Vs _ _) hc2)
  rw[←ha3]
  refine e_ mv (k:=e_ mv (k:=?_))
  refine e_ (du rfl rfl _ 8 rfl rfl (aq)) (k:=?_)
  refine e_ (fI 18446744073709551616 rfl rfl rfl rfl _ _ rfl rfl hc3 (by have:=Vs a3 (2^8);omega)) (k:=?_)
  refine e_ asn (k:=on_ (qn_ (ws_ (wr_ (?_)))))
  obtain⟨a4,ha4,hb4⟩:∃a4,a4=(a3 |||a3/2^8)∧cX a4=cX a3:=⟨_,rfl,vB (Vs _ _)⟩
  have hc4:a4<18446744073709551616:=by rw[ha4];exact qy hc3 (Vl (Vs _ _) hc3)
  rw[←ha4]
  refine e_ mv (k:=e_ mv (k:=?_))
  refine e_ (du rfl rfl _ 16 rfl rfl (aq)) (k:=?_)
  refine e_ (fI 18446744073709551616 rfl rfl rfl rfl _ _ rfl rfl hc4 (by have:=Vs a4 (2^16);omega)) (k:=?_)
  refine e_ asn (k:=on_ (qn_ (ws_ (wr_ (?_)))))
  obtain⟨a5,ha5,hb5⟩:∃a5,a5=(a4 |||a4/2^16)∧cX a5=cX a4:=⟨_,rfl,vB (Vs _ _)⟩
  have hc5:a5<18446744073709551616:=by rw[ha5];exact qy hc4 (Vl (Vs _ _) hc4)
  have hd5:a5/2^16/2^16≤a5:=Xi (Vs _ _) (Vs _ _)
  rw[←ha5]
  refine e_ mv (k:=e_ mv (k:=?_))
  refine e_ (du rfl rfl _ 16 rfl rfl (aq)) (k:=?_)
  refine e_ (du rfl rfl _ 16 rfl rfl (aq)) (k:=?_)
  refine e_ (fI 18446744073709551616 rfl rfl rfl rfl _ _ rfl rfl hc5 (a8)) (k:=?_)
  refine e_ asn (k:=on_ (qn_ (ws_ (wr_ (?_)))))
  obtain⟨a6,ha6,hb6⟩:∃a6,a6=(a5 |||a5/2^16/2^16)∧cX a6=cX a5:=⟨_,rfl,vB hd5⟩
  have hc6:a6<18446744073709551616:=by rw[ha6];exact qy hc5 (Vl hd5 hc5)
  have hb9:cX top≤64:=by
   rcases Uc top with h|h
   ·rw[h];decide
   ·have:=iG (n:=top) (a8)
    have h7:2^(cX top-1)<2^64:=Vl this q2'
    have:=(T0 (by decide:1<2)).1 h7
    omega
  rw[←ha6]
  refine e_ mv (k:=e_ iml (k:=e_ mv (k:=?_)))
  refine d1_ rfl (HK hc6) (k:=?_)
  rw[hb6,hb5,hb4,hb3,hb2,hb1]
  refine e_ iad (k:=e_ asn (k:=on_ (qn_ (wt_ (qr_ (rT (k:=?_)))))))
  exact⟨_,hsb,congrArg (Value.int .i64) (by rw[q3];omega),rfl⟩
 have hv0:v=0:=jN.1 (Vb (az))
 refine wk_ (qn_ (ws_ (wr_ (e_ asn (k:=on_ (qn_ (wt_ (rT (k:=?_)))))))))
 exact⟨_,hsb,by rw[hv0];all_goals rfl,rfl⟩
theorem AP {G:cJ}{H R:cG}{b v:Nat} [hb:Rem H Bg b v R] (hv9:(wds v).length≤1000):SC G prog 43 [pA b] H (λv' H'=>v'=iN (cX v)∧H'=Bg b v::R):=by
 refine eZ (cH.rem hb cH.refl) ?_
 have hen:∀(q0:Array Value) w,(callFunc 43 q0).run prog w=.ok (.enter 43 q0) w:=λ_ _=>aa
 refine kE b hen λF all hn=>?_
 refine sWk func43 ?_
 refine ws_ (wr_ (e_ asn (k:=on_ (qn_ (ws_ (wr_ (e_ mv (k:=e_ nck (k:=e_ fla (k:=e_ ldv (k:=?_)))))))))))
 refine d1_ rfl (E6 (hs:=hn.sl inferInstance) hv9) (k:=e_ asn (k:=on_ (qn_ (wt_ (rT (k:=?_))))))
 exact⟨_,eg hn cH.refl,rfl,rfl⟩
theorem Nh {G:cJ}{H:cG}{x:Nat}(hx:x<18446744073709551616):SC G prog 361 [uN x] H (λv H'=>v=.int .i64 (64-((cX x:Nat):Int))∧H'=H):=by
 have hb9:cX x≤64:=by
  rcases Uc x with h|h
  ·rw[h];decide
  ·have:=iG (n:=x) (a8)
   have h7:2^(cX x-1)<2^64:=Vl this hx
   have:=(T0 (by decide:1<2)).1 h7
   omega
 refine sWk func361 ?_
 refine ws_ (wr_ (e_ asn (k:=on_ (qn_ (ws_ (wr_ (e_ mv (k:=?_))))))))
 refine d1_ rfl (E8 hx) (k:=e_ isb (k:=e_ asn (k:=on_ (qn_ (wt_ (rT (k:=?_)))))))
 exact⟨_,hsb,rfl,rfl⟩
theorem tLZ {G:cJ}{H:cG}{x:Nat}(hx:x<18446744073709551616):SC G prog 280 [uN x] H (λv H'=>v=.int .i64 (64-((cX x:Nat):Int))∧H'=H):=by
 have hb9:cX x≤64:=by
  rcases Uc x with h|h
  ·rw[h];decide
  ·have:=iG (n:=x) (a8)
   have h7:2^(cX x-1)<2^64:=Vl this hx
   have:=(T0 (by decide:1<2)).1 h7
   omega
 refine sWk func280 ?_
 refine ws_ (wr_ (e_ asn (k:=on_ (qn_ (ws_ (wr_ (e_ mv (k:=?_))))))))
 refine d1_ rfl (HK hx) (k:=e_ isb (k:=e_ asn (k:=on_ (qn_ (wt_ (rT (k:=?_)))))))
 exact⟨_,hsb,rfl,rfl⟩
theorem KJ {G:cJ}{H:cG}{x n:Nat}(hx:x<18446744073709551616) (hn:cX x+n=64):SC G prog 218 [uN x] H (λv H'=>v=uN n∧H'=H):=by
 refine sWk func218 ?_
 refine ws_ (wr_ (e_ asn (k:=on_ (qn_ (ws_ (wr_ (e_ mv (k:=?_))))))))
 refine d1_ rfl (tLZ hx) (k:=?_)
 refine e_ (dm (cR 18446744073709551616 rfl rfl rfl n (a8) (a8)) rfl) (k:=?_)
 refine e_ asn (k:=on_ (qn_ (wt_ (rT (k:=?_)))))
 exact⟨_,hsb,rfl,rfl⟩
theorem GN:cX 16000000000000000000=64:=jJ (k:=63) (ae) (ae)
theorem BM:cX 1000000000000000000=60:=jJ (k:=59) (ae) (ae)
theorem HX {G:cJ}{H:cG}{lo y0:Nat}(hlo:lo<18446744073709551616) (hy0:0<y0) (hy:y0<18446744073709551616):SC G prog 330 [.int .u64 0,uN lo,uN y0] H (λv H'=>v=.tuple #[uN (lo/y0),uN (lo%y0)]∧H'=H):=by
 refine sWk func330 ?_
 refine ws_ (wr_ (e_ asn (k:=e_ asn (k:=on_ (qn_ (ws_ (ws_ (wr_ (e_ mv (k:=e_ ieq (k:=on_ (qn_ (wi_ (k:=λh1=>?_) (m:=λh1=>?_))))))))))))))
 ·exfalso;have h9:=h1;omega
 refine wk_ (qn_ (ws_ (ws_ (wr_ (e_ mv (k:=e_ mv (k:=e_ ile (k:=on_ (qn_ (wi_ (k:=λh2=>?_) (m:=λh2=>?_)))))))))))
 ·exfalso;have h9:=h2;omega
 refine wk_ (qn_ (ws_ (ws_ (wr_ (e_ mv (k:=e_ ieq (k:=on_ (qn_ (wi_ (k:=λh3=>?_) (m:=λh3=>?_))))))))))
 ·refine ws_ (?_)
  refine cZ cN (as_ 0 (q:=mv) (k:=as_ 1 (q:=mv) (k:=?_)))
  refine cO 2 rfl rfl (aa) rfl (df (fH rfl rfl lo y0 rfl rfl (a8) (by show _≤(18446744073709551615:Int);omega))) (?_)
  refine as_ 3 (q:=mv) (k:=as_ 4 (q:=mv) (k:=?_))
  refine cO 5 rfl rfl (aa) rfl (df (kO rfl rfl lo y0 rfl rfl (a8))) (?_)
  refine as_ 6 (q:=asn) (k:=as_ 7 (q:=asn) (k:=az_ (k:=qn_ (wt_ (qr_ (rT (k:=?_)))))))
  exact⟨_,hsb,rfl,rfl⟩
 exact absurd trivial h3
theorem HW {G:cJ}{H:cG}:SC G prog 330 [.int .u64 2446744073709551615,.int .u64 18446744073709551615,.int .u64 16000000000000000000] H (λv H'=>v=.tuple #[.int .u64 2820903858849102350,.int .u64 7374607431768211455]∧H'=H):=by
 refine sWk func330 ?_
 refine ws_ (wr_ (e_ asn (k:=e_ asn (k:=on_ (qn_ (ws_ (ws_ (wr_ (e_ mv (k:=e_ ieq (k:=on_ (qn_ (wi_ (k:=λh1=>?_) (m:=λh1=>?_))))))))))))))
 ·exact absurd h1 (ae)
 refine wk_ (qn_ (ws_ (ws_ (wr_ (e_ mv (k:=e_ mv (k:=e_ ile (k:=on_ (qn_ (wi_ (k:=λh2=>?_) (m:=λh2=>?_)))))))))))
 ·exact absurd h2 (ae)
 refine wk_ (qn_ (ws_ (ws_ (wr_ (e_ mv (k:=e_ ieq (k:=on_ (qn_ (wi_ (k:=λh3=>?_) (m:=λh3=>?_))))))))))
 ·exact absurd h3 (ae)
 refine wk_ (qn_ (ws_ (wr_ (e_ mv (k:=?_)))))
 refine d1_ rfl (Nh (x:=16000000000000000000) (ae)) (k:=?_)
 rw[GN]
 refine e_ (dm (cR 18446744073709551616 rfl rfl rfl 0 rfl (ae)) (show uN 0=.int .u64 0 from rfl)) (k:=?_)
 refine e_ asn (k:=on_ (qn_ (ws_ (wr_ (e_ mv (k:=e_ mv (k:=?_)))))))
 refine e_ (dm (gm 18446744073709551616 rfl rfl rfl rfl 16000000000000000000 0 rfl rfl) (show uN (16000000000000000000*2^0%18446744073709551616)=.int .u64 16000000000000000000 from rfl)) (k:=?_)
 refine e_ asn (k:=on_ (qn_ (ws_ (wr_ (e_ mv (k:=?_))))))
 refine e_ (dm (du rfl rfl 16000000000000000000 32 rfl rfl (ae)) (show uN (16000000000000000000/2^32)=.int .u64 3725290298 from rfl)) (k:=?_)
 refine e_ asn (k:=on_ (qn_ (ws_ (wr_ (e_ mv (k:=?_))))))
 refine e_ (dm (gn 18446744073709551616 rfl rfl rfl rfl 16000000000000000000 4294967295 rfl rfl (ae) (ae)) (show uN (16000000000000000000 &&& 4294967295)=.int .u64 1983905792 from rfl)) (k:=?_)
 refine e_ asn (k:=on_ (qn_ (ws_ (wr_ (e_ mv (k:=e_ mv (k:=?_)))))))
 refine e_ (dm (gm 18446744073709551616 rfl rfl rfl rfl 2446744073709551615 0 rfl rfl) (show uN (2446744073709551615*2^0%18446744073709551616)=.int .u64 2446744073709551615 from rfl)) (k:=?_)
 refine e_ mv (k:=e_ mv (k:=?_))
 refine e_ (dm (iV 18446744073709551616 rfl rfl rfl rfl 64 0 rfl rfl (ae) (ae)) (show uN (64-0)=.int .u64 64 from rfl)) (k:=?_)
 refine e_ (dm (du rfl rfl 18446744073709551615 64 rfl rfl (ae)) (show uN (18446744073709551615/2^64)=.int .u64 0 from rfl)) (k:=?_)
 refine e_ (dm (fI 18446744073709551616 rfl rfl rfl rfl 2446744073709551615 0 rfl rfl (ae) (ae)) (show uN (2446744073709551615 ||| 0)=.int .u64 2446744073709551615 from rfl)) (k:=?_)
 refine e_ asn (k:=on_ (qn_ (ws_ (wr_ (e_ mv (k:=e_ mv (k:=?_)))))))
 refine e_ (dm (gm 18446744073709551616 rfl rfl rfl rfl 18446744073709551615 0 rfl rfl) (show uN (18446744073709551615*2^0%18446744073709551616)=.int .u64 18446744073709551615 from rfl)) (k:=?_)
 refine e_ asn (k:=on_ (qn_ (ws_ (wr_ (e_ mv (k:=?_))))))
 refine e_ (dm (du rfl rfl 18446744073709551615 32 rfl rfl (ae)) (show uN (18446744073709551615/2^32)=.int .u64 4294967295 from rfl)) (k:=?_)
 refine e_ asn (k:=on_ (qn_ (ws_ (wr_ (e_ mv (k:=?_))))))
 refine e_ (dm (gn 18446744073709551616 rfl rfl rfl rfl 18446744073709551615 4294967295 rfl rfl (ae) (ae)) (show uN (18446744073709551615 &&& 4294967295)=.int .u64 4294967295 from rfl)) (k:=?_)
 refine e_ asn (k:=on_ (qn_ (ws_ (wr_ (e_ mv (k:=e_ mv (k:=?_)))))))
 refine e_ (dm (fH rfl rfl 2446744073709551615 3725290298 rfl rfl (ae) (ae)) (show uN (2446744073709551615/3725290298)=.int .u64 656792861 from rfl)) (k:=?_)
 refine e_ asn (k:=on_ (qn_ (ws_ (wr_ (e_ mv (k:=e_ mv (k:=e_ mv (k:=?_))))))))
 refine e_ (dm (eh 18446744073709551616 rfl rfl rfl rfl 656792861 3725290298 rfl rfl) (show uN (656792861*3725290298%18446744073709551616)=.int .u64 2446744072878962578 from rfl)) (k:=?_)
 refine e_ (dm (iV 18446744073709551616 rfl rfl rfl rfl 2446744073709551615 2446744072878962578 rfl rfl (ae) (ae)) (show uN (2446744073709551615-2446744072878962578)=.int .u64 830589037 from rfl)) (k:=?_)
 refine e_ asn (k:=on_ (qn_ (ws_ (wb_ (wl2_ (Nat) (λy=>True) (λy=>[(15,.int .u64 656792861),(16,.int .u64 830589037)]) [(2,_),(8,_),(9,_),(10,_),(11,_),(13,_),(14,_)] (λy=>[]) _ (λy=>0) (0) (h0:=?_) (k:=?_))))))
 ·try dsimp only
  all_goals trivial
 rintro i -
 try dsimp only[Yd,Ye]at*
 refine ws_ (ws_ (wr_ (e_ mv (k:=e_ ige (k:=e_ mv (k:=dz 9 78 (k:=λh4=>eg_ mv (k:=eg_ mv (k:=eg_ (dm (eh 18446744073709551616 rfl rfl rfl rfl 656792861 1983905792 rfl rfl) (show uN (656792861*1983905792%18446744073709551616)=.int .u64 1303015161082150912 from rfl)) (k:=eg_ mv (k:=eg_ (dm (eh 18446744073709551616 rfl rfl rfl rfl 4294967296 830589037 rfl rfl) (show uN (4294967296*830589037%18446744073709551616)=.int .u64 3567352750331133952 from rfl)) (k:=eg_ mv (k:=eg_ (dm (iE 18446744073709551616 rfl rfl rfl rfl 3567352750331133952 4294967295 rfl rfl) (show uN ((3567352750331133952+4294967295)%18446744073709551616)=.int .u64 3567352754626101247 from rfl)) (k:=eg_ igt (k:=e_ pkf (k:=on_ (edq))))))))))) (q:=on_ (qn_ (wi_ (k:=λh5=>?_) (m:=λh5=>?_))))))))))
 ·exfalso;rcases h5 with h9|h9 <;> exact absurd h9 (ae)
 refine we_ (qe_ (le_ (bh_ (qn_ (ws_ (wr_ (e_ mv (k:=?_))))))))
 refine e_ (dm (eh 18446744073709551616 rfl rfl rfl rfl 2446744073709551615 4294967296 rfl rfl) (show uN (2446744073709551615*4294967296%18446744073709551616)=.int .u64 9925933574429605888 from rfl)) (k:=?_)
 refine e_ mv (k:=?_)
 refine e_ (dm (iE 18446744073709551616 rfl rfl rfl rfl 9925933574429605888 4294967295 rfl rfl) (show uN ((9925933574429605888+4294967295)%18446744073709551616)=.int .u64 9925933578724573183 from rfl)) (k:=?_)
 refine e_ mv (k:=e_ mv (k:=?_))
 refine e_ (dm (eh 18446744073709551616 rfl rfl rfl rfl 656792861 16000000000000000000 rfl rfl) (show uN (656792861*16000000000000000000%18446744073709551616)=.int .u64 7661595985180622848 from rfl)) (k:=?_)
 refine e_ (dm (wy rfl rfl 9925933578724573183 7661595985180622848 rfl rfl (ae)) (show uN ((9925933578724573183+18446744073709551616-7661595985180622848)%18446744073709551616)=.int .u64 2264337593543950335 from rfl)) (k:=?_)
 refine e_ asn (k:=on_ (qn_ (ws_ (wr_ (e_ mv (k:=e_ mv (k:=?_)))))))
 refine e_ (dm (fH rfl rfl 2264337593543950335 3725290298 rfl rfl (ae) (ae)) (show uN (2264337593543950335/3725290298)=.int .u64 607828494 from rfl)) (k:=?_)
 refine e_ asn (k:=on_ (qn_ (ws_ (wr_ (e_ mv (k:=e_ mv (k:=e_ mv (k:=?_))))))))
 refine e_ (dm (eh 18446744073709551616 rfl rfl rfl rfl 607828494 3725290298 rfl rfl) (show uN (607828494*3725290298%18446744073709551616)=.int .u64 2264337591546151212 from rfl)) (k:=?_)
 refine e_ (dm (iV 18446744073709551616 rfl rfl rfl rfl 2264337593543950335 2264337591546151212 rfl rfl (ae) (ae)) (show uN (2264337593543950335-2264337591546151212)=.int .u64 1997799123 from rfl)) (k:=?_)
 refine e_ asn (k:=on_ (qn_ (ws_ (wb_ (wl2_ (Nat) (λy=>True) (λy=>[(16,.int .u64 1997799123),(18,.int .u64 607828494)]) [(2,_),(8,_),(9,_),(10,_),(14,_),(15,_),(17,_)] (λy=>[]) _ (λy=>0) (0) (h0:=?_) (k:=?_))))))
 ·try dsimp only
  all_goals trivial
 rintro i -
 try dsimp only[Yd,Ye]at*
 refine ws_ (ws_ (wr_ (e_ mv (k:=e_ ige (k:=e_ mv (k:=dz 9 113 (k:=λh6=>eg_ mv (k:=eg_ mv (k:=eg_ (dm (eh 18446744073709551616 rfl rfl rfl rfl 607828494 1983905792 rfl rfl) (show uN (607828494*1983905792%18446744073709551616)=.int .u64 1205874469789237248 from rfl)) (k:=eg_ mv (k:=eg_ (dm (eh 18446744073709551616 rfl rfl rfl rfl 4294967296 1997799123 rfl rfl) (show uN (4294967296*1997799123%18446744073709551616)=.int .u64 8580481897262481408 from rfl)) (k:=eg_ mv (k:=eg_ (dm (iE 18446744073709551616 rfl rfl rfl rfl 8580481897262481408 4294967295 rfl rfl) (show uN ((8580481897262481408+4294967295)%18446744073709551616)=.int .u64 8580481901557448703 from rfl)) (k:=eg_ igt (k:=e_ pkf (k:=on_ (edq))))))))))) (q:=on_ (qn_ (wi_ (k:=λh7=>?_) (m:=λh7=>?_))))))))))
 ·exfalso;rcases h7 with h9|h9 <;> exact absurd h9 (ae)
 refine we_ (qe_ (le_ (bh_ (qn_ (ws_ (wr_ (e_ mv (k:=?_))))))))
 refine e_ (dm (eh 18446744073709551616 rfl rfl rfl rfl 656792861 4294967296 rfl rfl) (show uN (656792861*4294967296%18446744073709551616)=.int .u64 2820903858241273856 from rfl)) (k:=?_)
 refine e_ mv (k:=?_)
 refine e_ (dm (iE 18446744073709551616 rfl rfl rfl rfl 2820903858241273856 607828494 rfl rfl) (show uN ((2820903858241273856+607828494)%18446744073709551616)=.int .u64 2820903858849102350 from rfl)) (k:=?_)
 refine e_ mv (k:=?_)
 refine e_ (dm (eh 18446744073709551616 rfl rfl rfl rfl 2264337593543950335 4294967296 rfl rfl) (show uN (2264337593543950335*4294967296%18446744073709551616)=.int .u64 6539226654646992896 from rfl)) (k:=?_)
 refine e_ mv (k:=?_)
 refine e_ (dm (iE 18446744073709551616 rfl rfl rfl rfl 6539226654646992896 4294967295 rfl rfl) (show uN ((6539226654646992896+4294967295)%18446744073709551616)=.int .u64 6539226658941960191 from rfl)) (k:=?_)
 refine e_ mv (k:=e_ mv (k:=?_))
 refine e_ (dm (eh 18446744073709551616 rfl rfl rfl rfl 607828494 16000000000000000000 rfl rfl) (show uN (607828494*16000000000000000000%18446744073709551616)=.int .u64 17611363300883300352 from rfl)) (k:=?_)
 refine e_ (dm (wy rfl rfl 6539226658941960191 17611363300883300352 rfl rfl (ae)) (show uN ((6539226658941960191+18446744073709551616-17611363300883300352)%18446744073709551616)=.int .u64 7374607431768211455 from rfl)) (k:=?_)
 refine e_ mv (k:=?_)
 refine e_ (dm (du rfl rfl 7374607431768211455 0 rfl rfl (ae)) (show uN (7374607431768211455/2^0)=.int .u64 7374607431768211455 from rfl)) (k:=?_)
 refine e_ asn (k:=e_ asn (k:=on_ (qn_ (wt_ (rT (k:=?_))))))
 exact⟨_,hsb,rfl,rfl⟩
theorem Nv {G:cJ}{H:cG}{lo y0:Nat}(hlo:lo<18446744073709551616) (hy0:0<y0) (hy:y0<18446744073709551616):SC G prog 281 [.int .u64 0,uN lo,uN y0] H (λv H'=>v=.tuple #[uN (lo/y0),uN (lo%y0)]∧H'=H):=by
 refine sWk func281 ?_
 refine ws_ (wr_ (e_ asn (k:=e_ asn (k:=on_ (qn_ (ws_ (iff_ (k:=wk_ (qn_ (ws_ (wr_ (e_ mv (k:=e_ mv (k:=?_))))))))))))))
 refine e_ mv (k:=?_)
 refine d3_ rfl (HX hlo hy0 hy) (k:=e_ mv (k:=e_ exr (k:=e_ exr (k:=e_ asn (k:=e_ asn (k:=on_ (qn_ (ws_ (wr_ (e_ mv (k:=e_ mv (k:=e_ asn (k:=e_ asn (k:=?_))))))))))))))
 refine on_ (qn_ (wt_ (rT (k:=?_))))
 exact⟨_,hsb,rfl,rfl⟩
theorem Nu {G:cJ}{H:cG}:SC G prog 281 [.int .u64 2446744073709551615,.int .u64 18446744073709551615,.int .u64 16000000000000000000] H (λv H'=>v=.tuple #[.int .u64 2820903858849102350,.int .u64 7374607431768211455]∧H'=H):=by
 refine sWk func281 ?_
 refine ws_ (wr_ (e_ asn (k:=e_ asn (k:=on_ (qn_ (ws_ (iff_ (k:=wk_ (qn_ (ws_ (wr_ (e_ mv (k:=e_ mv (k:=?_))))))))))))))
 refine e_ mv (k:=?_)
 refine d3_ rfl (HW) (k:=e_ mv (k:=e_ exr (k:=e_ exr (k:=e_ asn (k:=e_ asn (k:=on_ (qn_ (ws_ (wr_ (e_ mv (k:=e_ mv (k:=e_ asn (k:=e_ asn (k:=?_))))))))))))))
 refine on_ (qn_ (wt_ (rT (k:=?_))))
 exact⟨_,hsb,rfl,rfl⟩
theorem KA {G:cJ}{H:cG}:SC G prog 282 [.int .u64 1000000000000000000] H (λv H'=>v=.int .u64 2820903858849102350∧H'=H):=by
 refine sWk func282 ?_
 refine ws_ (wr_ (e_ asn (k:=on_ (qn_ (ws_ (wr_ (e_ mv (k:=e_ mv (k:=?_)))))))))
 refine d1_ rfl (KJ (x:=1000000000000000000) (n:=4) (ae) (by rw[BM])) (k:=?_)
 refine e_ (dm (gm 18446744073709551616 rfl rfl rfl rfl 1000000000000000000 4 rfl rfl) (show uN (1000000000000000000*2^4%18446744073709551616)=.int .u64 16000000000000000000 from rfl)) (k:=?_)
 refine e_ asn (k:=on_ (qn_ (ws_ (wr_ (e_ mv (k:=?_))))))
 refine e_ (dm (rM 18446744073709551616 rfl rfl rfl 16000000000000000000 rfl (ae)) (show uN ((18446744073709551616-1) ^^^ 16000000000000000000)=.int .u64 2446744073709551615 from rfl)) (k:=?_)
 refine e_ asn (k:=on_ (qn_ (ws_ (wr_ (e_ asn (k:=on_ (qn_ (ws_ (wr_ (e_ mv (k:=e_ mv (k:=e_ mv (k:=?_)))))))))))))
 refine d3_ rfl (Nu) (k:=e_ mv (k:=e_ exr (k:=e_ exr (k:=e_ asn (k:=e_ asn (k:=on_ (qn_ (ws_ (wr_ (e_ mv (k:=e_ asn (k:=on_ (qn_ (?_))))))))))))))
 refine wt_ (rT (k:=?_))
 exact⟨_,hsb,rfl,rfl⟩
theorem O6 (a b:Nat) (hb:b<16):a*16 |||b=a*16+b:=by
 have:=S1 (i:=4) (b:=b) hb a
 rw[Ug a 16];exact this.symm
theorem Ld {G:cJ}{H:cG}{x1 x0:Nat}(h1:x1<1000000000000000000) (h0:x0<18446744073709551616):SC G prog 283 [uN x1,uN x0,.int .u64 1000000000000000000,.int .u64 2820903858849102350] H (λv H'=>v=.tuple #[uN ((x1*B64+x0)/1000000000000000000),uN ((x1*B64+x0)%1000000000000000000)]∧H'=H):=by
 obtain⟨y1,hy1⟩:=ex (x1*16+x0/2^60)
 obtain⟨y0,hy0⟩:=ex (x0*2^4%18446744073709551616)
 have hyd:y1<16000000000000000000:=a8
 have hyb:y0<18446744073709551616:=a8
 have hX:y1*B64+y0=16*(x1*B64+x0):=aG
 have hlaw:=D8 (x1:=y1) (x0:=y0) hyd (aG)
 simp only at hlaw
 obtain⟨l1,l2,l3⟩:=hlaw
 obtain⟨T,hT⟩:=ex ((2820903858849102350*y1+y0)/B64+y1)
 rw[←hT]at l1 l2 l3
 refine sWk func283 ?_
 refine ws_ (wr_ (e_ asn (k:=e_ asn (k:=on_ (qn_ (ws_ (wr_ (e_ mv (k:=?_)))))))))
 refine d1_ rfl (KJ (x:=1000000000000000000) (n:=4) (ae) (by rw[BM])) (k:=e_ asn (k:=on_ (qn_ (ws_ (ws_ (wr_ (e_ mv (k:=e_ ine (k:=on_ (qn_ (wi_ (k:=λh1=>?_) (m:=λh1=>?_))))))))))))
 ·refine ws_ (wr_ (e_ mv (k:=e_ mv (k:=?_))))
  refine e_ (dm (gm 18446744073709551616 rfl rfl rfl rfl x1 4 rfl rfl) (congrArg (λn:Nat=>uN n) (show x1*2^4%18446744073709551616=x1*16 from a8))) (k:=?_)
  refine e_ mv (k:=e_ mv (k:=?_))
  refine e_ (dm (iV 18446744073709551616 rfl rfl rfl rfl 64 4 rfl rfl (ae) (ae)) (show uN (64-4)=.int .u64 60 from rfl)) (k:=?_)
  refine e_ (du rfl rfl x0 60 rfl rfl (ae)) (k:=?_)
  refine e_ (dm (fI 18446744073709551616 rfl rfl rfl rfl (x1*16) (x0/2^60) rfl rfl (a8) (a8)) (congrArg (λn:Nat=>uN n) ((O6 x1 (x0/2^60) (a8)).trans hy1.symm))) (k:=?_)
  refine e_ asn (k:=on_ (qn_ (ws_ (wr_ (e_ mv (k:=e_ mv (k:=?_)))))))
  refine e_ (dm (gm 18446744073709551616 rfl rfl rfl rfl x0 4 rfl rfl) (congrArg (λn:Nat=>uN n) hy0.symm)) (k:=?_)
  refine e_ asn (k:=on_ (qn_ (wr_ (e_ mv (k:=e_ mv (k:=?_))))))
  refine e_ (dm (gm 18446744073709551616 rfl rfl rfl rfl 1000000000000000000 4 rfl rfl) (show uN (1000000000000000000*2^4%18446744073709551616)=.int .u64 16000000000000000000 from rfl)) (k:=?_)
  refine e_ asn (k:=on_ (qn_ (ws_ (wr_ (e_ mv (k:=e_ asn (k:=on_ (qn_ (ws_ (wr_ (e_ mv (k:=e_ mv (k:=?_)))))))))))))
  refine d2_ rfl (HJ (x:=2820903858849102350) (y:=y1) (ae) (a8)) (k:=e_ mv (k:=e_ exr (k:=e_ exr (k:=e_ asn (k:=e_ asn (k:=on_ (qn_ (ws_ (wr_ (e_ mv (k:=e_ mv (k:=?_))))))))))))
  refine d3_ rfl (AQ (x:=2820903858849102350*y1%B64) (y:=y0) (c:=0) (ae)) (k:=e_ mv (k:=e_ exr (k:=e_ exr (k:=e_ asn (k:=e_ asn (k:=on_ (qn_ (ws_ (wr_ (e_ mv (k:=e_ mv (k:=e_ mv (k:=?_)))))))))))))
  refine d3_ rfl (AQ (x:=2820903858849102350*y1/B64) (y:=y1) (c:=(2820903858849102350*y1%B64+y0+0)/B64) (aG)) (k:=?_)
  rw[show(2820903858849102350*y1/B64+y1+(2820903858849102350*y1%B64+y0+0)/B64)%B64=T from(On (2820903858849102350*y1) y1 y0 hyb (by rw[hT]at l1;exact l1)).trans hT.symm]
  refine e_ mv (k:=e_ exr (k:=e_ exr (k:=e_ asn (k:=on_ (qn_ (ws_ (wr_ (e_ mv (k:=e_ asn (k:=on_ (qn_ (ws_ (wr_ (?_))))))))))))))
  refine e_ mv (k:=e_ mv (k:=?_))
  refine d2_ rfl (HJ (x:=16000000000000000000) (y:=T) (ae) l1) (k:=e_ mv (k:=e_ exr (k:=e_ exr (k:=e_ asn (k:=e_ asn (k:=on_ (qn_ (ws_ (wr_ (e_ mv (k:=e_ mv (k:=?_))))))))))))
  refine d3_ rfl (MU (x:=y0) (y:=16000000000000000000*T%B64) (c:=0) (ae)) (k:=e_ mv (k:=e_ exr (k:=e_ exr (k:=e_ asn (k:=e_ asn (k:=on_ (qn_ (ws_ (wr_ (e_ mv (k:=e_ mv (k:=e_ mv (k:=?_)))))))))))))
  refine d3_ rfl (MU (x:=y1) (y:=16000000000000000000*T/B64) (c:=if y0<16000000000000000000*T%B64+0 then 1 else 0) (by split <;> decide)) (k:=?_)
  obtain⟨Rm,hRm⟩:=ex (y1*B64+y0-16000000000000000000*T)
  have hb0:(y0+B64-16000000000000000000*T%B64-0)%B64=Rm%B64:=by rw[hRm];exact Lh y1 y0 _ hyb l2
  have hb1:(y1+B64-16000000000000000000*T/B64-(if y0<16000000000000000000*T%B64+0 then 1 else 0))%B64=Rm/B64:=by rw[hRm];exact Li y1 y0 _ hyb (a8) l2
  rw[hb0,hb1]
  have hRl:Rm<B64+16000000000000000000:=by rw[hRm];exact l3
  have hRX:Rm+16000000000000000000*T=y1*B64+y0:=by rw[hRm];simp only[B64]at*;omega
  simp only[B64]at hRl hRX hX hb0 hb1⊢
  refine e_ mv (k:=e_ exr (k:=e_ exr (k:=e_ asn (k:=e_ asn (k:=on_ (qn_ (jS (Nat×Nat) (λy=>y.2<18446744073709551616∧y.1<18446744073709551616∧y.1*16000000000000000000+y.2=y1*18446744073709551616+y0) (λy=>[(16,uN y.1),(19,uN y.2)]) [16,19,81,82,83,84,85,86,87] ?_ ?_)))))))
  ·refine ws_ (wr_ (e_ mv (k:=e_ ine (k:=on_ (qn_ (wi_ (k:=λh2=>?_) (m:=λh2=>?_)))))))
   ·have hR1:Rm/18446744073709551616=1:=by have h9:=h2;omega
    refine ws_ (wr_ (e_ mv (k:=?_)))
    refine e_ (jm 18446744073709551616 rfl rfl rfl rfl T 1 rfl rfl (by simp only[B64]at*;omega)) (k:=?_)
    refine e_ asn (k:=on_ (qn_ (wr_ (e_ mv (k:=e_ mv (k:=?_))))))
    refine e_ (dm (wy rfl rfl (Rm%18446744073709551616) 16000000000000000000 rfl rfl (ae)) (congrArg (λn:Nat=>uN n) (show _=Rm-16000000000000000000 from a8))) (k:=?_)
    refine e_ asn (k:=on_ (jnE (⟨T+1,Rm-16000000000000000000⟩) (q:=?_)))
    dsimp only
    have hq1:(T+1)*16000000000000000000=16000000000000000000*T+16000000000000000000:=by rw[Vg,Ug T,Nat.one_mul]
    exact⟨a8,a8,by rw[hq1];omega⟩
   have hR1:Rm/18446744073709551616=0:=aL
   rw[show Rm%18446744073709551616=Rm from a8]
   refine wk_ (jnE (⟨T,Rm⟩) (q:=?_))
   dsimp only
   have hq1:T*16000000000000000000=16000000000000000000*T:=Ug _ _
   exact⟨a8,l1,by rw[hq1];omega⟩
  rintro⟨q,r⟩ ⟨hr9,hq9,hqr⟩
  try dsimp only[Yd,Ye]at*
  refine ws_ (ws_ (wr_ (e_ mv (k:=e_ mv (k:=e_ ige (k:=on_ (qn_ (wi_ (k:=λh3=>?_) (m:=λh3=>?_)))))))))
  ·have hge:16000000000000000000≤r:=by have h9:=h3;omega
   refine ws_ (wr_ (e_ mv (k:=?_)))
   refine e_ (jm 18446744073709551616 rfl rfl rfl rfl q 1 rfl rfl (a8)) (k:=?_)
   refine e_ asn (k:=on_ (qn_ (wr_ (e_ mv (k:=e_ mv (k:=?_))))))
   refine e_ (iV 18446744073709551616 rfl rfl rfl rfl r 16000000000000000000 rfl rfl hge (a8)) (k:=?_)
   refine e_ asn (k:=on_ (qn_ (ws_ (wr_ (e_ mv (k:=e_ mv (k:=e_ mv (k:=?_))))))))
   refine e_ (du rfl rfl _ 4 rfl rfl (ae)) (k:=?_)
   refine e_ asn (k:=e_ asn (k:=on_ (qn_ (wt_ (rT (k:=?_))))))
   exact⟨_,hsb,by rw[show r-16000000000000000000=(y1*18446744073709551616+y0)%16000000000000000000 from a8,show q+1=(x1*18446744073709551616+x0)/1000000000000000000 from a8,show(y1*18446744073709551616+y0)%16000000000000000000/2^4=(x1*18446744073709551616+x0)%1000000000000000000 from a8];all_goals rfl,rfl⟩
  have hlt:r<16000000000000000000:=by have h9:=h3;omega
  refine wk_ (qn_ (ws_ (wr_ (e_ mv (k:=e_ mv (k:=e_ mv (k:=?_)))))))
  refine e_ (du rfl rfl _ 4 rfl rfl (ae)) (k:=?_)
  refine e_ asn (k:=e_ asn (k:=on_ (qn_ (wt_ (rT (k:=?_))))))
  exact⟨_,hsb,by rw[show q=(x1*18446744073709551616+x0)/1000000000000000000 from a8,show r/2^4=(x1*18446744073709551616+x0)%1000000000000000000 from a8];all_goals rfl,rfl⟩
 exact absurd h1 (ae)
theorem HV {G:cJ}{H R:cG}{F sx:SV}{mid post xs:List Nat} [hr:gV H F eU (mid++post) R] (hF:fO F) (hfc:mid.length+post.length=F.c) [hx:Sl R sx eU xs] (hl:xs.length=mid.length) (hl1:0<mid.length) (hx9:xs.length≤1000000) (hw:Wd xs):SC G prog 219 [(F.up mid.length).val,.int .u64 0,sx.val,.int .u64 1000000000000000000] H (λv H'=>∃(z:List Nat) (r:Nat),v=uN r∧z.length=mid.length∧Wd z∧r<1000000000000000000∧wv xs=wv z*1000000000000000000+r∧H'=Row F eU (z++post)::R):=by
 refine eZ (dH hr cH.refl) ?_
 haveI hz0:=ir (R:=R) (F:=F) (xs:=mid) (post:=post) hF hfc
 refine sWk func219 ?_
 refine ws_ (wr_ (e_ asn (k:=on_ (qn_ (ws_ (wr_ (e_ mv (k:=e_ asn (k:=on_ (qn_ (ws_ (ws_ (wr_ (?_))))))))))))))
 refine e_ mv (k:=e_ lnn (k:=e_ ieq (k:=on_ (qn_ (wi_ (k:=λh1=>?_) (m:=λh1=>?_))))))
 ·obtain⟨x,rfl⟩:∃x,xs= [x]:=by
   match xs,(show xs.length=1 from az)with
   | [a],_=>exact⟨a,rfl⟩
  have hxb:x<18446744073709551616:=hw x Yz
  obtain⟨p0,rfl⟩:∃p0,mid= [p0]:=by
   match mid,hl.symm with
   | [a],_=>exact⟨a,rfl⟩
  refine ws_ (wr_ (e_ mv (k:=e_ mv (k:=e_ (ixa (i:=0)) (k:=e_ (lel (hy:=(show [x][0]? =some x from rfl))) (k:=e_ mv (k:=?_)))))))
  refine d3_ rfl (Nv (lo:=x) (y0:=1000000000000000000) hxb (ae) (ae)) (k:=e_ mv (k:=e_ exr (k:=e_ exr (k:=e_ asn (k:=e_ asn (k:=on_ (qn_ (ws_ (wr_ (e_ mv (k:=e_ mv (k:=e_ (ixa (i:=0)) (k:=?_)))))))))))))
  refine s_ (dc (s:=F) (i:=0) rfl rfl rfl (ak)) (k:=?_)
  rintro _ _ ⟨rfl,rfl⟩
  refine on_ (qn_ (ws_ (wr_ (e_ mv (k:=e_ asn (k:=on_ (qn_ (wt_ (qr_ (rT (k:=?_)))))))))))
  exact⟨_,hsb, [x/1000000000000000000],x%1000000000000000000,rfl,rfl,Wd.cons (aG) Wd.nil,Um _ (ae),by simp only[wv,B64];omega,rfl⟩
 refine wk_ (qn_ (ws_ (wr_ (e_ mv (k:=?_)))))
 refine d1_ rfl (KA) (k:=e_ asn (k:=on_ (qn_ (ws_ (ws_ (wr_ (e_ mv (k:=e_ lnn (k:=?_)))))))))
 refine e_ (dm isb (congrArg (Value.int .i64) (show _=(mid.length:Int)-1 from rfl))) (k:=?_)
 refine e_ asn (k:=on_ (qn_ (wb_ (wl2_ (Nat×(List Nat)×Nat) (λy=>y.1+y.2.1.length=mid.length∧Wd y.2.1∧y.2.2<1000000000000000000∧wv (xs.drop y.1)=wv y.2.1*1000000000000000000+y.2.2) (λy=>[(8,uN y.2.2),(12,.int .i64 (((y.1:Nat):Int)-1))]) [(0,_),(2,_),(3,_),(11,_)] (λy=>[Row F eU (mid.take y.1++y.2.1++post)]) R (λy=>y.1) ((mid.length, [],0)) (hh:=?_) (h0:=?_) (k:=?_)))))
 ·try dsimp only
  rw[Xk,Ym]
  exact hsb
 ·try dsimp only
  exact⟨ak,Wd.nil,ae,by rw[←hl,X4];all_goals rfl⟩
 rintro⟨k,z,r⟩ ⟨hk,hwz,hr9,hv⟩
 try dsimp only[Yd,Ye]at*
 refine ws_ (ws_ (wr_ (e_ mv (k:=e_ ige (k:=on_ (qn_ (wi_ (k:=λh2=>?_) (m:=λh2=>?_))))))))
 ·obtain⟨j,rfl⟩:∃j,k=j+1:=⟨k-1,aL⟩
  obtain⟨x,hxj⟩:=gE xs j
  have hxb:x<18446744073709551616:=hw.get hxj
  have htl:(mid.take (j+1)).length=j+1:=ar
  have htz:(mid.take (j+1)++z).length=mid.length:=by rw[Ya,htl];omega
  haveI hz1:Sl (Row F eU (mid.take (j+1)++z++post)::R) (F.up mid.length) eU (mid.take (j+1)++z):=by
   have:=ir (R:=R) (F:=F) (xs:=mid.take (j+1)++z) (post:=post) hF (a8)
   rwa [htz]at this
  have hst:=GA hxj (q:=(r*B64+x)/1000000000000000000) rfl hv (ae)
  refine wk_ (qn_ (ws_ (wb_ (wr_ (e_ mv (k:=e_ mv (k:=e_ mv (k:=e_ mv (k:=e_ mv (k:=e_ (ixa (i:=j) (hj:=by omega)) (k:=e_ (lel (hy:=hxj)) (k:=e_ mv (k:=e_ mv (k:=?_))))))))))))))
  refine cp_ (vs:=[_,_,_,_]) rfl (Ld (x1:=r) (x0:=x) hr9 hxb) (k:=e_ mv (k:=e_ exr (k:=e_ exr (k:=e_ (ixa (i:=j) (hj:=by omega)) (k:=?_)))))
  refine s_ (dc (s:=F) (i:=j) rfl rfl rfl (aC)) (k:=?_)
  rintro _ _ ⟨rfl,rfl⟩
  rw[show(mid.take (j+1)++z++post).set j ((r*B64+x)/1000000000000000000)=mid.take j++((r*B64+x)/1000000000000000000::z)++post by
   obtain⟨m,hm⟩:=gE mid j
   rw[Ua,hm]
   have hlj:(mid.take j).length=j:=ar
   rw[Yf,Yf,T7,if_neg (a8),hlj,Vw]
   simp]
  refine e_ asn (k:=on_ (bn_ (qn_ (wr_ (e_ mv (k:=?_))))))
  refine e_ (dm isb (congrArg (Value.int .i64) (show _=((j:Nat):Int)-1 from a8))) (k:=?_)
  refine e_ asn (k:=on_ (?_))
  refine ln_ ((j,((r*B64+x)/1000000000000000000::z),(r*B64+x)%1000000000000000000)) (k:=?_)
  try dsimp only
  exact⟨aH,Wd.cons (aG) hwz,Um _ (ae),hst⟩
 obtain rfl:k=0:=aL
 rw[S8,Ye]
 rw[Vi]at hv
 refine we_ (qe_ (le_ (bh_ (qn_ (ws_ (wr_ (e_ mv (k:=e_ asn (k:=on_ (qn_ (wt_ (rT (k:=?_)))))))))))))
 exact⟨_,hsb,z,r,rfl,a8,hwz,hr9,hv,rfl⟩
theorem Ns {G:cJ}{H R:cG}{F sx:SV}{all:List Nat}{n v:Nat} [hr:gV H F eU all R] (hF:fO F) (hl:all.length=F.c) (hw:Wd all) [hx:Sl R sx eU (wds v)] (hv0:v≠0) (hv9:(wds v).length≤1000):SC G prog 138 [(F.up n).val,sx.val,.int .u64 1000000000000000000] H (λv' H'=>∃(F':SV) (all':List Nat),v'=.tuple #[(F'.up (wds (v/1000000000000000000)).length).val,uN (v%1000000000000000000)]∧NW F' all' (v/1000000000000000000)∧H'=Row F' eU all'::R):=by
 refine eZ (dH hr cH.refl) ?_
 have hlv:0<(wds v).length:=X1 λh=>hv0 (jN.1 (Vb h))
 refine sWk func138 ?_
 refine ws_ (wr_ (e_ asn (k:=e_ asn (k:=on_ (qn_ (ws_ (wr_ (e_ mv (k:=e_ lnn (k:=e_ asn (k:=on_ (qn_ (ws_ (?_))))))))))))))
 refine wb_ (ws_ (wr_ (e_ mv (k:=e_ ieq (k:=e_ asn (k:=on_ (qn_ (wi_ (k:=λh1=>?_) (m:=λh1=>?_)))))))))
 ·exact absurd h1 (ae)
 refine ws_ (wr_ (e_ mv (k:=e_ ieq (k:=e_ asn (k:=on_ (qn_ (wi_ (k:=λh2=>?_) (m:=λh2=>?_))))))))
 ·exact absurd h2 (ae)
 refine ws_ (wr_ (e_ mv (k:=e_ ieq (k:=e_ asn (k:=on_ (qn_ (wi_ (k:=λh3=>?_) (m:=λh3=>?_))))))))
 ·exfalso;have h9:=h3;omega
 refine wk_ (bn_ (qn_ (ws_ (wr_ (e_ mv (k:=e_ mv (k:=?_)))))))
 refine c2_ rfl (qn (F:=F) (sx:=sx) (xs:=wds v) (n:=n) (k:=(wds v).length) (m:=(wds v).length) hF hl hw (a8) (Xj _) (.inl hx)) (k:=?_)
 rintro _ _ ⟨F2,mid,post,R2,rfl,hF2,hml,hmp,hk2,hwm,hwp,hrd,hR2,rfl⟩
 haveI hx2:Sl R2 sx eU (wds v):=dj hR2 hx
 rw[←hml]
 refine e_ asn (k:=on_ (qn_ (ws_ (wr_ (e_ mv (k:=e_ mv (k:=e_ mv (k:=?_))))))))
 refine s_ (dy (vs:= [_,_,_,_]) rfl (HV (F:=F2) (sx:=sx) (mid:=mid) (post:=post) (xs:=wds v) hF2 hmp hml.symm (a8) (a8) (oB v))) (k:=?_)
 rintro _ _ ⟨z,r,rfl,hzl,hwz,hr9,hval,rfl⟩
 rw[rY]at hval
 have hq:wv z=v/1000000000000000000:=a8
 have hrr:r=v%1000000000000000000:=a8
 haveI hz2:Sl (Row F2 eU (z++post)::R2) (F2.up mid.length) eU z:=by
  have:=ir (R:=R2) (F:=F2) (xs:=z) (post:=post) hF2 (a8)
  rwa [hzl]at this
 refine e_ asn (k:=on_ (qn_ (ws_ (wr_ (e_ mv (k:=?_))))))
 refine d1_ rfl (uz hF2 (a8) (a8) hwz) (k:=e_ asn (k:=on_ (qn_ (wt_ (rT (k:=?_))))))
 exact⟨_,cH.keep hR2,F2,_,by rw[hq,hrr];all_goals rfl,z8 hF2 (a8) hwz hwp hq,rfl⟩
theorem Nt {G:cJ}{H R:cG}{F sx sy:SV}{all:List Nat}{n v:Nat} [hr:gV H F eU all R] (hF:fO F) (hl:all.length=F.c) (hw:Wd all) [hx:Sl R sx eU (wds v)] [hy:Sl R sy eU (wds 1000000000000000000)] (hv0:v≠0) (hv9:(wds v).length≤1000):SC G prog 85 [(F.up n).val,.pointer none,.slice none 0 0,sx.val,sy.val] H (λv' H'=>∃(F':SV) (all':List Nat) (u:Value),v'=.tuple #[(F'.up (wds (v/1000000000000000000)).length).val,u]∧NW F' all' (v/1000000000000000000)∧H'=Row F' eU all'::R):=by
 refine eZ (dH hr cH.refl) ?_
 have hye:wds 1000000000000000000= [1000000000000000000]:=gF (ae) (ae)
 rw[hye]at hy
 refine sWk func85 ?_
 refine ws_ (wr_ (e_ asn (k:=e_ asn (k:=on_ (qn_ (ws_ (ws_ (wr_ (e_ mv (k:=e_ lnn (k:=e_ ieq (k:=on_ (qn_ (?_))))))))))))))
 refine wi_ (k:=λh1=>?_) (m:=λh1=>?_)
 ·exact absurd h1 (ae)
 refine wk_ (qn_ (ws_ (ws_ (wr_ (e_ mv (k:=e_ lnn (k:=e_ ieq (k:=on_ (qn_ (wi_ (k:=λh2=>?_) (m:=λh2=>?_)))))))))))
 ·refine ws_ (wr_ (e_ asn (k:=on_ (qn_ (ws_ (wr_ (e_ mv (k:=e_ mv (k:=e_ mv (k:=e_ (ixa (i:=0)) (k:=e_ (lel (hy:=(show [1000000000000000000][0]? =some 1000000000000000000 from rfl))) (k:=?_))))))))))))
  refine c3_ rfl (Ns hF hl hw hv0 hv9) (k:=?_)
  rintro _ _ ⟨F2,all2,rfl,hn2,rfl⟩
  refine e_ mv (k:=e_ exr (k:=e_ exr (k:=e_ asn (k:=e_ asn (k:=on_ (qn_ (ws_ (wr_ (e_ mv (k:=e_ mv (k:=?_)))))))))))
  refine c2_ rfl (Lo eU (xe (F:=SV.nil) (all:= []) (n:=0) fO.nil rfl Wd.nil (aG))) (k:=?_)
  rintro _ _ ⟨F3,all3,rfl,hn3,rfl⟩
  refine e_ asn (k:=on_ (qn_ (wt_ (qr_ (rT (k:=?_))))))
  exact⟨_,cH.drop cH.refl,F2,all2,_,rfl,hn2,rfl⟩
 exact absurd (rfl:(([1000000000000000000]:List Nat).length:Int)=1) h2
theorem Pv {G:cJ}{H R R2 R3:cG}{a b c v:Nat} [ha:Rem H Bg a 0 R] [hb:Rem R Bg b v R2] [hc:Rem R2 Bg c 1000000000000000000 R3] (hv0:v≠0) (hv9:(wds v).length≤1000):SC G prog 41 [pA a,pA b,pA c] H (λv' H'=>v'=pA a∧H'=Bg a (v/1000000000000000000)::Bg b v::Bg c 1000000000000000000::R3):=by
 refine eZ (cH.rem ha (cH.keep (cH.rem hb (cH.keep (cH.rem hc cH.refl))))) ?_
 have hen:∀(q0:Array Value) w,(callFunc 41 q0).run prog w=.ok (.enter 41 q0) w:=λ_ _=>aa
 refine kE a hen λF all hn=>kE b hen λF' all' hn'=>kE c hen λF9 all9 hn9=>?_
 refine sWk func41 ?_
 refine ws_ (wr_ (e_ asn (k:=on_ (qn_ (ws_ (?_))))))
 refine wD [13,19] (λk H=>(k=4→cY H a [.bool false,(F.up (wds 0).length).val])∧(k=8→cY H b [.bool false,(F'.up (wds v).length).val])∧(k=12→cY H c [.bool false,(F9.up (wds 1000000000000000000).length).val])) (aF 0 (k:=aF 1 (k:=aF 2 (k:=aF 3 (k:=?_)))))
 refine aN 4 rfl (λH hH=>aw) (?_)
 refine aF 5 (k:=aF 6 (k:=aF 7 (k:=?_)))
 refine aN 8 rfl (λH hH=>aE) (?_)
 refine aF 9 (k:=aF 10 (k:=aF 11 (k:=?_)))
 refine aN 12 rfl (λH hH=>cj) (?_)
 refine jR 13 rfl (aa) rfl (λk hk=>⟨λhi=>ah,λhi=>ah,λhi=>ah⟩) (dy (vs:= [_,_,_,_,_]) rfl (Nt (sx:=F'.up (wds v).length) (sy:=F9.up (wds 1000000000000000000).length) (hx:=hn'.sl inferInstance) (hy:=hn9.sl inferInstance) hn.fl hn.len hn.wd hv0 hv9)) ?_
 rintro _ _ ⟨F2,all2,u2,rfl,hn2,rfl⟩
 refine aF 14 (k:=aF 15 (k:=aF 16 (k:=aF 17 (k:=aF 18 (k:=?_)))))
 refine aS 19 rfl (db rfl rfl rfl) ?_
 rintro _ _ ⟨rfl,rfl⟩
 refine aZ (qn_ (ws_ (?_)))
 refine wD [20] (λk H=>(k=4→cY H a [.bool false,(F2.up (wds (v/1000000000000000000)).length).val])∧(k=5→Sl H (F2.up (wds (v/1000000000000000000)).length) eU (wds (v/1000000000000000000)))∧(k=11→cY H b [.bool false,(F'.up (wds v).length).val])∧(k=15→cY H c [.bool false,(F9.up (wds 1000000000000000000).length).val])) (aF 0 (k:=aF 1 (k:=aF 2 (k:=aF 3 (k:=?_)))))
 refine aN 4 rfl (λH hH=>aw) (?_)
 refine aN 5 rfl (λH hH=>by have hN:=hH.2.1 rfl;exact lnn) (?_)
 refine aF 6 (k:=?_)
 refine fU 7 rfl rfl (aa) rfl (cU λH hH=>mv) (λh1=>?_) (λh1=>?_)
 ·replace h1:=nrm h1
  refine ag_ 8 (q:=cU λH hH=>mv) (k:=ag_ 9 (q:=cU λH hH=>nck) (k:=ag_ 10 (q:=cU λH hH=>fla) (k:=?_)))
  refine fg 11 rfl rfl rfl rfl (aa) rfl (cU λH hH=>bZ) (?_)
  refine ag_ 12 (q:=cU λH hH=>mv) (k:=ag_ 13 (q:=cU λH hH=>nck) (k:=ag_ 14 (q:=cU λH hH=>fla) (k:=?_)))
  refine fg 15 rfl rfl rfl rfl (aa) rfl (cU λH hH=>by have hN:=hH.2.2.2 rfl;exact ldv) (?_)
  refine fg 16 rfl rfl rfl rfl (aa) rfl (cU λH hH=>OH rfl rfl) (?_)
  refine aF 17 (k:=aF 18 (k:=aF 19 (k:=?_)))
  refine jR 20 rfl (aa) rfl (λk hk=>⟨λhi=>ah,λhi=>ah,λhi=>ah,λhi=>ah⟩) (db rfl rfl rfl) ?_
  rintro _ _ ⟨rfl,rfl⟩
  refine aZ (qn_ (ws_ (wr_ (e_ mv (k:=e_ asn (k:=on_ (qn_ (wt_ (rT (k:=?_))))))))))
  exact⟨_,eg hn2 (eg hn' (eg hn9 cH.refl)),rfl,rfl⟩
 replace h1:=nrm h1
 refine ao_ 8 (k:=ao_ 9 (k:=ao_ 10 (k:=ao_ 11 (k:=ao_ 12 (k:=ao_ 13 (k:=ao_ 14 (k:=ao_ 15 (k:=ao_ 16 (k:=aF 17 (k:=aF 18 (k:=aF 19 (k:=?_))))))))))))
 refine jR 20 rfl (aa) rfl (λk hk=>⟨λhi=>ah,λhi=>ah,λhi=>ah,λhi=>ah⟩) (db rfl rfl rfl) ?_
 rintro _ _ ⟨rfl,rfl⟩
 refine aZ (qn_ (ws_ (wr_ (e_ mv (k:=e_ asn (k:=on_ (qn_ (wt_ (rT (k:=?_))))))))))
 exact⟨_,eg hn2 (eg hn' (eg hn9 cH.refl)),rfl,rfl⟩
class qi (H:cG):Prop where
 h27:cY H 27 [.int .i64 12]
 h28:cY H 28 [.int .i64 80]
instance qi.tail {A:Hp}{H:cG} [h:qi H]:qi (A::H):=⟨haveI:=h.h27;inferInstance,haveI:=h.h28;inferInstance⟩
theorem MY {G:cJ}{H R:cG}{F:SV}{all:List Nat}{v:Nat}{q:Value} [hr:gV H F eU all R] [hg:qi R] (hn:NW F all v) (hv0:v≠0) (h11:(wds v).length≤11):SC G prog 129 [(F.up (wds v).length).val,q,(F.up (wds v).length).val] H (λv' H'=>∃(F':SV) (all':List Nat),v'=(F'.up (wds (v*v)).length).val∧NW F' all' (v*v)∧H'=Row F' eU all'::R):=by
 by_cases h:v<B64
 ·exact JH hn.fl hn.len hn.wd hn.src hv0 h
 ·haveI:=hg.h27
  haveI:=hg.h28
  refine MW hn ?_ h11
  rcases U9 (wds v).length 2 with h2|h2
  ·exfalso
   have:=JD (oB v)
   rw[rY]at this
   have h3:B64^(wds v).length≤B64^1:=Vx (ae) (a8)
   rw[Nat.pow_one]at h3
   omega
  ·exact h2
theorem KV {G:cJ}{H R:cG}{b v:Nat} [hb:Rem H Bg b v R] [hg:qi R] (hv0:v≠0) (h11:(wds v).length≤11):SC G prog 82 [pA b,.pointer none,pA b,pA b] H (λv' H'=>v'=.tuple #[]∧H'=Bg b (v*v)::R):=by
 refine eZ (cH.rem hb cH.refl) ?_
 have hen:∀(q0:Array Value) w,(callFunc 82 q0).run prog w=.ok (.enter 82 q0) w:=λ_ _=>aa
 refine kE b hen λF all hn=>?_
 refine sWk func82 ?_
 refine ws_ (ws_ (wr_ (e_ mv (k:=e_ mv (k:=?_)))))
 refine e_ (tK rfl rfl) (k:=?_)
 refine on_ (qn_ (wi_ (k:=λh1=>?_) (m:=λh1=>?_)))
 ·refine ws_ (?_)
  refine wD [10,13] (λk H=>(k=4→cY H b [.bool false,(F.up (wds v).length).val])∧(k=9→cY H b [.bool false,(F.up (wds v).length).val])) (aF 0 (k:=aF 1 (k:=aF 2 (k:=aF 3 (k:=?_)))))
  refine aN 4 rfl (λH hH=>aw) (?_)
  refine aF 5 (k:=aF 6 (k:=aF 7 (k:=aF 8 (k:=?_))))
  refine aN 9 rfl (λH hH=>aV) (?_)
  refine aS 10 rfl (v3_ (MY hn hv0 h11)) ?_
  rintro _ _ ⟨F2,all2,rfl,hn2,rfl⟩
  refine aF 11 (k:=aF 12 (k:=?_))
  refine aS 13 rfl (db rfl rfl rfl) ?_
  rintro _ _ ⟨rfl,rfl⟩
  refine aZ (qn_ (ws_ (wr_ (e_ mv (k:=e_ nck (k:=e_ fla (k:=sto (k:=on_ (qn_ (wt_ (qr_ (rT (k:=?_)))))))))))))
  exact⟨_,eg hn2 cH.refl,rfl,rfl⟩
 exact absurd h1 (ae)
theorem Ps {G:cJ}{H R:cG}{b v:Nat} [hb:Rem H Bg b v R] [hg:qi R] (hv0:v≠0) (h11:(wds v).length≤11):SC G prog 37 [pA b,pA b,pA b] H (λv' H'=>v'=pA b∧H'=Bg b (v*v)::R):=by
 refine sWk func37 ?_
 refine ws_ (wr_ (e_ asn (k:=on_ (qn_ (ws_ (wr_ (e_ mv (k:=e_ mv (k:=e_ mv (k:=?_))))))))))
 refine cp_ (vs:=[_,_,_,_]) rfl (KV hv0 h11) (k:=on_ (qn_ (ws_ (wr_ (e_ mv (k:=e_ asn (k:=on_ (qn_ (wt_ (rT (k:=?_)))))))))))
 exact⟨_,cH.refl,rfl,rfl⟩
theorem KT {G:cJ}{H:cG}{x:Nat} [hg:qi H] (hx0:x≠0) (hx:x^128<B64^11) (hxb:x<18446744073709551616):SC G prog 17 [uN x] H (λv' H'=>v'=uN (cX (x^256)-1)∧H'=H):=by
 have hxp:∀k,k≤128→(wds (x^k)).length≤11:=λk hk=>oZ 11 _ (Vl (Vx (a8) hk) hx)
 have hx00:∀k,x^k≠0:=λk h=>by have:=Nat.pow_pos (n:=k) (X1 hx0);omega
 have hlen:(wds (x^256)).length≤1000:=by
  have h1:x^256<B64^22:=by
   rw[show x^256=x^128*x^128 by rw[←Ud],show B64^22=B64^11*B64^11 by rw[←Ud]]
   exact Nat.mul_lt_mul'' hx hx
  have:=oZ 22 _ h1
  omega
 have hbl:cX (x^256)≠0:=λh=>by have:=jI (x^256);rw[h]at this;have:=hx00 256;omega
 have hbl9:cX (x^256)≤9223372036854775807:=by
  obtain⟨e,he⟩:∃e:Nat,e=16384:=⟨_,rfl⟩
  rcases U9 (cX (x^256)) (e+1)with h|h
  ·omega
  ·exfalso
   have h1:=iG (hx00 256)
   have h2:2^e≤2^(cX (x^256)-1):=Vx (ae) (a8)
   have h3:x^256<B64^22:=by
    rw[show x^256=x^128*x^128 by rw[←Ud],show B64^22=B64^11*B64^11 by rw[←Ud]]
    exact Nat.mul_lt_mul'' hx hx
   have h5:∀f,f≤e→(2:Nat)^f≤2^e:=λf hf=>Vx (ae) hf
   have h6:∀n:Nat,B64^n=2^(64*n):=λn=>(Nat.pow_mul 2 64 n).symm
   obtain⟨n,hn⟩:∃n:Nat,n=22:=⟨_,rfl⟩
   have h4:B64^22≤2^e:=by rw[←hn,h6 n];exact h5 _ (a8)
   exact absurd (S5 h3 (Xi h4 (Xi h2 h1))) (R7 _)
 refine sWk func17 ?_
 refine ws_ (wr_ (e_ asn (k:=on_ (qn_ (ws_ (ws_ (wr_ (e_ mv (k:=e_ ieq (k:=on_ (qn_ (wi_ (k:=λh1=>?_) (m:=λh1=>?_)))))))))))))
 ·exfalso;have h9:=h1;omega
 refine wk_ (qn_ (ws_ (wr_ (alc (k:=λb7=>?_)))))
 refine eN (A2 (b:=b7) cH.refl) ?_
 refine e_ mv (k:=?_)
 refine d2_ rfl (N0 (v:=0) hxb) (k:=e_ asn (k:=on_ (qn_ (ws_ (ws_ (wr_ (e_ asn (k:=on_ (qn_ (wb_ (wl2_ (Nat×Nat) (λy=>y.1≤8∧y.2=2^y.1) (λy=>[(4,iN y.2)]) [(3,_)] (λy=>[Bg b7 (x^y.2)]) H (λy=>8-y.1) ((0,1)) (hh:=?_) (h0:=?_) (k:=?_))))))))))))
 ·try dsimp only
  rw[Nat.pow_one];exact cH.refl
 ·try dsimp only
  exact⟨Yl _,rfl⟩
 rintro⟨k,n⟩ ⟨hk,hn2⟩
 try dsimp only[Yd,Ye]at*
 refine ws_ (ws_ (wr_ (e_ mv (k:=e_ ilt (k:=on_ (qn_ (wi_ (k:=λh2=>?_) (m:=λh2=>?_))))))))
 ·have hk2:k<8:=by
   rcases U9 k 8 with h8|h8
   ·exact h8
   ·exfalso
    have h9:=h2
    obtain rfl:k=8:=a8
    rw[hn2]at h9
    exact absurd h9 (ae)
  have hp2:n≤128:=by rw[hn2];exact Vx (ae) (show k≤7 from a8)
  have hsq:x^n*x^n=x^(2*n):=by rw[←Ud,Nat.two_mul]
  refine wk_ (qn_ (ws_ (wb_ (wr_ (e_ mv (k:=e_ mv (k:=e_ mv (k:=?_))))))))
  refine d3_ rfl (Ps (b:=b7) (v:=x^n) (hx00 _) (hxp _ hp2)) (k:=?_)
  rw[hsq]
  refine on_ (bn_ (qn_ (wr_ (e_ mv (k:=?_)))))
  refine e_ (dm iml (congrArg (Value.int .i64) (show _=((2*n:Nat):Int)from a8))) (k:=?_)
  refine e_ asn (k:=on_ (?_))
  refine ln_ ((k+1,2*n)) (h4:=?_) (k:=?_)
  ·try dsimp only
   exact cH.refl
  try dsimp only
  exact⟨a8,by rw[hn2,T9,Ug]⟩
 have hk8:n=256:=by
  rcases U9 k 8 with h8|h8
  ·exfalso
   have h9:=h2
   have hp2:n≤128:=by rw[hn2];exact Vx (ae) (show k≤7 from a8)
   omega
  ·obtain rfl:k=8:=by omega
   exact hn2
 subst hk8
 refine we_ (qe_ (le_ (bh_ (qn_ (ws_ (wr_ (e_ mv (k:=?_))))))))
 refine d1_ rfl (AP (v:=x^256) hlen) (k:=?_)
 refine e_ (dm isb (congrArg (Value.int .i64) (show _=((cX (x^256)-1:Nat):Int)from a8))) (k:=?_)
 refine e_ (cR 18446744073709551616 rfl rfl rfl (cX (x^256)-1) rfl (a8)) (k:=?_)
 refine e_ asn (k:=on_ (qn_ (wt_ (rT (k:=?_)))))
 exact⟨_,cH.drop cH.refl,rfl,rfl⟩
theorem sF {G:cJ}{H:cG}:SC G prog 47 [.int .i64 1] H (λv H'=>v=.int .u64 1∧H'=H):=by
 refine sWk func47 ?_
 refine ws_ (wr_ (e_ asn (k:=on_ (qn_ (ws_ (wr_ (e_ mv (k:=?_))))))))
 refine e_ (dm (tH rfl rfl) (show Value.int .i64 (max 1 0)=.int .i64 1 from rfl)) (k:=?_)
 refine e_ (dm (lr rfl rfl) (show Value.int .i64 (min 1 1048576)=.int .i64 1 from rfl)) (k:=?_)
 refine e_ (dm (cR 18446744073709551616 rfl rfl rfl 1 rfl (ae)) (show uN 1=.int .u64 1 from rfl)) (k:=?_)
 refine e_ asn (k:=on_ (qn_ (wt_ (rT (k:=?_)))))
 exact⟨_,hsb,rfl,rfl⟩
theorem Pu {G:cJ}{H:cG}:SC G prog 19 [.int .i64 1,.int .i64 1,.int .i64 1] H (λv H'=>v=.int .u64 465∧H'=H):=by
 refine sWk func19 ?_
 refine ws_ (wr_ (e_ asn (k:=on_ (qn_ (ws_ (wr_ (e_ mv (k:=?_))))))))
 refine d1_ rfl (sF) (k:=e_ mv (k:=?_))
 refine d1_ rfl (sF) (k:=e_ mv (k:=?_))
 refine d1_ rfl (sF) (k:=?_)
 refine e_ (dm (tH rfl rfl) (show Value.int .u64 (max 1 1)=.int .u64 1 from rfl)) (k:=?_)
 refine e_ asn (k:=e_ asn (k:=e_ asn (k:=on_ (qn_ (ws_ (wr_ (e_ mv (k:=?_))))))))
 refine e_ (dm (eh 18446744073709551616 rfl rfl rfl rfl 10240 1 rfl rfl) (show uN (10240*1%18446744073709551616)=.int .u64 10240 from rfl)) (k:=?_)
 refine e_ mv (k:=?_)
 refine e_ (dm (eh 18446744073709551616 rfl rfl rfl rfl 10240 1 rfl rfl) (show uN (10240*1%18446744073709551616)=.int .u64 10240 from rfl)) (k:=?_)
 refine e_ mv (k:=?_)
 refine e_ (dm (eh 18446744073709551616 rfl rfl rfl rfl 10 1 rfl rfl) (show uN (10*1%18446744073709551616)=.int .u64 10 from rfl)) (k:=?_)
 refine e_ mv (k:=?_)
 refine e_ (dm (eh 18446744073709551616 rfl rfl rfl rfl 10 1 rfl rfl) (show uN (10*1%18446744073709551616)=.int .u64 10 from rfl)) (k:=?_)
 refine e_ mv (k:=?_)
 refine e_ (dm (eh 18446744073709551616 rfl rfl rfl rfl 3 1 rfl rfl) (show uN (3*1%18446744073709551616)=.int .u64 3 from rfl)) (k:=?_)
 refine e_ (dm (iE 18446744073709551616 rfl rfl rfl rfl 10 3 rfl rfl) (show uN ((10+3)%18446744073709551616)=.int .u64 13 from rfl)) (k:=?_)
 refine e_ mv (k:=?_)
 refine e_ (dm (eh 18446744073709551616 rfl rfl rfl rfl 9 1 rfl rfl) (show uN (9*1%18446744073709551616)=.int .u64 9 from rfl)) (k:=?_)
 refine e_ (dm (iE 18446744073709551616 rfl rfl rfl rfl 13 9 rfl rfl) (show uN ((13+9)%18446744073709551616)=.int .u64 22 from rfl)) (k:=?_)
 refine e_ (dm (fH rfl rfl 10240 22 rfl rfl (ae) (ae)) (show uN (10240/22)=.int .u64 465 from rfl)) (k:=?_)
 refine e_ asn (k:=on_ (qn_ (wt_ (rT (k:=?_)))))
 exact⟨_,hsb,rfl,rfl⟩
theorem Qs:cX (10^256)=851:=jJ (k:=850) (ao) (ao)
theorem bl4:cX (4^256)=513:=jJ (k:=512) (ao) (ao)
theorem bl3:cX (3^256)=406:=jJ (k:=405) (ao) (ao)
theorem KS {G:cJ}{H:cG} [hg:qi H]:SC G prog 17 [.int .u64 10] H (λv' H'=>v'=.int .u64 850∧H'=H):=
 (KT (x:=10) (ae) (ae) (ae)).mono λv H' ⟨h1,h2⟩=>⟨by rw[h1,Qs];all_goals rfl,h2⟩
theorem Nc {G:cJ}{H:cG} [hg:qi H]:SC G prog 17 [.int .u64 4] H (λv' H'=>v'=.int .u64 512∧H'=H):=
 (KT (x:=4) (ae) (ae) (ae)).mono λv H' ⟨h1,h2⟩=>⟨by rw[h1,bl4];all_goals rfl,h2⟩
theorem Nd {G:cJ}{H:cG} [hg:qi H]:SC G prog 17 [.int .u64 3] H (λv' H'=>v'=.int .u64 405∧H'=H):=
 (KT (x:=3) (ae) (ae) (ae)).mono λv H' ⟨h1,h2⟩=>⟨by rw[h1,bl3];all_goals rfl,h2⟩
theorem PA {G:cJ}{H:cG} [hg:qi H]:SC G prog 18 [.int .i64 1,.int .i64 1] H (λv' H'=>v'=.int .u64 107∧H'=H):=by
 refine sWk func18 ?_
 refine ws_ (wr_ (e_ asn (k:=on_ (qn_ (ws_ (wr_ (e_ mv (k:=?_))))))))
 refine e_ (dm (lr rfl rfl) (show Value.int .i64 (min 1 2147483647)=.int .i64 1 from rfl)) (k:=?_)
 refine e_ asn (k:=on_ (qn_ (ws_ (wr_ (e_ mv (k:=e_ mv (k:=?_)))))))
 refine e_ (dm (lr rfl rfl) (show Value.int .i64 (min 1 1)=.int .i64 1 from rfl)) (k:=?_)
 refine e_ asn (k:=on_ (qn_ (ws_ (ws_ (wr_ (e_ mv (k:=e_ ilt (k:=e_ mv (k:=dz 3 17 (k:=λh1=>eg_ mv (k:=eg_ ilt (k:=e_ pkf (k:=on_ (edq))))) (q:=on_ (qn_ (wi_ (k:=λh2=>?_) (m:=λh2=>?_)))))))))))))
 ·exfalso;rcases h2 with h9|h9 <;> exact absurd h9 (ae)
 refine wk_ (qn_ (ws_ (wr_ (e_ mv (k:=?_)))))
 refine e_ (dm iml (show Value.int .i64 (2*1)=.int .i64 2 from rfl)) (k:=?_)
 refine e_ (dm iad (show Value.int .i64 (2+2)=.int .i64 4 from rfl)) (k:=?_)
 refine e_ (dm (cR 18446744073709551616 rfl rfl rfl 4 rfl (ae)) (show uN 4=.int .u64 4 from rfl)) (k:=?_)
 refine d1_ rfl (Nc) (k:=e_ mv (k:=?_))
 refine e_ (dm iml (show Value.int .i64 (2*1)=.int .i64 2 from rfl)) (k:=?_)
 refine e_ (dm iad (show Value.int .i64 (2+1)=.int .i64 3 from rfl)) (k:=?_)
 refine e_ (dm (cR 18446744073709551616 rfl rfl rfl 3 rfl (ae)) (show uN 3=.int .u64 3 from rfl)) (k:=?_)
 refine d1_ rfl (Nd) (k:=?_)
 refine e_ (dm (iV 18446744073709551616 rfl rfl rfl rfl 512 405 rfl rfl (ae) (ae)) (show uN (512-405)=.int .u64 107 from rfl)) (k:=?_)
 refine e_ (dm (tH rfl rfl) (show Value.int .u64 (max 107 1)=.int .u64 107 from rfl)) (k:=?_)
 refine e_ asn (k:=on_ (qn_ (wt_ (rT (k:=?_)))))
 exact⟨_,hsb,rfl,rfl⟩
theorem L9 {G:cJ}{H:cG}{sx sy:SV} [hx:Sl H sx eU [10]] [hy:Sl H sy eU [18]]:SC G prog 137 [.slice none 0 0,.pointer none,sx.val,sy.val,.slice none 0 0,.bool false] (Row SV.nil eU []::Row SV.nil eU []::Row SV.nil eU []::H) (λv H'=>∃(F:SV) (all:List Nat),v=(F.up 1).val∧NW F all 1000000000000000000∧H'=Row F eU all::H):=by
 refine SC.out (Cm func137 rfl ntmps137 (aa) BL ?_)
 refine A.ws_ (wr_ (e_ asn (k:=on_ (A.qn_ (A.ws_ (ws_ (wr_ (e_ mv (k:=e_ mv (k:=?_))))))))))
 refine d2_ rfl (uA) (k:=e_ mv (k:=dz 4 31 (k:=λh1=>eg_ mv (k:=eg_ mv (k:=gA (vs:=[_,_]) (hc:=(uA)) (k:=e_ pkf (k:=on_ (edq)))))) (q:=on_ (qn_ (wi_ (k:=λh2=>?_) (m:=λh2=>?_))))))
 ·exfalso;rcases h2 with h9|h9 <;> cases h9
 refine wk_ (A.qn_ (A.ws_ (ws_ (wr_ (e_ mv (k:=e_ (lnn (s:=SV.nil) (xs:=([]:List Nat))) (k:=e_ ieq (k:=e_ mv (k:=cQ 5 40 (c:=false) (k:=λh4=>?_) (q:=?_))))))))))
 ·exfalso;have h9:=h4;exact absurd h9 (ae)
 refine on_ (qn_ (wi_ (k:=λh5=>?_) (m:=λh5=>?_)))
 ·exact absurd h5.1 (ae)
 refine wk_ (A.qn_ (A.ws_ (ws_ (wr_ (e_ mv (k:=e_ lnn (k:=e_ ieq (k:=on_ (qn_ (wi_ (k:=λh6=>?_) (m:=λh6=>?_)))))))))))
 ·exact absurd h6 (ae)
 refine wk_ (A.qn_ (A.ws_ (ws_ (wr_ (e_ mv (k:=e_ lnn (k:=e_ ieq (k:=on_ (qn_ (wi_ (k:=λh7=>?_) (m:=λh7=>?_)))))))))))
 ·exact absurd h7 (ae)
 refine wk_ (A.qn_ (A.ws_ (ws_ (wr_ (e_ mv (k:=e_ lnn (k:=e_ ieq (k:=e_ mv (k:=cQ 5 61 (k:=λh8=>eg_ mv (k:=eg_ (ixa (i:=0)) (k:=eg_ (lel (hy:=(show([10]:List Nat)[0]? =some 10 from rfl))) (k:=eg_ ieq (k:=e_ pkt (k:=on_ (edq))))))) (q:=on_ (qn_ (wi_ (k:=λh9=>?_) (m:=λh9=>?_)))))))))))))
 ·exact absurd h9.2 (ae)
 refine wk_ (A.qn_ (A.ws_ (ws_ (wr_ (e_ mv (k:=e_ lnn (k:=e_ ieq (k:=e_ mv (k:=cQ 5 72 (k:=λh10=>eg_ mv (k:=eg_ (ixa (i:=0)) (k:=eg_ (lel (hy:=(show([18]:List Nat)[0]? =some 18 from rfl))) (k:=eg_ ieq (k:=e_ pkt (k:=on_ (edq))))))) (q:=e_ mv (k:=cQ 4 77 (c:=false) (k:=λh12=>?_) (q:=?_))))))))))))
 ·exfalso;have h9:=h12;revert h9;decide
 refine on_ (qn_ (wi_ (k:=λh13=>?_) (m:=λh13=>?_)))
 ·exact absurd h13.2 (ae)
 refine wk_ (A.qn_ (A.sr_ (A.ws_ (wr_ (e_ mv (k:=?_))))))
 refine e_ (gN rfl) (k:=?_)
 refine on_ (A.qn_ (ON rfl (A.ws_ (wr_ (?_)))))
 refine c0_ rfl (Pr) (k:=?_)
 rintro _ _ ⟨bs,rfl,rfl⟩
 refine e_ asn (k:=on_ (A.qn_ (OM rfl (ae) rfl (λ_ _ _ hu=>Cv (Nm (G:=G) (H:=Vr bs [.pointer none]::H) (b:=bs)).enter hu) ?_)))
 refine(D.ws_ (D.ws_ (D.wr_ (e_ mv (k:=e_ lnn (k:=e_ ieq (k:=e_ mv (k:=cQ 5 93 (k:=λh15=>eg_ mv (k:=eg_ (ixa (i:=0)) (k:=eg_ (lel (hy:=(show([18]:List Nat)[0]? =some 18 from rfl))) (k:=eg_ ieq (k:=e_ pkt (k:=on_ (edq))))))) (q:=on_ (D.qn_ (D.wi_ (k:=λh16=>?_) (m:=λh16=>?_))))))))))))
 ·exact absurd h16.2 (ae)
 refine D.wk_ (D.qn_ (D.ws_ (D.ws_ (D.wr_ (e_ mv (k:=e_ (lnn (s:=SV.nil) (xs:=([]:List Nat))) (k:=e_ ine (k:=on_ (D.qn_ (D.wi_ (k:=λh17=>?_) (m:=λh17=>?_)))))))))))
 ·exact absurd rfl h17
 refine D.wk_ (D.qn_ (D.ws_ (D.wr_ (e_ mv (k:=e_ mv (k:=?_))))))
 refine c2_ rfl (JI (F:=SV.nil) (n:=0) fO.nil rfl .nil (ae) w10) (k:=?_)
 rintro _ _ ⟨F1,all1,rfl,hF1,hl1,hw1,ht1,rfl⟩
 refine e_ asn (k:=on_ (D.qn_ (D.ws_ (D.wr_ (e_ mv (k:=e_ mv (k:=?_)))))))
 refine e_ (dm lnn (show Value.int .i64 ((([18]:List Nat).length:Nat):Int)=.int .i64 1 from rfl)) (k:=?_)
 refine e_ (dm isb (show Value.int .i64 (1-1)=.int .i64 0 from rfl)) (k:=?_)
 refine e_ (ixa (i:=0) (hlt:=by decide)) (k:=e_ (lel (hy:=(show([18]:List Nat)[0]? =some 18 from rfl))) (k:=e_ asn (k:=on_ (D.qn_ (D.ws_ (D.wr_ (e_ mv (k:=?_))))))))
 refine d1_ rfl (KJ (x:=18) (n:=59) (ae) (ae)) (k:=?_)
 refine e_ (dm (iE 18446744073709551616 rfl rfl rfl rfl 59 1 rfl rfl) (show uN ((59+1)%18446744073709551616)=.int .u64 60 from rfl)) (k:=?_)
 refine e_ asn (k:=on_ (D.qn_ (D.ws_ (D.wr_ (e_ mv (k:=e_ mv (k:=?_)))))))
 refine e_ (dm (gm 18446744073709551616 rfl rfl rfl rfl 18 60 rfl rfl) (show Value.int .u64 _=uN (vE 0)from rfl)) (k:=?_)
 refine e_ asn (k:=on_ (D.qn_ (D.ws_ (D.wr_ (e_ asn (k:=on_ (D.qn_ (D.ws_ (D.wr_ (e_ mv (k:=?_)))))))))))
 refine e_ (dL rfl (a8)) (k:=?_)
 refine e_ isb (k:=e_ asn (k:=on_ (D.qn_ (D.ws_ (D.wr_ (e_ asn (k:=e_ asn (k:=on_ (D.qn_ (D.ws_ (D.ws_ (D.wr_ (e_ asn (k:=?_))))))))))))))
 refine on_ (D.qn_ (D.wb_ (?_)))
 refine D.wl2_ (Nat×SV×((List Nat))×SV×((List Nat))×Nat) (λy=>y.1≤4∧NW y.2.1 y.2.2.1 (zE y.1)∧fO y.2.2.2.1∧y.2.2.2.2.1.length=y.2.2.2.1.c∧Wd y.2.2.2.2.1) (λy=>[(0,(y.2.1.up 1).val),(15,uN (vE y.1)),(19,(y.2.2.2.1.up y.2.2.2.2.2).val),(21,iN y.1)]) [(1,_),(2,_),(3,_),(4,_),(17,_),(18,_),(20,_)] (λy=>[Row y.2.1 eU y.2.2.1,Row y.2.2.2.1 eU y.2.2.2.2.1]) _ (λy=>4-y.1) ((0,F1,all1,SV.nil, [],0)) (h0:=?_) (k:=?_)
 ·try dsimp only
  exact⟨ae,⟨hF1,hw1,hl1,by rw[show zE 0=10 from rfl,DE];exact ht1,by rw[show zE 0=10 from rfl,DE];have h9:=congrArg List.length ht1;rw[Yg,hl1]at h9;have h8:([10]:List Nat).length=1:=rfl;omega⟩,.nil,rfl,.nil⟩
 rintro⟨i,F,all,F2,all2,n⟩ ⟨hi,hn,hF2,hl2,hw2⟩
 try dsimp only[Yd,Ye]at*
 refine D.ws_ (D.ws_ (D.wr_ (e_ mv (k:=e_ mv (k:=e_ ilt (k:=on_ (D.qn_ (D.wi_ (k:=λh18=>?_) (m:=λh18=>?_)))))))))
 ·have hi4:i<4:=by have h9:=h18;omega
  obtain⟨_,_,_,hv4,hv5⟩:=JT ⟨i,hi4⟩
  obtain⟨hb1,hb2⟩:=Kn ⟨i,hi4⟩
  simp only at hv4 hv5 hb1 hb2
  refine D.wk_ (D.qn_ (D.ws_ (D.wb_ (D.ws_ (D.wr_ (e_ mv (k:=e_ mv (k:=e_ mv (k:=?_)))))))))
  refine c3_ rfl (MX hi4 hn hF2 hl2 hw2) (k:=?_)
  rintro _ _ ⟨F3,all3,rfl,hn3,rfl⟩
  refine e_ asn (k:=on_ (D.qn_ (D.ws_ (D.wr_ (e_ mv (k:=e_ mv (k:=e_ asn (k:=e_ asn (k:=on_ (D.qn_ (D.ws_ (D.ws_ (D.wr_ (?_))))))))))))))
  refine e_ mv (k:=?_)
  refine e_ (gn 18446744073709551616 rfl rfl rfl rfl _ 9223372036854775808 rfl rfl (aj) (aj)) (k:=?_)
  refine e_ ine (k:=on_ (D.qn_ (D.wi_ (k:=λh19=>?_) (m:=λh19=>?_))))
  ·obtain rfl:i=2:=by
    have h9:=h19
    rcases Nat.decEq i 2 with h8|h8
    ·exact absurd (by rw[hb1.2 h8];all_goals rfl) h9
    ·exact h8
   refine D.ws_ (D.wr_ (e_ mv (k:=e_ mv (k:=e_ mv (k:=e_ mv (k:=?_))))))
   refine s_ (dy (vs:= [_,_,_,_]) rfl (N9 hn3 hn.fl hn.len hn.wd)) (k:=?_)
   rintro _ _ ⟨F4,all4,rfl,hn4,rfl⟩
   refine e_ asn (k:=on_ (D.qn_ (D.wr_ (e_ mv (k:=e_ mv (k:=e_ asn (k:=e_ asn (k:=on_ (D.qn_ (D.ws_ (D.ws_ (D.wr_ (e_ mv (k:=?_))))))))))))))
   refine e_ (lnn (s:=SV.nil) (xs:=([]:List Nat))) (k:=e_ ine (k:=on_ (D.qn_ (D.wi_ (k:=λh20=>?_) (m:=λh20=>?_)))))
   ·exact absurd rfl h20
   refine D.wk_ (D.qn_ (D.wr_ (e_ mv (k:=?_))))
   refine e_ (dm (gm 18446744073709551616 rfl rfl rfl rfl _ 1 rfl rfl) (congrArg (λn:Nat=>uN n) hv4)) (k:=?_)
   refine e_ asn (k:=on_ (bn_ (D.qn_ (D.wr_ (e_ mv (k:=e_ iad (k:=e_ asn (k:=on_ (?_)))))))))
   refine ln_ ((3,F4,all4,F3,all3,1)) (k:=?_)
   try dsimp only
   exact⟨ae,hn4,hn3.fl,hn3.len,hn3.wd⟩
  have hi2:i≠2:=hb1.1 (by have h9:=h19;omega)
  have hz3:=hb2 hi2
  refine D.wk_ (D.qn_ (D.ws_ (D.ws_ (D.wr_ (e_ mv (k:=e_ (lnn (s:=SV.nil) (xs:=([]:List Nat))) (k:=e_ ine (k:=on_ (D.qn_ (D.wi_ (k:=λh21=>?_) (m:=λh21=>?_)))))))))))
  ·exact absurd rfl h21
  refine D.wk_ (D.qn_ (D.wr_ (e_ mv (k:=?_))))
  refine e_ (dm (gm 18446744073709551616 rfl rfl rfl rfl _ 1 rfl rfl) (congrArg (λn:Nat=>uN n) hv4)) (k:=?_)
  refine e_ asn (k:=on_ (bn_ (D.qn_ (D.wr_ (e_ mv (k:=e_ iad (k:=e_ asn (k:=on_ (?_)))))))))
  refine ln_ ((i+1,F3,all3,F,all,1)) (k:=?_)
  try dsimp only
  exact⟨a8,hz3 ▸ hn3,hn.fl,hn.len,hn.wd⟩
 obtain rfl:i=4:=by have h9:=h18;omega
 refine D.we_ (D.qe_ (le_ (bh_ (D.qn_ (D.ws_ (D.ws_ (D.wr_ (e_ mv (k:=?_)))))))))
 refine e_ (dm lnn (show Value.int .i64 ((([18]:List Nat).length:Nat):Int)=.int .i64 1 from rfl)) (k:=?_)
 refine e_ (dm isb (show Value.int .i64 (1-2)=.int .i64 (-1)from rfl)) (k:=?_)
 refine e_ asn (k:=on_ (D.qn_ (D.wb_ (?_))))
 refine D.wl2_ (Nat) (λy=>y≤0) (λy=>[(22,.int .i64 (-1))]) [(0,_),(1,_),(2,_),(3,_),(4,_),(17,_),(19,_),(20,_)] (λy=>[]) _ (λy=>0) (0) (h0:=?_) (k:=?_)
 ·try dsimp only
  exact Xj _
 rintro d hd
 try dsimp only[Yd,Ye]at*
 refine D.ws_ (D.ws_ (D.wr_ (e_ mv (k:=e_ ige (k:=on_ (D.qn_ (D.wi_ (k:=λh22=>?_) (m:=λh22=>?_))))))))
 ·exact absurd h22 (ae)
 refine D.we_ (D.qe_ (le_ (bh_ (D.qn_ (D.ws_ (D.wr_ (e_ mv (k:=?_))))))))
 refine d1_ rfl (KI hn) (k:=e_ asn (k:=on_ (D.qn_ (D.wt_ (rT (k:=?_))))))
 exact⟨O1,_,cH.refl,_,hsb,F,all,rfl,hn,rfl⟩
theorem OQ:wds 18= [18]:=gF (ae) (ae)
theorem La {G:cJ}{H:cG}{F F':SV}(hx:Sl H F eU (wds 10)) (hy:Sl H F' eU (wds 18)):SC G prog 137 [.slice none 0 0,.pointer none,F.val,F'.val,.slice none 0 0,.bool false] (Row SV.nil eU []::Row SV.nil eU []::Row SV.nil eU []::H) (λv H'=>∃(F:SV) (all:List Nat),v=(F.up (wds 1000000000000000000).length).val∧NW F all 1000000000000000000∧H'=Row F eU all::H):=by
 rw[DE]at hx
 rw[OQ]at hy
 exact L9.mono λv' H' ⟨F,all,h1,h2,h3⟩=>⟨F,all,by rw[h1,gX (ae) (ae)],h2,h3⟩
theorem HM {G:cJ}{H R R2 R3:cG}{a b c:Nat} [ha:Rem H Vr a [.bool false,.slice none 0 0] R] [hb:Rem R Bg b 10 R2] [hc:Rem R2 Bg c 18 R3]:SC G prog 84 [pA a,pA b,pA c,.pointer none,.bool false] H (λv' H'=>v'=pA a∧H'=Bg a 1000000000000000000::R3):=by
 refine eZ (cH.rem ha (cH.keep (cH.rem hb (cH.keep (cH.rem hc cH.refl))))) ?_
 have hen:∀(q0:Array Value) w,(callFunc 84 q0).run prog w=.ok (.enter 84 q0) w:=λ_ _=>aa
 refine kE b hen λF' all' hn'=>kE c hen λF2' all2' hn2'=>?_
 refine eZ (cH.add (A:=Row SV.nil eU []) (.inl ⟨rfl,rfl,rfl⟩) (cH.add (A:=Row SV.nil eU []) (.inl ⟨rfl,rfl,rfl⟩) (cH.add (A:=Row SV.nil eU []) (.inl ⟨rfl,rfl,rfl⟩) cH.refl))) ?_
 refine sWk func84 ?_
 refine ws_ (wr_ (e_ asn (k:=on_ (qn_ (ws_ (wr_ (e_ mv (k:=e_ nck (k:=e_ fla (k:=e_ ldv (k:=e_ asn (k:=on_ (qn_ (?_))))))))))))))
 refine ws_ (ws_ (wr_ (e_ mv (k:=e_ nck (k:=e_ fla (k:=e_ ldv (k:=on_ (qn_ (wi_ (k:=λh1=>?_) (m:=λh1=>?_))))))))))
 ·cases h1
 refine wk_ (qn_ (ws_ (wr_ (e_ mv (k:=e_ nck (k:=e_ fla (k:=e_ ldv (k:=e_ asn (k:=on_ (qn_ (ws_ (wr_ (e_ asn (k:=?_))))))))))))))
 refine on_ (qn_ (ws_ (ws_ (wr_ (e_ mv (k:=?_))))))
 refine e_ (kP rfl) (k:=?_)
 refine on_ (qn_ (wi_ (k:=λh2=>?_) (m:=λh2=>?_)))
 ·cases h2
 refine wk_ (qn_ (ws_ (wr_ (e_ mv (k:=e_ mv (k:=e_ nck (k:=e_ fla (k:=e_ ldv (k:=e_ mv (k:=e_ mv (k:=e_ mv (k:=e_ mv (k:=?_)))))))))))))
 refine s_ (dy (vs:= [_,_,_,_,_,_]) rfl (La (hn'.sl inferInstance) (hn2'.sl inferInstance))) (k:=?_)
 rintro _ _ ⟨F,all,rfl,hn,rfl⟩
 refine e_ nck (k:=e_ fla (k:=sto (k:=on_ (qn_ (ws_ (wr_ (e_ mv (k:=e_ mv (k:=e_ nck (k:=e_ fla (k:=e_ ldv (k:=e_ (lnn (hs:=hn.sl inferInstance)) (k:=e_ igt (k:=?_))))))))))))))
 refine e_ mv (k:=cQ 5 96 (k:=λh3=>eg_ mv (k:=eg_ nck (k:=eg_ fla (k:=eg_ ldv (k:=e_ pkt (k:=on_ (edq))))))) (q:=e_ mv (k:=cQ 4 101 (c:=false) (k:=λh5=>?_) (q:=?_))))
 ·exfalso;exact absurd (h5).2 (ae)
 refine e_ mv (k:=cQ 6 108 (c:=false) (k:=λh7=>?_) (q:=?_))
 ·exfalso;exact absurd (h7).2 (ae)
 simp only[Bool.and_false]
 refine e_ nck (k:=e_ fla (k:=sto (k:=on_ (qn_ (ws_ (ws_ (wr_ (e_ mv (k:=e_ nck (k:=e_ fla (k:=e_ ldv (k:=e_ mv (k:=cQ 4 119 (c:=false) (k:=λh9=>?_) (q:=?_))))))))))))))
 ·exfalso;have h9:=h9;exact absurd h9 (ae)
 refine on_ (qn_ (wi_ (k:=λh10=>?_) (m:=λh10=>?_)))
 ·exact absurd (h10).1 (ae)
 refine wk_ (qn_ (ws_ (wr_ (e_ mv (k:=e_ asn (k:=on_ (qn_ (wt_ (rT (k:=?_))))))))))
 exact⟨_,eg hn (hsb),rfl,rfl⟩
theorem PB {G:cJ}{H R R2 R3:cG}{a b c:Nat} [ha:Rem H Vr a [.bool false,.slice none 0 0] R] [hb:Rem R Bg b 10 R2] [hc:Rem R2 Bg c 18 R3]:SC G prog 40 [pA a,pA b,pA c,.pointer none] H (λv' H'=>v'=pA a∧H'=Bg a 1000000000000000000::R3):=by
 refine sWk func40 ?_
 refine ws_ (wr_ (e_ asn (k:=on_ (qn_ (ws_ (wr_ (e_ mv (k:=e_ mv (k:=e_ mv (k:=e_ mv (k:=?_)))))))))))
 refine cp_ (vs:=[_,_,_,_,_]) rfl (HM (b:=b) (c:=c)) (k:=e_ asn (k:=on_ (qn_ (wt_ (rT (k:=?_))))))
 exact⟨_,cH.refl,rfl,rfl⟩
def wI (i:Nat):Nat:=if i=0 then 0 else 5*10^(i-1)
theorem JE:∀i:Fin 19,wI i.val<18446744073709551616:=ae
theorem JF {i:Nat}(h:0<i):wI i≠0:=by
 rw[wI,if_neg (a8)]
 have:=Nat.pow_pos (n:=i-1) (show 0<10 from ae)
 omega
theorem Kj {i:Nat}(h:i<19):(wds (wI i)).length≤1000:=by
 rcases Uc (wI i)with h0|h0
 ·rw[h0,dV];decide
 ·rw[gX (Nat.pos_iff_ne_zero.1 h0) (JE ⟨i,h⟩)];decide
theorem Hn {i d:Nat}(hd:(i=0∧d=5)∨(0<i∧d=0)):wI i*10+d=wI (i+1):=by
 rcases hd with⟨rfl,rfl⟩|⟨h,rfl⟩
 ·rfl
 ·obtain⟨j,rfl⟩:∃j,i=j+1:=⟨i-1,a8⟩
  rw[wI,wI,if_neg (a8),if_neg (a8),Uj,Uj,T9]
  omega
theorem Ho {i:Nat}(h:i<18):(wds (wI i*10)).length≤1000:=by
 have h2:wI i*10<B64*B64:=Nat.mul_lt_mul'' (JE ⟨i,a8⟩) (ae)
 have:=oZ 2 _ (by rw[Nat.pow_two];exact h2)
 omega
theorem NF {G:cJ}{H R R2:cG}{b c i d:Nat} [hb:Rem H Bg b (wI i*10) R] [hc:Rem R Bg c d R2] (hi:i<18) (hd:(i=0∧d=5)∨(0<i∧d=0)):SC G prog 36 [pA b,pA b,pA c] H (λv' H'=>v'=pA b∧H'=Bg b (wI (i+1))::Bg c d::R2):=by
 rw[←Hn hd]
 refine ND ?_ (Ho hi) ?_
 ·rcases hd with⟨rfl,rfl⟩|⟨h,rfl⟩
  ·exact .inl ⟨rfl,ae⟩
  ·exact .inr ⟨by have:=JF h;omega,rfl⟩
 ·rcases hd with⟨_,rfl⟩|⟨_,rfl⟩
  ·rw[gX (ae) (ae)];decide
  ·rw[dV];decide
theorem N4 {G:cJ}{H R R2 R3:cG}{a b c:Nat} [ha:Rem H Vr a [.bool false,.slice none 0 0] R] [hb:Rem R Bg b 131072000000000000000000 R2] [hc:Rem R2 Bg c 1000000000000000000 R3]:SC G prog 41 [pA a,pA b,pA c] H (λv' H'=>v'=pA a∧H'=Bg a 131072::R3):=by
 refine eZ (A2 (b:=a) (cH.rem hb (cH.keep (cH.rem hc cH.refl)))) ?_
 refine SC.out ((Pv (v:=131072000000000000000000) (ae) ?_).mono λv' H' ⟨h1,h2⟩=>⟨_,?_,h1,rfl⟩)
 ·have:=oZ 2 131072000000000000000000 (ae);omega
 ·rw[h2];exact(show cH (Bg a 131072::Bg b 131072000000000000000000::Bg c 1000000000000000000::R3) (Bg a 131072::R3)from hsb)
theorem Ky {G:cJ}{b:Nat}{R:cG}:SC G prog 42 [pA b] (Bg b 131072::R) (λv' H'=>v'=.int .i64 1∧H'=Bg b 131072::R):=(MZ (v:=131072)).mono λv' H' ⟨h1,h2⟩=>⟨by rw[h1];all_goals rfl,h2⟩
theorem NB {G:cJ}{b:Nat}{R:cG}:SC G prog 43 [pA b] (Bg b 131072::R) (λv' H'=>v'=.int .i64 18∧H'=Bg b 131072::R):=
 (AP (v:=131072) (by rw[gX (ae) (ae)];decide)).mono λv' H' ⟨h1,h2⟩=>⟨by rw[h1,jJ (k:=17) (ae) (ae)];all_goals rfl,h2⟩
theorem Kq {G:cJ}{b:Nat}{R:cG}:SC G prog 44 [pA b] (Bg b 131072::R) (λv' H'=>v'=uN 131072∧H'=Bg b 131072::R):=Hz (ae)
theorem NA {G:cJ}{H:cG}{q p r:ByteArray}(hi:ixR q 46=1) (h2:2≤q.size) (hs:q.size≤100) (hp:q.extract 0 1=p) (hr:q.extract 2 q.size=r):SC G prog 34 [.string q,.string ⟨#[46]⟩] H (λv H'=>v=.tuple #[.string p,.string r,.bool true]∧H'=H):=by
 rw[←hp,←hr]
 exact PC hi h2 hs
theorem Nb {G:cJ}{H R:cG}{b:Nat} [hb:Rem H Bg b (wI 18) R]:SC G prog 39 [pA b,pA b,.int .u64 18] H (λv' H'=>v'=pA b∧H'=Bg b 131072000000000000000000::R):=
 (Na (v:=wI 18) (JF (ae)) (ae)).mono λv' H' ⟨h1,h2⟩=>⟨h1,by rw[h2];all_goals rfl⟩
theorem AH:qV 393216= [49,46,53]:=by
 rw[qV,o8 (ae)]
 decide
theorem AL {G:cJ}{H:cG} [hg:Glb G H] {q r:ByteArray}(hi:ixR q 46=1) (h2:2≤q.size) (hs:q.size≤100) (hp:q.extract 0 1=⟨#[49]⟩) (hr:q.extract 2 q.size=r) (hrs:r.size≤2) (hrs1:1≤r.size) (hr0:at0 (cF r) 0=53) (hr1:1<r.size→at0 (cF r) 1=48):
 SC G prog 15 [.string q] H (λv H'=>v=(if cF q= [49,46,53]then .tuple #[.int .u64 393216,.nilIface]else .tuple #[.int .u64 0,G.err 12])∧H'=H):=by
 refine sWk func15 ?_
 refine ws_ (wr_ (e_ asn (k:=e_ asn (k:=on_ (qn_ (ws_ (wr_ (e_ mv (k:=?_)))))))))
 refine d2_ rfl (NA hi h2 hs hp hr) (k:=e_ mv (k:=e_ exr (k:=e_ exr (k:=e_ exr (k:=e_ asn (k:=e_ asn (k:=e_ asn (k:=on_ (qn_ (ws_ (wr_ (e_ mv (k:=?_)))))))))))))
 refine d3_ rfl (tPU) (k:=e_ mv (k:=e_ exr (k:=e_ exr (k:=e_ asn (k:=e_ asn (k:=on_ (qn_ (ws_ (ws_ (wr_ (e_ mv (k:=?_))))))))))))
 refine e_ ((bP)) (k:=?_)
 refine e_ mv (k:=dz 4 32 (k:=λh1=>eg_ mv (k:=eg_ oe (k:=eg_ igt (k:=e_ pkf (k:=on_ (edq)))))) (q:=on_ (qn_ (wi_ (k:=λh2=>?_) (m:=λh2=>?_)))))
 ·exfalso;rcases h2 with h9|h9
  ·cases h9
  ·omega
 refine wk_ (qn_ (ws_ (wr_ (alc (k:=λb=>?_)))))
 refine e_ asn (k:=on_ (qn_ (ws_ (ws_ (wr_ (e_ mv (k:=on_ (qn_ (wb_ (wl2_ (Nat) (λy=>y≤18) (λy=>[(35,iN y)]) [(0,_),(5,_),(7,_),(9,_)] (λy=>[Bg b (wI y)]) H (λy=>18-y) (0) (hh:=?_) (h0:=?_) (k:=?_)))))))))))
 ·try dsimp only
  exact A2 cH.refl
 ·try dsimp only
  exact Yl _
 rintro i hi18
 try dsimp only[Yd,Ye]at*
 refine ws_ (wr_ (e_ ilt (k:=on_ (qn_ (ws_ (wi_ (k:=λh3=>?_) (m:=λh3=>?_)))))))
 ·have hi9:i<18:=by have h9:=h3;omega
  refine wk_ (qn_ (ws_ (wb_ (ws_ (wr_ (e_ mv (k:=e_ asn (k:=on_ (qn_ (ws_ (wr_ (e_ asn (k:=on_ (?_))))))))))))))
  refine qn_ (jS (Nat) (λy=>(i=0∧y=5)∨(0<i∧y=0)) (λy=>[(11,iN y)]) [11,38,39,40,41,42,43,44,45,46] ?_ ?_)
  ·refine ws_ (wr_ (e_ mv (k:=e_ mv (k:=e_ oe (k:=e_ ilt (k:=on_ (qn_ (wi_ (k:=λh4=>?_) (m:=λh4=>?_)))))))))
   ·have hil:i<r.size:=by have h9:=h4;omega
    have hd9:(i=0∧at0 (cF r) i=53)∨(0<i∧at0 (cF r) i=48):=by
     rcases Uc i with rfl|h9
     ·exact .inl ⟨rfl,hr0⟩
     ·obtain rfl:i=1:=by omega
      exact .inr ⟨ae,hr1 hil⟩
    refine wr_ (e_ mv (k:=e_ mv (k:=e_ ixs (k:=?_))))
    refine e_ (dL rfl (a8)) (k:=?_)
    refine e_ (dm isb (congrArg (Value.int .i64) (show _=((at0 (cF r) i-48:Nat):Int)from a8))) (k:=?_)
    refine e_ asn (k:=on_ (jnE (at0 (cF r) i-48) (q:=?_)))
    rcases hd9 with⟨h8,h9⟩|⟨h8,h9⟩
    ·exact .inl ⟨h8,by rw[h9]⟩
    ·exact .inr ⟨h8,by rw[h9]⟩
   have hil:r.size≤i:=by have h9:=h4;omega
   refine wk_ (jnE (0) (q:=?_))
   exact .inr ⟨a8,rfl⟩
  rintro d hd
  try dsimp only[Yd,Ye]at*
  refine wr_ (e_ mv (k:=e_ mv (k:=e_ mv (k:=?_))))
  refine c1_ rfl (rF (x:=10) (ae)) (k:=?_)
  rintro _ _ ⟨b10,rfl,rfl⟩
  refine d3_ rfl (N8 (v:=wI i) (u:=10) (ae) (ae) (Kj (a8))) (k:=e_ mv (k:=?_))
  refine c1_ rfl (rF (x:=d) (a8)) (k:=?_)
  rintro _ _ ⟨bd,rfl,rfl⟩
  refine d3_ rfl (NF hi9 hd) (k:=on_ (bn_ (qn_ (wr_ (e_ iad (k:=e_ mv (k:=on_ (?_))))))))
  refine ln_ (i+1) (k:=?_)
  try dsimp only
  omega
 obtain rfl:i=18:=by have h9:=h3;omega
 refine we_ (qe_ (le_ (bh_ (qn_ (ws_ (wr_ (e_ mv (k:=e_ mv (k:=?_)))))))))
 refine d3_ rfl (Nb) (k:=on_ (qn_ (ws_ (wr_ (alc (k:=λba=>?_))))))
 refine c1_ rfl (rF (x:=10) (ae)) (k:=?_)
 rintro _ _ ⟨bx,rfl,rfl⟩
 refine c1_ rfl (rF (x:=18) (ae)) (k:=?_)
 rintro _ _ ⟨by2,rfl,rfl⟩
 refine cp_ (vs:=[_,_,_,_]) rfl (PB (b:=bx) (c:=by2)) (k:=e_ asn (k:=on_ (qn_ (ws_ (wr_ (alc (k:=λbq=>?_)))))))
 refine e_ mv (k:=e_ mv (k:=?_))
 refine d3_ rfl (N4) (k:=e_ asn (k:=on_ (qn_ (ws_ (ws_ (wr_ (e_ mv (k:=?_))))))))
 refine d1_ rfl (Ky) (k:=e_ ilt (k:=e_ mv (k:=dz 4 74 (k:=λh5=>eg_ mv (k:=gA (vs:=[_]) (hc:=(NB)) (k:=eg_ igt (k:=e_ pkf (k:=on_ (edq)))))) (q:=on_ (qn_ (wi_ (k:=λh6=>?_) (m:=λh6=>?_)))))))
 ·exfalso;rcases h6 with h9|h9 <;> exact absurd h9 (ae)
 refine wk_ (qn_ (ws_ (wr_ (e_ mv (k:=?_)))))
 refine e_ (dm (gm 18446744073709551616 rfl rfl rfl rfl 1 18 rfl rfl) (show Value.int .u64 _=uN 262144 from rfl)) (k:=?_)
 refine e_ mv (k:=?_)
 refine d1_ rfl (Kq) (k:=?_)
 refine e_ (dm (iE 18446744073709551616 rfl rfl rfl rfl 262144 131072 rfl rfl) (show Value.int .u64 _=uN 393216 from rfl)) (k:=?_)
 refine e_ asn (k:=on_ (qn_ (ws_ (ws_ (wr_ (e_ mv (k:=?_)))))))
 refine c1_ rfl (JG (x:=393216) (ae)) (k:=?_)
 rintro _ _ ⟨⟨tx,rfl,htx⟩,rfl⟩
 refine e_ mv (k:=e_ Ic (k:=on_ (qn_ (wi_ (k:=λh7=>?_) (m:=λh7=>?_)))))
 ·have hne:¬cF q= [49,46,53]:=by have h9:=h7;rw[htx,AH]at h9;exact λh8=>h9 h8.symm
  refine ws_ (?_)
  refine wD [] (λk H=>(k=0→cY H 0 [G.err 12])) (?_)
  refine aN 0 rfl (λH hH=>by have hN:=hH rfl;exact ldv) (?_)
  refine aF 1 (k:=aF 2 (k:=aZ (qn_ (wt_ (qr_ (rT (k:=?_)))))))
  exact⟨_,hsb,by rw[if_neg hne];all_goals rfl,rfl⟩
 have heq:cF q= [49,46,53]:=by have h9:=h7;rw[htx,AH]at h9;exact h9.symm
 refine wk_ (qn_ (ws_ (wr_ (e_ mv (k:=e_ asn (k:=e_ asn (k:=on_ (qn_ (wt_ (rT (k:=?_)))))))))))
 exact⟨_,hsb,by rw[if_pos heq];all_goals rfl,rfl⟩
theorem Py {G:cJ}{H:cG} [hg:Glb G H]:SC G prog 15 [.string ⟨#[49,46,53]⟩] H (λv H'=>v=.tuple #[.int .u64 393216,.nilIface]∧H'=H):=
 (AL (q:=⟨#[49,46,53]⟩) (r:=⟨#[53]⟩) (ao) (ae) (ae) (ao) (ao) (ae) (ae) (ae) (ae)).mono λv H' ⟨h1,h2⟩=>⟨by rw[h1,if_pos (ae)],h2⟩
theorem N5 {G:cJ}{H:cG} [hg:Glb G H]:SC G prog 15 [.string ⟨#[49,46,53,48]⟩] H (λv H'=>v=.tuple #[.int .u64 0,G.err 12]∧H'=H):=
 (AL (q:=⟨#[49,46,53,48]⟩) (r:=⟨#[53,48]⟩) (ao) (ae) (ae) (ao) (ao) (ae) (ae) (ae) (ae)).mono λv H' ⟨h1,h2⟩=>⟨by rw[h1,if_neg (ae)],h2⟩
theorem Kp:qV 1=cF ⟨#[48,46,48,48,48,48,48,51,56,49,52,54,57,55,50,54,53,54,50,53]⟩:=by
 rw[qV,o8 (ae)]
 decide
theorem Kr {G:cJ}{H:cG}:SC G prog 20 [.int .u64 1] H (λv H'=>v=.string ⟨#[48,46,48,48,48,48,48,51,56,49,52,54,57,55,50,54,53,54,50,53]⟩∧H'=H):=
 (JG (x:=1) (ae)).mono λv H' ⟨⟨q,h1,h2⟩,h3⟩=>⟨by rw[h1,iw.1 (h2.trans Kp)],h3⟩
theorem HQ {G:cJ}{H:cG} [hg:Glb G H] [He G] [hb:qi H]:SC G prog 4 [] H (λv H'=>v=.bool true∧H'=H):=by
 refine sWk func4 ?_
 refine ws_ (wr_ (e_ asn (k:=on_ (qn_ (ws_ (wr_ (?_)))))))
 refine d1_ rfl (Py) (k:=e_ mv (k:=e_ exr (k:=e_ exr (k:=e_ asn (k:=e_ asn (k:=on_ (qn_ (ws_ (wr_ (?_))))))))))
 refine d1_ rfl (N5) (k:=e_ mv (k:=e_ exr (k:=e_ exr (k:=e_ asn (k:=e_ asn (k:=on_ (qn_ (ws_ (ws_ (wr_ (e_ mv (k:=?_))))))))))))
 refine e_ ((bP)) (k:=?_)
 refine e_ mv (k:=dz 3 18 (k:=λh1=>eg_ mv (k:=eg_ ine (k:=e_ pkf (k:=on_ (edq))))) (q:=e_ mv (k:=dz 4 23 (k:=λh2=>eg_ mv (k:=gA (vs:=[_]) (hc:=(N6)) (k:=eg_ ine (k:=e_ pkf (k:=on_ (edq)))))) (q:=on_ (qn_ (wi_ (k:=λh3=>?_) (m:=λh3=>?_)))))))
 ·exfalso;rcases h3 with(h9|h9)|h9
  ·cases h9
  ·exact h9 trivial
  ·exact h9 trivial
 refine wk_ (qn_ (ws_ (wr_ (?_))))
 refine d1_ rfl (KS) (k:=e_ ieq (k:=e_ mv (k:=cQ 3 29 (k:=λh4=>gA (vs:=[_,_]) (hc:=(PA)) (k:=eg_ ieq (k:=e_ pkt (k:=on_ (edq))))) (q:=e_ mv (k:=cQ 3 33 (k:=λh5=>gA (vs:=[_,_,_]) (hc:=(Pu)) (k:=eg_ ieq (k:=e_ pkt (k:=on_ (edq))))) (q:=e_ mv (k:=cQ 3 37 (k:=λh6=>gA (vs:=[_]) (hc:=(Kr)) (k:=eg_ np (k:=e_ pkt (k:=on_ (edq))))) (q:=e_ asn (k:=on_ (qn_ (wt_ (rT (k:=?_)))))))))))))
 exact⟨_,hsb,vb (ae),rfl⟩
end Go.Sx
