import Derived.Test.YtefgpomabdplbaaGreatDoorQ30
import Derived.ScopeJumps
set_option linter.unusedVariables false
set_option linter.unusedSimpArgs false
set_option linter.unusedSectionVars false
set_option linter.unnecessarySimpa false
set_option maxHeartbeats 0
namespace Go.Sx
open Go Go.Proofs
set_option maxRecDepth 100000
def eW:Enc Nat:=⟨fun n=> [.int .u64 (n:Int)],1,false,fun _=> rfl,fun _ v h=> ba,ag,fun _=> rfl,ag⟩
instance {n:Nat}:fK eW (.int .u64 ((n:Nat):Int)) n:=⟨rfl⟩
instance {n:Nat}:jG eW n (.int .u64 ((n:Nat):Int)):=⟨rfl⟩
structure DsG where
 n:Nat
 c:Nat
 ws:List Nat
def Ds (b:Nat) (p:DsG):Hp:=Ex fun s:SV=> [Vr b [.int .i64 ((p.n:Nat):Int), .int .i64 ((p.c:Nat):Int),s.val],Row s eW p.ws]
theorem Hm {b n c:Nat}{ws:List Nat}{s:SV}{R:cG}:cJ (Vr b [.int .i64 ((n:Nat):Int), .int .i64 ((c:Nat):Int),s.val]::Row s eW ws::R) (Ds b ⟨n,c,ws⟩::R):=sA (K:=Ds) (i:=b) (a:=⟨n,c,ws⟩) rfl s
theorem Og {G:cK}{P:Program}{H:cG}{f:FuncId}{args:List Value}{K:Value→cG→Prop}{R:cG}{b:Nat}{p:DsG}(hr:Rem H Ds b p R) (h:∀s:SV,SC G P f args (Vr b [.int .i64 ((p.n:Nat):Int), .int .i64 ((p.c:Nat):Int),s.val]::Row s eW p.ws::R) K):SC G P f args H K:=
 ⟨(h SV.nil).enter,fun w hw=> let ⟨s,hs⟩:=mo (K:=Ds) rfl hr hw;(h s).call w hs⟩
theorem KW {G:cK}{H:cG}{b n:Nat}{i:Int}{v1 v2:Value} [cQ H b [.int .i64 ((n:Nat):Int),v1,v2]]:SC G Tryz.prog 113 [.pointer (some ⟨b,0,none⟩), .int .i64 i] H (fun v H'=> v= .bool (decide (0≤i) && decide (i<((n:Nat):Int)))∧H'=H):=by
 refine sWk Tryz.func113 Tryz.ntmps113 ?_
 refine gk (k:=dh 7 14 (k:=fun h1=>gk (k:=edq)) (q:=go ?_))
 refine gk (k:=rt_ Tryz.results113 (k:=?_))
 exact⟨_,hsb,rfl,rfl⟩
theorem LY {G:cK}{H:cG}{b n c i:Nat}{s:SV}{ws:List Nat} [cQ H b [.int .i64 ((n:Nat):Int), .int .i64 ((c:Nat):Int),s.val]] [hs:Sl H s eW ws] (hi:i<n) (hn:n≤1048576) (hl:ws.length=(n+63) / 64) (hw:okW ws):SC G Tryz.prog 60 [.pointer (some ⟨b,0,none⟩), .int .i64 ((i:Nat):Int)] H (fun v H'=> v= .bool (oG ws i)∧H'=H):=by
 have hi64:i / 64<ws.length:=aa
 have hwi:ws[i / 64]? =some (ws.getD (i / 64) 0):=by rw[List.getD_eq_getElem?_getD,Yi hi64];all_goals rfl
 have hx:=tE hw (i / 64)
 have hm:i % 64<64:=Nat.mod_lt _ (ag)
 have hd:ws.getD (i / 64) 0 / 2 ^ (i % 64)≤ws.getD (i / 64) 0:=Nat.div_le_self ..
 have hrng:(decide ((0:Int)≤((i:Nat):Int)) && decide (((i:Nat):Int)<((n:Nat):Int)))=true:=by rw[Ys (aa),Ys (aa)];all_goals rfl
 refine sWk Tryz.func60 Tryz.ntmps60 ?_
 refine go ?_
 refine d2_ rfl (KW) (k:=?_)
 rw[hrng]
 refine e_ mv (k:=dh 14 22 (k:=fun h1=>eg_ mv (k:=eg_ nck (k:=eg_ fla (k:=eg_ ldv (k:=eg_ mv (k:=eg_ (gn rfl rfl i 64 rfl rfl (ag) (aq)) (k:=eg_ ixa (k:=eg_ lel (k:=eg_ mv (k:=eg_ (kG rfl rfl i 64 rfl rfl (ag)) (k:=eg_ (fC rfl rfl (ws.getD (i / 64) 0) (i % 64) rfl rfl (by show _≤64;omega)) (k:=eg_ (mR 18446744073709551616 rfl rfl rfl rfl (ws.getD (i / 64) 0 / 2 ^ (i % 64)) 1 rfl rfl (aa) (aa)) (k:=eg_ ieq (k:=e_ pkt (k:=on_ (edq)))))))))))))))) (q:=e_ asn (k:=on_ (qn_ (wt_ (rt_ Tryz.results60 (k:=?_)))))))
 exact⟨_,hsb,congrArg Value.bool (by
  rw[oG,Bool.true_and,Bool.eq_iff_iff,decide_eq_true_eq,←Kz];omega),rfl⟩
theorem CT {G:cK}{H:cG}{n:Nat}(hn:n≤1048576):SC G Tryz.prog 112 [.int .i64 ((n:Nat):Int)] H (fun v H'=> ∃b,v= .pointer (some ⟨b,0,none⟩)∧H'=Ds b ⟨n,0,List.replicate ((n+63) / 64) 0⟩::H):=by
 refine sWk Tryz.func112 Tryz.ntmps112 ?_
 refine ws_ (wr_ (e_ asn (k:=on_ (qn_ (ws_ (wr_ (e_ mv (k:=e_ mv (k:=e_ iad (k:=?_))))))))))
 refine e_ (gn rfl rfl (n+63) 64 (aa) rfl (ag) (aq)) (k:=?_)
 refine s_ (eX eW 0 rfl rfl ((n+63) / 64) ((n+63) / 64) rfl rfl rfl (aa) (aa) (aa)) (k:=?_)
 rintro _ _ ⟨s7,rfl,h7n,h7c,rfl⟩
 refine e_ (bld [(0,_),(2,_)]) (k:=bxx (k:=fun b9=>?_))
 refine gk (k:=rt_ Tryz.results112 (k:=?_))
 exact⟨_,Hm,b9,rfl,rfl⟩
theorem Iy {G:cK}{H:cG}{n:Nat}(hn:n≤1048576):SC G Tryz.prog 55 [.int .i64 ((n:Nat):Int)] H (fun v H'=> ∃b,v= .tuple #[.pointer (some ⟨b,0,none⟩), .nilIface]∧H'=Ds b ⟨n,0,List.replicate ((n+63) / 64) 0⟩::H):=by
 refine sWk Tryz.func55 Tryz.ntmps55 ?_
 refine ws_ (wr_ (e_ asn (k:=e_ asn (k:=on_ (qn_ (ws_ (ws_ (wr_ (e_ mv (k:=e_ ilt (k:=e_ mv (k:=dN 3 9 (k:=fun h1=>eg_ mv (k:=eg_ igt (k:=e_ pkf (k:=on_ (edq))))) (q:=on_ (?_))))))))))))))
 refine qn_ (wi_ (k:=fun h2=>?_) (m:=fun h2=>?_))
 ·exact absurd h2 (aa)
 refine wk_ (qn_ (ws_ (wr_ (e_ mv (k:=?_)))))
 refine c1_ rfl (CT hn) (k:=?_)
 rintro _ _ ⟨b,rfl,rfl⟩
 refine e_ asn (k:=e_ asn (k:=on_ (qn_ (wt_ (rt_ Tryz.results55 (k:=?_))))))
 exact⟨_,hsb,b,rfl,rfl⟩
theorem Q3 {G:cK}{H R:cG}{b n c:Nat}{ws:List Nat}{i:Int} [hg:Glb G R] [hr:Rem H Ds b ⟨n,c,ws⟩ R] (hn:n≤1048576) (hc:c≤1000000000) (hl:ws.length=(n+63) / 64) (hw:okW ws):SC G Tryz.prog 56 [.pointer (some ⟨b,0,none⟩), .int .i64 i] H (fun v H'=> ((i<0∨((n:Nat):Int)≤i)∧v= .tuple #[.bool false,G.err 1]∧H'=R)∨(0≤i∧i<((n:Nat):Int)∧∃(x:Bool) (c':Nat) (ws':List Nat),v= .tuple #[.bool x, .nilIface]∧H'=Ds b ⟨n,c',ws'⟩::R∧c'≤c+1∧ws'.length=ws.length∧okW ws'∧∀j:Nat,oG ws' j=(decide (((j:Nat):Int)=i) ||oG ws j))):=by
 refine SC.rem (h:=hr) ?_
 refine Og (b:=b) (p:=⟨n,c,ws⟩) (R:=R) inferInstance fun s=> ?_
 dsimp only
 refine sWk Tryz.func56 Tryz.ntmps56 ?_
 refine go ?_
 refine d2_ rfl (KW) (k:=gk (k:=wi_ (k:=fun h1=>?_) (m:=fun h1=>?_)))
 ·have hr:i<0∨((n:Nat):Int)≤i:=by have h9:=h1;omega
  refine go ?_
  refine cX cI (as_ 0 (q:=ldv) (k:=as_ 1 (q:=asn) (k:=as_ 2 (q:=asn) (k:=az_ (k:=gk (k:=rt_ Tryz.results56 (k:=?_)))))))
  exact⟨_,hsb, .inl ⟨hr,rfl,rfl⟩⟩
 have hr:0≤i∧i<((n:Nat):Int):=az
 obtain⟨m,rfl⟩:=Int.eq_ofNat_of_zero_le hr.1
 have hmn:m<n:=aa
 have hm64:m / 64<ws.length:=aa
 have hwi:ws[m / 64]? =some (ws.getD (m / 64) 0):=by rw[List.getD_eq_getElem?_getD,Yi hm64];all_goals rfl
 have hx:=tE hw (m / 64)
 have hp2:=L7 (k:=m % 64) (Nat.mod_lt _ (ag))
 refine go ?_
 refine d2_ rfl (LY hmn hn hl hw) (k:=gk (k:=wi_ (k:=fun h2=>?_) (m:=fun h2=>?_)))
 ·have hbt:oG ws m=true:=h2
  refine gk (k:=rt_ Tryz.results56 (k:=?_))
  exact⟨_,Hm, .inr ⟨aa,hr.2,false,c,ws,rfl,rfl,aa,rfl,hw,fun j=> by by_cases hj:((j:Nat):Int)=((m:Nat):Int) <;> simp[hj] <;> (obtain rfl:j=m:=by omega) <;> exact hbt⟩⟩
 refine go ?_
 refine df cI (fun i=> [13].contains i) (fun k H=> (k=3→cQ H b [.int .i64 ((n:Nat):Int), .int .i64 ((c:Nat):Int),s.val])∧(k=6→Sl H s eW ws)∧(k=7→Sl H s eW ws)∧(k=12→Sl H s eW ws)) (af_ 0 (q:=cD fun H hH=>mv) (k:=af_ 1 (q:=cD fun H hH=>nck) (k:=af_ 2 (q:=cD fun H hH=>fla) (k:=?_))))
 refine cE 3 rfl rfl (a8) rfl (cD fun H hH=>ak) (?_)
 refine af_ 4 (q:=cD fun H hH=>mv) (k:=?_)
 refine cE 5 rfl rfl (a8) rfl (cD fun H hH=>gn rfl rfl m 64 rfl rfl (ag) (aq)) (?_)
 refine cE 6 rfl rfl (a8) rfl (cD fun H hH=>by have hN:=hH.2.1 rfl;exact ixa) (?_)
 refine cE 7 rfl rfl (a8) rfl (cD fun H hH=>by have hN:=hH.2.2.1 rfl;exact lel) (?_)
 refine af_ 8 (q:=cD fun H hH=>mv) (k:=?_)
 refine cE 9 rfl rfl (a8) rfl (cD fun H hH=>kG rfl rfl m 64 rfl rfl (ag)) (?_)
 refine cE 10 rfl rfl (a8) rfl (cD fun H hH=>wR 18446744073709551616 rfl rfl rfl rfl 1 (m % 64) rfl rfl (aa)) (?_)
 refine cE 11 rfl rfl (a8) rfl (cD fun H hH=>iE 18446744073709551616 rfl rfl rfl rfl (ws.getD (m / 64) 0) (1*2 ^ (m % 64)) rfl rfl (aa) (aa)) (?_)
 refine cE 12 rfl rfl (a8) rfl (cD fun H hH=>by have hN:=hH.2.2.2 rfl;exact ixa) (?_)
 refine cN 13 rfl (a8) rfl (fun k hk=> ⟨fun hi=> ab,fun hi=> ab,fun hi=> ab,fun hi=> ab⟩) (dH (i:=m / 64) rfl rfl rfl (aa)) ?_
 rintro _ _ ⟨rfl,rfl⟩
 rw[Nat.one_mul,show ws.set (m / 64) (ws.getD (m / 64) 0 ||| 2 ^ (m % 64))=E3 ws m from rfl]
 refine db (a8) (fun k hk=> ⟨fun hi=> absurd hk (ad),fun hi=> absurd hk (ad),fun hi=> absurd hk (ad),fun hi=> absurd hk (ad)⟩) (go ?_)
 refine gk (k:=rt_ Tryz.results56 (k:=?_))
 exact⟨_,Hm, .inr ⟨aa,hr.2,true,c+1,E3 ws m,rfl,rfl,Nat.le_refl _,HK ws m,KC hw m,fun j=> by rw[HB hm64];congr 1;exact decide_eq_decide.2 (aa)⟩⟩
def oE:Enc Ins:=⟨fun p=> [.int .i64 ((p.1:Nat):Int), .int .u64 ((p.2.1:Nat):Int), .int .u64 ((p.2.2:Nat):Int)],3,true,fun _=> rfl,fun p v h=> by simp at h;rcases h with rfl|rfl|rfl <;> rfl,ag,fun h=> aG,ag⟩
instance {a b c:Nat}:fK oE (.agg [.int .i64 ((a:Nat):Int), .int .u64 ((b:Nat):Int), .int .u64 ((c:Nat):Int)].toArray) (a,b,c):=⟨rfl⟩
instance {p:Ins}:jG oE p (.agg [.int .i64 ((p.1:Nat):Int), .int .u64 ((p.2.1:Nat):Int), .int .u64 ((p.2.2:Nat):Int)].toArray):=⟨rfl⟩
def eVV:Enc VV:=⟨fun p=> [.bool p.1, .int .u64 ((p.2:Nat):Int)],2,true,fun _=> rfl,fun p v h=> by simp at h;rcases h with rfl|rfl <;> rfl,ag,fun h=> aG,ag⟩
instance {a:Bool}{b:Nat}:fK eVV (.agg [.bool a, .int .u64 ((b:Nat):Int)].toArray) (a,b):=⟨rfl⟩
instance {p:VV}:jG eVV p (.agg [.bool p.1, .int .u64 ((p.2:Nat):Int)].toArray):=⟨rfl⟩
def eLf:Enc (Int×ByteArray):=⟨fun p=> [.int .i64 p.1, .string p.2],2,true,fun _=> rfl,fun p v h=> by simp at h;rcases h with rfl|rfl <;> rfl,ag,fun h=> aG,ag⟩
instance {a:Int}{b:ByteArray}:fK eLf (.agg [.int .i64 a, .string b].toArray) (a,b):=⟨rfl⟩
instance {p:Int×ByteArray}:jG eLf p (.agg [.int .i64 p.1, .string p.2].toArray):=⟨rfl⟩
abbrev NrV:=SV×SV×Int
def eNr:Enc NrV:=⟨fun p=> [p.1.val,p.2.1.val, .int .i64 p.2.2],3,true,fun _=> rfl,fun p v h=> by simp at h;rcases h with rfl|rfl|rfl <;> rfl,ag,fun h=> aG,ag⟩
instance {a b:SV}{c:Int}:fK eNr (.agg [a.val,b.val, .int .i64 c].toArray) (a,b,c):=⟨rfl⟩
instance {p:NrV}:jG eNr p (.agg [p.1.val,p.2.1.val, .int .i64 p.2.2].toArray):=⟨rfl⟩
abbrev Pk:=Int×Nat
def rb:Enc Pk:=⟨fun p=> [.int .i64 p.1, .int .u64 ((p.2:Nat):Int)],2,true,fun _=> rfl,fun p v h=> by simp at h;rcases h with rfl|rfl <;> rfl,ag,fun h=> aG,ag⟩
instance {a:Int}{b:Nat}:fK rb (.agg [.int .i64 a, .int .u64 ((b:Nat):Int)].toArray) (a,b):=⟨rfl⟩
instance {p:Pk}:jG rb p (.agg [.int .i64 p.1, .int .u64 ((p.2:Nat):Int)].toArray):=⟨rfl⟩
structure PrA where
 av:SV
 cu:SV
 ne:SV
 dr:SV
 co:SV
 nz:List NrV
def zH (H:cG) (zs:List NrV) (ns:List jT):Prop:=zs.length=ns.length∧∀(i:Nat) (z:NrV) (n:jT),zs[i]? =some z→ns[i]? =some n→Sl H z.1 eI n.cs∧Sl H z.2.1 eI n.offs∧z.2.2=n.slop
theorem zH.less {H H':cG}{zs:List NrV}{ns:List jT}(hs:cJ H' H) (h:zH H zs ns):zH H' zs ns:=⟨h.1,fun i z n hz hn=> by
 obtain⟨h1,h2,h3⟩:=h.2 i z n hz hn
 exact⟨dD hs h1,dD hs h2,h3⟩⟩
theorem zH.get {H:cG}{zs:List NrV}{ns:List jT}(h:zH H zs ns) {i:Nat}(hi:i<ns.length):∃z n,zs[i]? =some z∧ns[i]? =some n∧Sl H z.1 eI n.cs∧Sl H z.2.1 eI n.offs∧z.2.2=n.slop:=by
 have hz:i<zs.length:=by rw[h.1];exact hi
 have h1:zs[i]? =some zs[i]:=Yi hz
 have h2:ns[i]? =some ns[i]:=Yi hi
 exact⟨_,_,h1,h2,h.2 i _ _ h1 h2⟩
class gE (H:cG) (a:PrA) (p:outParam PrG):Prop where
 av:Sl H a.av eI p.avgs
 cu:Sl H a.cu eLf p.curs
 ne:Sl H a.ne eNr a.nz
 nr:zH H a.nz p.nears
 dr:Sl H a.dr eI p.drive
class qA (H:cG) (a:PrA) (p:outParam PrG):Prop where
 co:Sl H a.co eB p.code
section
variable {H:cG}{a:PrA}{p:PrG}
instance gE.tail {A:Hp} [h:gE H a p]:gE (A::H) a p:=⟨@Sl.tail _ _ _ _ _ _ h.av, @Sl.tail _ _ _ _ _ _ h.cu, @Sl.tail _ _ _ _ _ _ h.ne,h.nr.less (cJ.drop cJ.refl), @Sl.tail _ _ _ _ _ _ h.dr⟩
instance qA.tail {A:Hp} [h:qA H a p]:qA (A::H) a p:=⟨@Sl.tail _ _ _ _ _ _ h.co⟩
instance [h:gE H a p]:Sl H a.av eI p.avgs:=h.av
instance [h:gE H a p]:Sl H a.cu eLf p.curs:=h.cu
instance [h:gE H a p]:Sl H a.ne eNr a.nz:=h.ne
instance [h:gE H a p]:Sl H a.dr eI p.drive:=h.dr
instance [h:qA H a p]:Sl H a.co eB p.code:=h.co
theorem gE.less {H':cG}(hs:cJ H' H) (h:gE H a p):gE H' a p:=⟨dD hs h.av,dD hs h.cu,dD hs h.ne,h.nr.less hs,dD hs h.dr⟩
end
abbrev prV (a:PrA) (all:Bool):List Value:= [a.av.val,a.cu.val,a.ne.val, .bool all,a.dr.val,a.co.val]
structure PtA where
 p:Nat
 g:Nat
 d:Nat
 w:Nat
 fv:SV
 dv:SV
 lv:SV
 ev:SV
 bl:SV
 im:SV
 ws:SV
 cnt:Nat
 l:List (Int×SV)
 lvs:List SV
structure PtD where
 fs:List FV
 ds:List Doc
 dw:List Nat
class dq (H:cG) (a:PtA) (q:outParam PtD):Prop where
 p:cQ H a.p [.pointer (some ⟨a.g,0,none⟩), .pointer (some ⟨a.d,0,none⟩)]
 g:cQ H a.g [a.fv.val,a.dv.val,a.lv.val, .pointer (some ⟨a.w,0,none⟩),a.bl.val,a.im.val]
 d:cQ H a.d [.int .i64 ((q.ds.length:Nat):Int), .int .i64 ((a.cnt:Nat):Int),a.ws.val]
 w:cQ H a.w [a.ev.val]
 fv:Sl H a.fv eF q.fs
 dv:Sl H a.dv eD a.l
 docs:ga H a.l q.ds
 lv:Sl H a.lv eSV a.lvs
 lens:a.lvs.length=q.fs.length∧∀i s,a.lvs[i]? =some s→Sl H s eI (cV (dP q.fs q.ds i))
 ev:Sl H a.ev eEn (gb 0 (dm (eE q.fs q.ds)))
 bl:Sl H a.bl eB (dB (dm (eE q.fs q.ds)))
 ws:Sl H a.ws eW q.dw
section
variable {H:cG}{a:PtA}{q:PtD}
theorem jo {H':cG}{b:Nat}{l:List Value}(hs:cJ H' H) (h:cQ H b l):cQ H' b l:=⟨fun L hL=> by
 obtain⟨L',M,h1,h2⟩:=hs L hL
 obtain⟨E,fz,hm⟩:=h.mem L' h1
 exact⟨E,fz,h2.mem_iff.1 (Yy M hm)⟩⟩
theorem dq.less {H':cG}(hs:cJ H' H) (h:dq H a q):dq H' a q:=⟨jo hs h.p,jo hs h.g,jo hs h.d,jo hs h.w,dD hs h.fv,dD hs h.dv,h.docs.less hs,dD hs h.lv,⟨h.lens.1,fun i s hi=> dD hs (h.lens.2 i s hi)⟩,dD hs h.ev,dD hs h.bl,dD hs h.ws⟩
instance dq.tail {A:Hp} [h:dq H a q]:dq (A::H) a q:=h.less (cJ.drop cJ.refl)
instance [h:dq H a q]:cQ H a.p [.pointer (some ⟨a.g,0,none⟩), .pointer (some ⟨a.d,0,none⟩)]:=h.p
instance [h:dq H a q]:cQ H a.g [a.fv.val,a.dv.val,a.lv.val, .pointer (some ⟨a.w,0,none⟩),a.bl.val,a.im.val]:=h.g
instance [h:dq H a q]:cQ H a.d [.int .i64 ((q.ds.length:Nat):Int), .int .i64 ((a.cnt:Nat):Int),a.ws.val]:=h.d
instance [h:dq H a q]:cQ H a.w [a.ev.val]:=h.w
instance [h:dq H a q]:Sl H a.fv eF q.fs:=h.fv
instance [h:dq H a q]:Sl H a.dv eD a.l:=h.dv
instance [h:dq H a q]:Sl H a.lv eSV a.lvs:=h.lv
instance [h:dq H a q]:Sl H a.ev eEn (gb 0 (dm (eE q.fs q.ds))):=h.ev
instance [h:dq H a q]:Sl H a.bl eB (dB (dm (eE q.fs q.ds))):=h.bl
instance [h:dq H a q]:Sl H a.ws eW q.dw:=h.ws
end
def LPh (lp:Option Nat) (im sk:SV) (ps:List Po):Hp:=match lp with
 |none=> fB []
 |some b=> fB [Vr b [im.val, .int .i64 ((ps.length:Nat):Int), .int .i64 ((dg ps:Nat):Int),sk.val],Row im eB (dx ps),Row sk eSk (fj ps)]
section
variable {H:cG}{b:Nat}{im sk:SV}{ps:List Po}
theorem Dq {F:cG}{l:List Value} [h:cQ F b l]:cQ (fB F::H) b l:=⟨fun L hL=> by
 obtain⟨L1,L2,rfl,h1,_⟩:=pM hL
 obtain⟨E,fz,hm⟩:=h.mem L1 h1
 exact⟨E,fz,Yy _ hm⟩⟩
instance:cQ (LPh (some b) im sk ps::H) b [im.val, .int .i64 ((ps.length:Nat):Int), .int .i64 ((dg ps:Nat):Int),sk.val]:=Dq (F:= [Vr b [im.val, .int .i64 ((ps.length:Nat):Int), .int .i64 ((dg ps:Nat):Int),sk.val],Row im eB (dx ps),Row sk eSk (fj ps)])
instance:Sl (LPh (some b) im sk ps::H) im eB (dx ps):=Sl.star (F:= [Vr b [im.val, .int .i64 ((ps.length:Nat):Int), .int .i64 ((dg ps:Nat):Int),sk.val],Row im eB (dx ps),Row sk eSk (fj ps)])
instance:Sl (LPh (some b) im sk ps::H) sk eSk (fj ps):=Sl.star (F:= [Vr b [im.val, .int .i64 ((ps.length:Nat):Int), .int .i64 ((dg ps:Nat):Int),sk.val],Row im eB (dx ps),Row sk eSk (fj ps)])
end
structure CuA where
 lp:Option Nat
 im:SV
 sk:SV
 rd:SV
 zs:List PG
 blk:Int
def uH (ps:List Po) (zs:List PG) (blk:Int):Prop:=blk= -1∨∃k:Nat,blk=(k:Int)∧zs.map pgP=de ps k
def HZ (c:CuS) (x:CuA):Prop:=iK c∧(x.lp=none→c.ps= [])∧uH c.ps x.zs x.blk
def lpV (lp:Option Nat):Value:= .pointer (lp.map fun b=> ⟨b,0,none⟩)
instance {lp:Option Nat}:qB (lpV lp):=⟨rfl⟩
def CuH (b:Nat) (c:CuS):Hp:=fun L=> ∃x:CuA,HZ c x∧Sep [Vr b [.int .i64 (gJ c.ps c.u), .int .i64 ((c.mv:Nat):Int),lpV x.lp, .int .i64 (((c.u:Nat):Int) - 1), .int .i64 x.blk,x.rd.val, .bool c.told],LPh x.lp x.im x.sk c.ps,Row x.rd ePo (x.zs.map pgV),Cl pgH x.zs] L
theorem m6 {b:Nat}{c:CuS}{x:CuA}{R:cG}(h:HZ c x):cJ (Vr b [.int .i64 (gJ c.ps c.u), .int .i64 ((c.mv:Nat):Int),lpV x.lp, .int .i64 (((c.u:Nat):Int) - 1), .int .i64 x.blk,x.rd.val, .bool c.told]::LPh x.lp x.im x.sk c.ps::Row x.rd ePo (x.zs.map pgV)::Cl pgH x.zs::R) (CuH b c::R):=fun L hL=> by
 obtain⟨L1,L2,rfl,h1,h2⟩:=mn (F:= [Vr b [.int .i64 (gJ c.ps c.u), .int .i64 ((c.mv:Nat):Int),lpV x.lp, .int .i64 (((c.u:Nat):Int) - 1), .int .i64 x.blk,x.rd.val, .bool c.told],LPh x.lp x.im x.sk c.ps,Row x.rd ePo (x.zs.map pgV),Cl pgH x.zs]) hL
 exact⟨L1++L2, [],⟨L1,L2,rfl,⟨x,h,h1⟩,h2⟩,an⟩
section
variable {G:cK}{P:Program}{N:Nat}{Q:Go.Sx.Post}{t:Tm}{H:cG}{ops:Array Oper}{l:List Oper}
theorem wm {R:cG}{b:Nat}{c:CuS}(hr:Rem H CuH b c R) {w:World}(hw:Sat G w H):∃x:CuA,HZ c x∧Sat G w (Vr b [.int .i64 (gJ c.ps c.u), .int .i64 ((c.mv:Nat):Int),lpV x.lp, .int .i64 (((c.u:Nat):Int) - 1), .int .i64 x.blk,x.rd.val, .bool c.told]::LPh x.lp x.im x.sk c.ps::Row x.rd ePo (x.zs.map pgV)::Cl pgH x.zs::R):=by
 obtain⟨hS,L,hL,hl⟩:=hr.sat hw
 obtain⟨L1,L2,rfl,⟨x,hx,h1⟩,h2⟩:=hL
 exact⟨x,hx,hS,L1++L2,pR h1 h2,hl⟩
theorem wB {R:cG}(b:Nat) {c:CuS} [hr:Rem H CuH b c R] (h:∀(lp:Option Nat) (im sk rd:SV) (zs:List PG) (blk:Int),iK c→(lp=none→c.ps= [])→uH c.ps zs blk→O G P N ops l Q t (Vr b [.int .i64 (gJ c.ps c.u), .int .i64 ((c.mv:Nat):Int),lpV lp, .int .i64 (((c.u:Nat):Int) - 1), .int .i64 blk,rd.val, .bool c.told]::LPh lp im sk c.ps::Row rd ePo (zs.map pgV)::Cl pgH zs::R)):O G P N ops l Q t H:=
 ⟨fun a w ha hw=> by
   obtain⟨x,⟨h1,h2,h3⟩,h4⟩:=wm hr hw
   exact(h x.lp x.im x.sk x.rd x.zs x.blk h1 h2 h3).go a w ha h4⟩
end
open Go
theorem nJ {G:cK}{P:Program}{t:Tm}{H:cG}{dst:Option Tmp}{f:FuncId}{c:Operand}{fi ca:List Value}{xs:List Operand}{ats:Array TypeId}{ty:TypeId}{pos:String}{after:Array Edge}{g:Option (Nat×Bool)}{vs:List Value}{K:Value→cG→Prop}
 (h0:evo t c=some (.func (.func f) fi.toArray ca.toArray)) (hx:qj t xs=some vs) (hc:SC G P f (fi++vs++ca) H K):St G P ⟨dst, .call ⟨.value c,xs.toArray,ats⟩,ty,pos,after,g⟩ t H K:=by
 intro ρ hρ w hw
 have h1:ρ c= .func (.func f) fi.toArray ca.toArray:=hρ _ _ h0
 have h2:xs.toArray.map ρ=vs.toArray:=bR
 have:(execOp ρ ⟨dst, .call ⟨.value c,xs.toArray,ats⟩,ty,pos,after,g⟩).run P w= .ok (.enter f (fi++vs++ca).toArray) w:=by
  simp only[execOp,resolve,h1,h2,Deferred.ofValue,Sem.run_bind,Sem.run_pure,Result.andThen_ok]
  simp only[invoke,List.append_toArray]
  exact hc.enter _ _
 rw[this]
 exact hc.call w hw
section
variable {G:cK}{P:Program}{N:Nat}{Q:Post}{t:Tm}{H:cG}
def zJ {α:Type}(l:Nat) (I:α→Prop) (fr:α→Tm) (hp:α→cG) (μ:α→Nat) (m:Nat) (Q:Post):Post:=fun e t H=> match e with
 | .goto l'=> l'=l∧∃y,I y∧μ y<m∧Sub (fr y) t∧cJ H (hp y)
 |e=> Q e t H
theorem I5 {l:Nat}(h:Q .normal t H):W G P N (.label l) Q t H:=⟨fun _ _ ha hw=> wp_label ⟨t,H,ha,hw,h⟩⟩
theorem Eh {l:Nat}(h:Q (.goto l) t H):W G P N (.goto l) Q t H:=⟨fun _ _ ha hw=> wp_goto ⟨t,H,ha,hw,h⟩⟩
theorem qg_ {y:Code}{l:Nat}(h:Q (.goto l) t H):E6 G P N y Q (.goto l) t H:=h
section
variable {α:Type}{I:α→Prop}{fr:α→Tm}{hp:α→cG}{μ:α→Nat}{l m:Nat}
theorem jg_ (y:α) (hI:I y) (hm:μ y<m) (hs:Sub (fr y) t) (hh:cJ H (hp y)):zJ l I fr hp μ m Q (.goto l) t H:=⟨rfl,y,hI,hm,hs,hh⟩
theorem jt_ (h:Q .ret t H):zJ l I fr hp μ m Q .ret t H:=h
end
end
section
variable {G:cK}{P:Program}{N:Nat}{Q:Post}{t:Tm}{H:cG}
def CE {α:Type}(l:Nat) (I:α→Prop) (fr:α→Tm) (hp:α→cG) (Q:Post):Post:=fun e t H=> match e with
 | .goto l'=> l'=l∧∃y,I y∧Sub (fr y) t∧cJ H (hp y)
 |e=> Q e t H
section
variable {α:Type}{I:α→Prop}{fr:α→Tm}{hp:α→cG}{l:Nat}
theorem ft_ (h:Q .ret t H):CE l I fr hp Q .ret t H:=h
end
theorem xu {c rest:Code}(l:Nat) (hf:findLabel c l=some (.seq .skip rest)) (α:Type) (I:α→Prop) (fr:α→Tm) (hp:α→cG) (μ:α→Nat)
 (pass:∀x,I x→W G P N rest (zJ l I fr hp μ (μ x) Q) (fr x) (hp x))
 (first:(∀y t H,I y→Sub (fr y) t→cJ H (hp y)→W G P N (.seq (.label l) rest) (CE l I fr hp Q) t H)→W G P N c (CE l I fr hp Q) t H):W G P N (.scope c) Q t H:=by
 have hm:∀(m:Nat) e t H,zJ l I fr hp μ m Q e t H→CE l I fr hp Q e t H:=fun m e t H h=> by
  cases e with
  |goto l'=> obtain⟨h1,y,h2,_,h3,h4⟩:=h;exact⟨h1,y,h2,h3,h4⟩
  |normal=> exact h
  |exit id=> exact h
  |ret=> exact h
  |panic ch=> exact h
  |outgrown=> exact h
 have hmax:∃m0:Nat,True:=⟨0,trivial⟩
 have hfirst:=first fun y t' H' hy hs hh=> xt (I5 (Ed hs (zV hh (zS (pass y hy) (hm _)))))
 refine⟨fun a w ha hw=> ?_⟩
 intro b k cs
 have hg:gotoIn l (.inScope c::k)=some (.code (.seq .skip rest):: .inScope c::k):=by simp[gotoIn,hf]
 have pass2:∀x,I x→W G P N (.seq .skip rest) (zJ l I fr hp μ (μ x) Q) (fr x) (hp x):=fun x hx=> xt (Ee (pass x hx))
 have key:∀n x,μ x=n→I x→∀a w,Fr N (fr x) a→Sat G w (hp x)→
  ∃e a' w',up G N Q e a' w'∧Arrives P (lone (b.at a (.code (.seq .skip rest):: .inScope c::k)) cs w) b k cs e a' w':=by
  intro n
  induction n using Nat.strongRecOn with
  |_ n ih=>
   intro x hn hI a w ha hw
   obtain⟨e,a₁,w₁,hq,harr⟩:=(pass2 x hI).go a w ha hw b (.inScope c::k) cs
   obtain⟨t',H',ha',hw',hq⟩:=hq
   cases e with
   |normal=> exact⟨.normal,a₁,w₁,⟨t',H',ha',hw',hq⟩,Steps.trans harr (.one step_inScope)⟩
   |exit id=> exact⟨.exit id,a₁,w₁,⟨t',H',ha',hw',hq⟩,fun k' hk=> harr k' (by simp[exitTo,hk])⟩
   |goto l'=>
    obtain⟨rfl,y,hy,hlt,hsub,hsat⟩:=hq
    obtain⟨e₂,a₂,w₂,hq₂,harr₂⟩:=ih (μ y) (hn ▸ hlt) y rfl hy a₁ w₁ (ha'.sub hsub) (hsat.sat hw')
    exact⟨e₂,a₂,w₂,hq₂, .of_steps (harr _ hg) harr₂⟩
   |ret=> exact⟨_,a₁,w₁,⟨t',H',ha',hw',hq⟩,harr⟩
   |panic ch=> exact⟨_,a₁,w₁,⟨t',H',ha',hw',hq⟩,harr⟩
   |outgrown=> exact⟨_,a₁,w₁,⟨t',H',ha',hw',hq⟩,harr⟩
 obtain⟨e,a₁,w₁,hq,harr⟩:=hfirst.go a w ha hw b (.inScope c::k) cs
 obtain⟨t',H',ha',hw',hq⟩:=hq
 cases e with
 |normal=> exact⟨.normal,a₁,w₁,⟨t',H',ha',hw',hq⟩, .head step_scope (Steps.trans harr (.one step_inScope))⟩
 |exit id=> exact⟨.exit id,a₁,w₁,⟨t',H',ha',hw',hq⟩,fun k' hk=> .head step_scope (harr k' (by simp[exitTo,hk]))⟩
 |goto l'=>
  obtain⟨rfl,y,hy,hsub,hsat⟩:=hq
  obtain⟨e₂,a₂,w₂,hq₂,harr₂⟩:=key _ y rfl hy a₁ w₁ (ha'.sub hsub) (hsat.sat hw')
  exact⟨e₂,a₂,w₂,hq₂, .of_steps (.head step_scope (harr _ hg)) harr₂⟩
 |ret=> exact⟨_,a₁,w₁,⟨t',H',ha',hw',hq⟩, .of_steps (.one step_scope) harr⟩
 |panic ch=> exact⟨_,a₁,w₁,⟨t',H',ha',hw',hq⟩, .of_steps (.one step_scope) harr⟩
 |outgrown=> exact⟨_,a₁,w₁,⟨t',H',ha',hw',hq⟩, .of_steps (.one step_scope) harr⟩
end
section
variable {G:cK}{P:Program}{t:Tm}{H:cG}{dst:Option Tmp}{ty:TypeId}{pos:String}{after:Array Edge}{g:Option (Nat×Bool)}
theorem gA {T ft off bb k:Nat}{x:Operand}{fs:Array Field}{z v:Value}{l:List Value}(hu:P.underlying T=some (.struct fs)) (hf:(fs[k]?).map (fun f=> (f.offset,f.type))=some (off,ft)) (hx:evo t x=some (.agg l.toArray)) (hv:l[off]? =some v) [hO:One P ft] [hE:Inf P ft 1 bb z]:
 Ev G P ⟨dst, .field T x k,ty,pos,after,g⟩ t H v:=
 fun ρ hρ w _=> by
  cases hk:fs[k]? with
  |none=> rw[hk]at hf;cases hf
  |some f=>
   rw[hk]at hf
   simp only[Option.map_some,Option.some.injEq,Prod.mk.injEq]at hf
   obtain⟨h1,h2⟩:=hf
   subst h1;subst h2
   have h3:(l.toArray)[f.offset]? =some v:=by simpa using hv
   simp only[execOp,hρ _ _ hx,Instr.field,Sem.run_bind,da (T:=T) (d:= .struct fs) (h:=⟨hu⟩),Result.andThen_ok,hk,asAgg,part,Sem.run_pure,fT (T:=f.type),Bool.false_eq_true,↓reduceIte]
   simp[hv]
theorem mkf {f:FuncId}{fi ca:List Operand}{vs ws:List Value}(h1:qj t fi=some vs:=by exact rfl) (h2:qj t ca=some ws:=by exact rfl):
 Ev G P ⟨dst, .makeFunc (.func f) fi.toArray ca.toArray,ty,pos,after,g⟩ t H (.func (.func f) vs.toArray ws.toArray):=
 fun ρ hρ w _=> by
  have e1:fi.toArray.map ρ=vs.toArray:=by rw[List.map_toArray,kF hρ h1]
  have e2:ca.toArray.map ρ=ws.toArray:=by rw[List.map_toArray,kF hρ h2]
  simp only[execOp,Instr.makeFunc,e1,e2,Sem.run_bind,Sem.run_pure,Result.andThen_ok]
end
end Go.Sx
