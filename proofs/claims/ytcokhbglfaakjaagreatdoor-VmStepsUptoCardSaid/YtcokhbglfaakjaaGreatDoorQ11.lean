import Derived.Test.YtcokhbglfaakjaaGreatDoorQ10
import Derived.Laws.StructEq
set_option linter.all false
set_option maxHeartbeats 0
namespace Go.Sx
open Go Go.Proofs
set_option maxRecDepth 100000
theorem Pr {a:Nat}{bl:List (Nat×List Nat)}(hk:a<256) (h:∀q∈bl,q.1<256∧∀x∈q.2,x<256):∀x∈nN a bl,x<256:=λx hx=>by
 rcases Xm.1 hx with hx|hx
 ·exact B0 hk h x hx
 ·exact Jk _ x hx
open Tryz
section
variable {G:dJ}{H R:dD}{b n:Nat}{i:Int}{ws:List Nat}
def eW:Enc Nat:=⟨λn=>[.int .u64 (n:Int)],1,false,λ_=>rfl,λ_ v h=>bI,ae,λ_=>rfl,ae⟩
instance {n:Nat}:gP eW (.int .u64 ((n:Nat):Int)) n:=⟨rfl⟩
instance {n:Nat}:kV eW n (.int .u64 ((n:Nat):Int)):=⟨rfl⟩
structure DsG where
 n:Nat
 c:Nat
 ws:List Nat
def Ds (b:Nat) (p:DsG):Hp:=Ex λs:SV=>[Vr b [.int .i64 ((p.n:Nat):Int),.int .i64 ((p.c:Nat):Int),s.val],Row s eW p.ws]
theorem MC {c:Nat}{s:SV}:dH (Vr b [iN n,iN c,s.val]::Row s eW ws::R) (Ds b ⟨n,c,ws⟩::R):=wx (K:=Ds) (i:=b) (a:=⟨n,c,ws⟩) rfl s
theorem Wt {P:Program}{f:FuncId}{args:List Value}{K:Value→dD→Prop}{p:DsG}(hr:Rem H Ds b p R) (h:∀s:SV,SC G P f args (Vr b [iN p.n,iN p.c,s.val]::Row s eW p.ws::R) K):SC G P f args H K:=
 ⟨(h SV.nil).enter,λw a=>let ⟨s,hs⟩:=pI (K:=Ds) rfl hr a;(h s).call w hs⟩
theorem QM {c a:Value} [dQ H b [iN n,c,a]]:SC G prog 121 [pA b,.int .i64 i] H (λv d=>v=.bool (decide (0≤i)&&decide (i<(n:Int)))∧d=H):=by
 refine sWk func121 ?_;refine gk (k:=dV 7 14 (k:=λh1=>gk (k:=edq)) (q:=go ?_));exact gZ
theorem RZ {G:dJ}{H:dD}{b n c i:Nat}{s:SV}{ws:List Nat} [dQ H b [iN n,iN c,s.val]] [hs:Sl H s eW ws] (hi:i<n) (hn:n≤1048576) (hl:ws.length=(n+63)/64) (hw:okW ws):SC G prog 122 [pA b,iN i] H (λv H'=>v=.bool (l8 ws i)∧H'=H):=by
 have hi64:i/64<ws.length:=a8;have hwi:ws[i/64]? =some (ws.getD (i/64) 0):=by rw[Xj,Yi hi64];all_goals rfl
 have hx:=xC hw (i/64);have hm:i%64<64:=V2 _ (ae);have hd:ws.getD (i/64) 0/2^(i%64)≤ws.getD (i/64) 0:=Nat.div_le_self ..;have hrng:(decide ((0:Int)≤(i:Int))&&decide (((i:Nat):Int)<(n:Int)))=true:=by rw[Ys (a8),Ys (a8)];all_goals rfl
 refine sWk func122 ?_;refine ws_ (wr_ (e_ asn (k:=on_ (qn_ (ws_ (wr_ (e_ mv (k:=e_ mv (k:=?_)))))))));refine d2_ rfl (QM) (k:=?_);rw[hrng];refine e_ mv (k:=dV 14 22 (k:=λh1=>eg_ mv (k:=eg_ nck (k:=eg_ fla (k:=eg_ ldv (k:=eg_ mv (k:=eg_ (fX rfl rfl i 64 rfl rfl (ae) (ai)) (k:=eg_ ixa (k:=eg_ lel (k:=eg_ mv (k:=eg_ (mw rfl rfl i 64 rfl rfl (ae)) (k:=eg_ (hX rfl rfl (ws.getD (i/64) 0) (i%64) rfl rfl (by show _≤64;omega)) (k:=eg_ (qd 18446744073709551616 rfl rfl rfl rfl (ws.getD (i/64) 0/2^(i%64)) 1 rfl rfl (a8) (a8)) (k:=eg_ ieq (k:=e_ pkt (k:=on_ (edq)))))))))))))))) (q:=e_ asn (k:=on_ (qn_ (wt_ (rT (k:=?_)))))));exact⟨_,hsb,congrArg Value.bool (by
  rw[l8,Xv,U2,Xq,←Qm];omega),rfl⟩
theorem HQ (hn:n≤1048576):SC G prog 120 [iN n] H (λv c=>∃b,v=pA b∧c=Ds b ⟨n,0,List.replicate ((n+63)/64) 0⟩::H):=by
 refine sWk func120 ?_;refine ws_ (wr_ (e_ asn (on_ (qn_ (ws_ (wr_ (e_ mv (e_ mv (e_ iad ?_)))))))));refine e_ (fX rfl rfl (n+63) 64 a8 rfl ae ai) ?_;refine s_ (gn eW 0 rfl rfl ((n+63)/64) ((n+63)/64) rfl rfl rfl a8 a8 a8) ?_;rintro _ _ ⟨s7,rfl,h7n,h7c,rfl⟩;refine e_ (bld [(0,_),(2,_)]) (bxx (k:=λa=>?_));refine gR ?_;exact⟨_,MC,a,rfl,rfl⟩
theorem NK (hn:n≤1048576):SC G prog 48 [iN n] H (λv a=>∃b,v=.tuple #[pA b,.nilIface]∧a=Ds b ⟨n,0,List.replicate ((n+63)/64) 0⟩::H):=by
 refine sWk func48 ?_;refine ws_ (wr_ (e_ asn (e_ asn (on_ (qn_ (ws_ (ws_ (wr_ (e_ mv (e_ ilt (e_ mv (ep 3 9 (k:=λh1=>eg_ mv (eg_ igt (e_ pkf (on_ edq)))) (q:=on_ ?_)))))))))))));refine qn_ (wi_ (k:=λh2=>?_) (m:=λh2=>?_))
 ·exact absurd h2 a8
 refine wk_ (qn_ (ws_ (wr_ (e_ mv ?_))));refine c1_ rfl (HQ hn) ?_;rintro _ _ ⟨b,rfl,rfl⟩;refine e_ asn (e_ asn (on_ (qn_ (wt_ (rT (k:=?_))))));exact⟨_,hsb,b,rfl,rfl⟩
theorem Zr {c:Nat} [hg:Glb G R] [hr:Rem H Ds b ⟨n,c,ws⟩ R] (hn:n≤1048576) (hc:c≤1000000000) (hl:ws.length=(n+63)/64) (d:okW ws):SC G prog 49 [pA b,.int .i64 i] H (λv g=>((i<0∨(n:Int)≤i)∧v=.tuple #[.bool false,G.err 1]∧g=R)∨(0≤i∧i<(n:Int)∧∃(x:Bool) (c':Nat) (ws':List Nat),v=.tuple #[.bool x,.nilIface]∧g=Ds b ⟨n,c',ws'⟩::R∧c'≤c+1∧ws'.length=ws.length∧okW ws'∧∀j:Nat,l8 ws' j=(decide (((j:Nat):Int)=i) ||l8 ws j))):=by
 refine SC.rem (h:=hr) ?_;refine Wt (b:=b) (p:=⟨n,c,ws⟩) (R:=R) inferInstance λs=>?_;dsimp only;refine sWk func49 ?_;refine go ?_;refine d2_ rfl QM (gW (λh1=>?_) (λh1=>?_))
 ·have hr:i<0∨(n:Int)≤i:=by have h9:=h1;omega
  refine go ?_;refine dX dN (gR ?_);exact⟨_,hsb,.inl ⟨hr,rfl,rfl⟩⟩
 have hr:0≤i∧i<(n:Int):=ao;obtain⟨m,rfl⟩:=Int.eq_ofNat_of_zero_le hr.1;have e:m<n:=a8;have a:m/64<ws.length:=a8;have hwi:ws[m/64]? =some (ws.getD (m/64) 0):=by rw[Xj,Yi a];all_goals rfl
 have hx:=xC d (m/64);have hp2:=QV (k:=m%64) (V2 _ ae);refine go ?_;refine d2_ rfl (RZ e hn hl d) (gW (λh2=>?_) (λh2=>?_))
 ·have f:l8 ws m=true:=h2;refine gR ?_;exact⟨_,MC,.inr ⟨a8,hr.2,false,c,ws,rfl,rfl,a8,rfl,d,λj=>by by_cases hj:((j:Nat):Int)=(m:Int) <;> simp[hj] <;> (obtain rfl:j=m:=by omega) <;> exact f⟩⟩
 refine go ?_;refine wD [13] (λk H=>(k=3→dQ H b [iN n,iN c,s.val])∧(k=6→Sl H s eW ws)∧(k=7→Sl H s eW ws)∧(k=12→Sl H s eW ws)) (aF 0 (k:=aF 1 (k:=aF 2 (k:=?_))));refine aN 3 rfl (λH hH=>ah) ?_;refine aF 4 (k:=?_);refine aN 5 rfl (λH hH=>fX rfl rfl m 64 rfl rfl ae ai) ?_;refine aN 6 rfl (λH hH=>bZ) ?_;refine aN 7 rfl (λH hH=>by have hN:=hH.2.2.1 rfl;exact lel) ?_;refine aF 8 (k:=?_);refine aN 9 rfl (λH hH=>mw rfl rfl m 64 rfl rfl ae) ?_;refine aN 10 rfl (λH hH=>Bc 18446744073709551616 rfl rfl rfl rfl 1 (m%64) rfl rfl a8) ?_;refine aN 11 rfl (λH hH=>ku 18446744073709551616 rfl rfl rfl rfl (ws.getD (m/64) 0) (1*2^(m%64)) rfl rfl a8 a8) (go ?_);refine aS 13 rfl (et (i:=m/64) rfl rfl rfl a8) ?_;rintro _ _ ⟨rfl,rfl⟩;rw[Nat.one_mul,show ws.set (m/64) (ws.getD (m/64) 0 ||| 2^(m%64))=J4 ws m from rfl];refine aZ (go ?_);refine gR ?_;exact⟨_,MC,.inr ⟨a8,hr.2,true,c+1,J4 ws m,rfl,rfl,Xl _,MZ ws m,Qo d m,λj=>by rw[MQ a];congr 1;exact Vm.2 a8⟩⟩
end
section
variable {H' R:dD}{c:CuS}{ns:List lI}
def l7:Enc Ins:=⟨λp=>[.int .i64 ((p.1:Nat):Int),.int .u64 ((p.2.1:Nat):Int),.int .u64 ((p.2.2:Nat):Int)],3,true,λ_=>rfl,λp v h=>by simp at h;rcases h with rfl|rfl|rfl <;> rfl,ae,λh=>aK,ae⟩
instance {a b c:Nat}:gP l7 (.agg [.int .i64 ((a:Nat):Int),.int .u64 ((b:Nat):Int),.int .u64 ((c:Nat):Int)].toArray) (a,b,c):=⟨rfl⟩
instance {p:Ins}:kV l7 p (.agg [.int .i64 ((p.1:Nat):Int),.int .u64 ((p.2.1:Nat):Int),.int .u64 ((p.2.2:Nat):Int)].toArray):=⟨rfl⟩
def eVV:Enc VV:=⟨λp=>[.bool p.1,.int .u64 ((p.2:Nat):Int)],2,true,λ_=>rfl,λp v h=>by simp at h;rcases h with rfl|rfl <;> rfl,ae,λh=>aK,ae⟩
instance {a:Bool}{b:Nat}:gP eVV (.agg [.bool a,.int .u64 ((b:Nat):Int)].toArray) (a,b):=⟨rfl⟩
instance {p:VV}:kV eVV p (.agg [.bool p.1,.int .u64 ((p.2:Nat):Int)].toArray):=⟨rfl⟩
def eLf:Enc (Int×ByteArray):=⟨λp=>[.int .i64 p.1,.string p.2],2,true,λ_=>rfl,λp v h=>by simp at h;rcases h with rfl|rfl <;> rfl,ae,λh=>aK,ae⟩
instance {a:Int}{b:ByteArray}:gP eLf (.agg [.int .i64 a,.string b].toArray) (a,b):=⟨rfl⟩
instance {p:Int×ByteArray}:kV eLf p (.agg [.int .i64 p.1,.string p.2].toArray):=⟨rfl⟩
abbrev NrV:=SV×SV×Int
def eNr:Enc NrV:=⟨λp=>[p.1.val,p.2.1.val,.int .i64 p.2.2],3,true,λ_=>rfl,λp v h=>by simp at h;rcases h with rfl|rfl|rfl <;> rfl,ae,λh=>aK,ae⟩
instance {a b:SV}{c:Int}:gP eNr (.agg [a.val,b.val,.int .i64 c].toArray) (a,b,c):=⟨rfl⟩
instance {p:NrV}:kV eNr p (.agg [p.1.val,p.2.1.val,.int .i64 p.2.2].toArray):=⟨rfl⟩
abbrev YU:=Int×Nat
def ll:Enc YU:=⟨λp=>[.int .i64 p.1,.int .u64 ((p.2:Nat):Int)],2,true,λ_=>rfl,λp v h=>by simp at h;rcases h with rfl|rfl <;> rfl,ae,λh=>aK,ae⟩
instance {a:Int}{b:Nat}:gP ll (.agg [.int .i64 a,.int .u64 ((b:Nat):Int)].toArray) (a,b):=⟨rfl⟩
instance {p:YU}:kV ll p (.agg [.int .i64 p.1,.int .u64 ((p.2:Nat):Int)].toArray):=⟨rfl⟩
structure PrA where
 av:SV
 cu:SV
 ne:SV
 dr:SV
 co:SV
 nz:List NrV
def DY (H:dD) (zs:List NrV) (ns:List lI):Prop:=zs.length=ns.length∧∀(i:Nat) (z:NrV) (n:lI),zs[i]? =some z→ns[i]? =some n→Sl H z.1 eI n.cs∧Sl H z.2.1 eI n.offs∧z.2.2=n.slop
theorem DY.less {H:dD}{zs:List NrV}(hs:dH H' H) (h:DY H zs ns):DY H' zs ns:=⟨h.1,λi z n a hn=>by
 obtain⟨h1,h2,h3⟩:=h.2 i z n a hn;exact⟨ee hs h1,ee hs h2,h3⟩⟩
theorem DY.get {H:dD}{zs:List NrV}(h:DY H zs ns){i:Nat}(hi:i<ns.length):∃z n,zs[i]? =some z∧ns[i]? =some n∧Sl H z.1 eI n.cs∧Sl H z.2.1 eI n.offs∧z.2.2=n.slop:=by
 have a:i<zs.length:=by rw[h.1];exact hi
 have h1:zs[i]? =some zs[i]:=Yi a;have h2:ns[i]? =some ns[i]:=Yi hi;exact⟨_,_,h1,h2,h.2 i _ _ h1 h2⟩
class il (H:dD) (a:PrA) (p:outParam PrG):Prop where
 av:Sl H a.av eI p.avgs
 cu:Sl H a.cu eLf p.curs
 ne:Sl H a.ne eNr a.nz
 nr:DY H a.nz p.nears
 dr:Sl H a.dr eI p.drive
class pk (H:dD) (a:PrA) (p:outParam PrG):Prop where
 co:Sl H a.co eB p.code
section
variable {H:dD}{a:PrA}{p:PrG}
instance il.tail {A:Hp} [h:il H a p]:il (A::H) a p:=⟨@Sl.tail _ _ _ _ _ _ h.av, @Sl.tail _ _ _ _ _ _ h.cu, @Sl.tail _ _ _ _ _ _ h.ne,h.nr.less (dH.drop dH.refl), @Sl.tail _ _ _ _ _ _ h.dr⟩
instance pk.tail {A:Hp} [h:pk H a p]:pk (A::H) a p:=⟨@Sl.tail _ _ _ _ _ _ h.co⟩
instance [h:il H a p]:Sl H a.av eI p.avgs:=h.av
instance [h:il H a p]:Sl H a.cu eLf p.curs:=h.cu
instance [h:il H a p]:Sl H a.ne eNr a.nz:=h.ne
instance [h:il H a p]:Sl H a.dr eI p.drive:=h.dr
instance [h:pk H a p]:Sl H a.co eB p.code:=h.co
theorem il.less (hs:dH H' H) (h:il H a p):il H' a p:=⟨ee hs h.av,ee hs h.cu,ee hs h.ne,h.nr.less hs,ee hs h.dr⟩
end
abbrev prV (a:PrA) (all:Bool):List Value:= [a.av.val,a.cu.val,a.ne.val,.bool all,a.dr.val,a.co.val]
structure PtA where
 p:Nat
 g:Nat
 d:Nat
 w:Nat
 fv:SV
 dv:SV
 lv:SV
 ev:SV
 bl:SV
 im:SV
 ws:SV
 cnt:Nat
 l:List (Int×SV)
 lvs:List SV
structure PtD where
 fs:List FV
 ds:List Doc
 dw:List Nat
class eN (H:dD) (a:PtA) (q:outParam PtD):Prop where
 p:dQ H a.p [.pointer (some ⟨a.g,0,none⟩),.pointer (some ⟨a.d,0,none⟩)]
 g:dQ H a.g [a.fv.val,a.dv.val,a.lv.val,.pointer (some ⟨a.w,0,none⟩),a.bl.val,a.im.val]
 d:dQ H a.d [.int .i64 ((q.ds.length:Nat):Int),.int .i64 ((a.cnt:Nat):Int),a.ws.val]
 w:dQ H a.w [a.ev.val]
 fv:Sl H a.fv eF q.fs
 dv:Sl H a.dv eD a.l
 docs:gK H a.l q.ds
 lv:Sl H a.lv eSV a.lvs
 lens:a.lvs.length=q.fs.length∧∀i s,a.lvs[i]? =some s→Sl H s eI (dT (eL q.fs q.ds i))
 ev:Sl H a.ev eEn (j8 0 (eE (fU q.fs q.ds)))
 bl:Sl H a.bl eB (eV (eE (fU q.fs q.ds)))
 ws:Sl H a.ws eW q.dw
section
variable {H:dD}{a:PtA}{q:PtD}
theorem lM {b:Nat}{l:List Value}(hs:dH H' H) (h:dQ H b l):dQ H' b l:=⟨λL hL=>by
 obtain⟨a,M,h1,h2⟩:=hs L hL;obtain⟨E,fz,hm⟩:=h.mem a h1;exact⟨E,fz,h2.mem_iff.1 (Yy M hm)⟩⟩
theorem eN.less (hs:dH H' H) (h:eN H a q):eN H' a q:=⟨lM hs h.p,lM hs h.g,lM hs h.d,lM hs h.w,ee hs h.fv,ee hs h.dv,h.docs.less hs,ee hs h.lv,⟨h.lens.1,λi s hi=>ee hs (h.lens.2 i s hi)⟩,ee hs h.ev,ee hs h.bl,ee hs h.ws⟩
instance eN.tail {A:Hp} [h:eN H a q]:eN (A::H) a q:=h.less (dH.drop dH.refl)
instance [h:eN H a q]:dQ H a.p [.pointer (some ⟨a.g,0,none⟩),.pointer (some ⟨a.d,0,none⟩)]:=h.p
instance [h:eN H a q]:dQ H a.g [a.fv.val,a.dv.val,a.lv.val,.pointer (some ⟨a.w,0,none⟩),a.bl.val,a.im.val]:=h.g
instance [h:eN H a q]:dQ H a.d [.int .i64 ((q.ds.length:Nat):Int),.int .i64 ((a.cnt:Nat):Int),a.ws.val]:=h.d
instance [h:eN H a q]:dQ H a.w [a.ev.val]:=h.w
instance [h:eN H a q]:Sl H a.fv eF q.fs:=h.fv
instance [h:eN H a q]:Sl H a.dv eD a.l:=h.dv
instance [h:eN H a q]:Sl H a.lv eSV a.lvs:=h.lv
instance [h:eN H a q]:Sl H a.ev eEn (j8 0 (eE (fU q.fs q.ds))):=h.ev
instance [h:eN H a q]:Sl H a.bl eB (eV (eE (fU q.fs q.ds))):=h.bl
instance [h:eN H a q]:Sl H a.ws eW q.dw:=h.ws
end
def LPh (lp:Option Nat) (im sk:SV) (ps:List Po):Hp:=match lp with
 |none=>eU []
 |some b=>eU [Vr b [im.val,.int .i64 ((ps.length:Nat):Int),.int .i64 ((ec ps:Nat):Int),sk.val],Row im eB (eO ps),Row sk eSk (ic ps)]
section
variable {H:dD}{b:Nat}{im sk:SV}{ps:List Po}
theorem Ix {F:dD}{l:List Value} [h:dQ F b l]:dQ (eU F::H) b l:=⟨λL hL=>by
 obtain⟨L1,L2,rfl,h1,_⟩:=tA hL;obtain⟨E,fz,hm⟩:=h.mem L1 h1;exact⟨E,fz,Yy _ hm⟩⟩
instance:dQ (LPh (some b) im sk ps::H) b [im.val,.int .i64 ((ps.length:Nat):Int),.int .i64 ((ec ps:Nat):Int),sk.val]:=Ix (F:= [Vr b [im.val,.int .i64 ((ps.length:Nat):Int),.int .i64 ((ec ps:Nat):Int),sk.val],Row im eB (eO ps),Row sk eSk (ic ps)])
instance:Sl (LPh (some b) im sk ps::H) im eB (eO ps):=Sl.star (F:= [Vr b [im.val,.int .i64 ((ps.length:Nat):Int),.int .i64 ((ec ps:Nat):Int),sk.val],Row im eB (eO ps),Row sk eSk (ic ps)])
instance:Sl (LPh (some b) im sk ps::H) sk eSk (ic ps):=Sl.star (F:= [Vr b [im.val,.int .i64 ((ps.length:Nat):Int),.int .i64 ((ec ps:Nat):Int),sk.val],Row im eB (eO ps),Row sk eSk (ic ps)])
end
structure CuA where
 lp:Option Nat
 im:SV
 sk:SV
 rd:SV
 zs:List PG
 blk:Int
def yI (ps:List Po) (zs:List PG) (blk:Int):Prop:=blk= -1∨∃k:Nat,blk=(k:Int)∧zs.map pgP=ei ps k
def Nh (c:CuS) (x:CuA):Prop:=jU c∧(x.lp=none→c.ps= [])∧yI c.ps x.zs x.blk
def lpV (lp:Option Nat):Value:=.pointer (lp.map λb=>⟨b,0,none⟩)
instance {lp:Option Nat}:uF (lpV lp):=⟨rfl⟩
def CuH (b:Nat) (c:CuS):Hp:=λL=>∃x:CuA,Nh c x∧Sep [Vr b [.int .i64 (gz c.ps c.u),.int .i64 ((c.mv:Nat):Int),lpV x.lp,.int .i64 (((c.u:Nat):Int)-1),.int .i64 x.blk,x.rd.val,.bool c.told],LPh x.lp x.im x.sk c.ps,Row x.rd ePo (x.zs.map pgV),Cl pgH x.zs] L
theorem oZ {b:Nat}{x:CuA}(h:Nh c x):dH (Vr b [.int .i64 (gz c.ps c.u),iN c.mv,lpV x.lp,.int .i64 (((c.u:Nat):Int)-1),.int .i64 x.blk,x.rd.val,.bool c.told]::LPh x.lp x.im x.sk c.ps::Row x.rd ePo (x.zs.map pgV)::Cl pgH x.zs::R) (CuH b c::R):=λL hL=>by
 obtain⟨L1,L2,rfl,h1,h2⟩:=pH (F:= [Vr b [.int .i64 (gz c.ps c.u),iN c.mv,lpV x.lp,.int .i64 (((c.u:Nat):Int)-1),.int .i64 x.blk,x.rd.val,.bool c.told],LPh x.lp x.im x.sk c.ps,Row x.rd ePo (x.zs.map pgV),Cl pgH x.zs]) hL;exact⟨L1++L2, [],⟨L1,L2,rfl,⟨x,h,h1⟩,h2⟩,aq⟩
section
variable {G:dJ}{P:Program}{N:Nat}{Q:Go.Sx.Post}{t:Tm}{H:dD}{ops:Array Oper}{l:List Oper}
theorem AE {b:Nat}(hr:Rem H CuH b c R){w:World}(a:Sat G w H):∃x:CuA,Nh c x∧Sat G w (Vr b [.int .i64 (gz c.ps c.u),iN c.mv,lpV x.lp,.int .i64 (((c.u:Nat):Int)-1),.int .i64 x.blk,x.rd.val,.bool c.told]::LPh x.lp x.im x.sk c.ps::Row x.rd ePo (x.zs.map pgV)::Cl pgH x.zs::R):=by
 obtain⟨d,L,hL,hl⟩:=hr.sat a;obtain⟨L1,L2,rfl,⟨x,hx,h1⟩,h2⟩:=hL;exact⟨x,hx,d,L1++L2,tI h1 h2,hl⟩
theorem AO (b:Nat) [hr:Rem H CuH b c R] (h:∀(lp:Option Nat) (im sk rd:SV) (zs:List PG) (blk:Int),jU c→(lp=none→c.ps= [])→yI c.ps zs blk→O G P N ops l Q t (Vr b [.int .i64 (gz c.ps c.u),iN c.mv,lpV lp,.int .i64 (((c.u:Nat):Int)-1),.int .i64 blk,rd.val,.bool c.told]::LPh lp im sk c.ps::Row rd ePo (zs.map pgV)::Cl pgH zs::R)):O G P N ops l Q t H:=
 ⟨λa w ha d=>by
   obtain⟨x,⟨h1,h2,h3⟩,h4⟩:=AE hr d;exact(h x.lp x.im x.sk x.rd x.zs x.blk h1 h2 h3).go a w ha h4⟩
end
end
section
variable {A B h n op:Nat}{G:dJ}{H:dD}{a:PrA}{all:Bool}{p:PrG}{x:Int}
theorem BY {n:Int}:SC G prog 180 [.int .i64 x,.int .i64 n] H (λv a=>v=.bool (decide (0≤x)&&decide (x<n))∧a=H):=by
 refine sWk func180 ?_;refine gk (k:=dV 4 11 (k:=λh1=>gk (k:=edq)) (q:=go ?_));exact gZ
theorem MB (h1:1≤op) (h2:op≤5):jw (op,A,B) h=some (h+1):=by
 match op,h1,h2 with
 | 1,_,_=>rfl
 | 2,_,_=>rfl
 | 3,_,_=>rfl
 | 4,_,_=>rfl
 | 5,_,_=>rfl
theorem Fv (h1:6≤op) (h2:op≤10):jw (op,A,B) h=if 2≤h then some (h-1)else none:=by
 match op,h1,h2 with
 | 6,_,_=>rfl
 | 7,_,_=>rfl
 | 8,_,_=>rfl
 | 9,_,_=>rfl
 | 10,_,_=>rfl
theorem UH (h1:¬op=0) (h2:¬(1≤op∧op≤10)) (h3:¬op=14):jw (op,A,B) h=if 1≤h then some h else none:=by
 match op,h1,h2,h3 with
 | 0,h1,_,_=>exact absurd rfl h1
 | 1,_,h2,_=>exact absurd ae h2
 | 2,_,h2,_=>exact absurd ae h2
 | 3,_,h2,_=>exact absurd ae h2
 | 4,_,h2,_=>exact absurd ae h2
 | 5,_,h2,_=>exact absurd ae h2
 | 6,_,h2,_=>exact absurd ae h2
 | 7,_,h2,_=>exact absurd ae h2
 | 8,_,h2,_=>exact absurd ae h2
 | 9,_,h2,_=>exact absurd ae h2
 | 10,_,h2,_=>exact absurd ae h2
 | 11,_,_,_=>rfl
 | 12,_,_,_=>rfl
 | 13,_,_,_=>rfl
 | 14,_,_,h3=>exact absurd rfl h3
 |n+15,_,_,_=>rfl
def Qw (x:Ins) (h:Nat) (v:Value):Prop:=(∃h':Nat,jw x h=some h'∧v=.tuple #[.int .i64 ((h':Nat):Int),.bool true])∨(jw x h=none∧∃k:Int,v=.tuple #[.int .i64 k,.bool false])
theorem vw {x:Ins}{r:Nat}{b:Bool}{k:Int}{p:Prop} [Decidable p] (h1:jw x h=if p then some r else none) (h2:b=decide p) (h3:p→k=(r:Int)):Qw x h (.tuple #[.int .i64 k,.bool b]):=by
 by_cases hp:p
 ·left;exact⟨r,by rw[h1,if_pos hp],by rw[h2,h3 hp,Ys hp]⟩
 ·right;exact⟨by rw[h1,if_neg hp],k,by rw[h2,Yr hp]⟩
theorem NR (hh:h≤1000000000) (hA:A<18446744073709551616):SC G prog 128 [.agg #[iN op,uN A,uN B],iN h] H (λv g=>Qw (op,A,B) h v∧g=H):=by
 refine sWk func128 ?_;refine gk (k:=bxx (k:=λb2=>?_));refine e_ asn (e_ asn (on_ (qn_ (ws_ (ws_ (wr_ (e_ fla (e_ ldv (on_ (qn_ (wb_ (ld [(8,.bool (decide (1≤op∧op≤5)))] [8,9,10,11,12,13] ?_ ?_))))))))))))
 ·refine gW (λh1=>?_) λh1=>?_
  ·refine gk (k:=jne (hs:=.cons (by first|exact rfl|exact jb (by refine bq ?_;simp;omega)) (.nil)))
  refine gW (λh2=>?_) λh2=>?_
  ·refine gk (k:=jne (hs:=.cons (by first|exact rfl|exact jb (by refine bq ?_;simp;omega)) (.nil)))
  refine gW (λh3=>?_) λh3=>?_
  ·refine gk (k:=jne (hs:=.cons (by first|exact rfl|exact jb (by refine bq ?_;simp;omega)) (.nil)))
  refine gW (λh4=>?_) λh4=>?_
  ·refine gk (k:=jne (hs:=.cons (by first|exact rfl|exact jb (by refine bq ?_;simp;omega)) (.nil)))
  refine gk (k:=jne (hs:=.cons (by first|exact rfl|exact jb (by refine bq ?_;simp;omega)) (.nil)))
 refine wi_ (k:=λh5=>?_) (m:=λh5=>?_)
 ·have e:1≤op∧op≤5:=h5;refine gR ?_;exact⟨_,hsb,.inl ⟨h+1,MB e.1 e.2,rfl⟩,rfl⟩
 have e:¬(1≤op∧op≤5):=h5;refine ld [(16,.bool (decide (6≤op∧op≤10)))] [16,17,18,19,20,21] ?_ ?_
 ·refine gW (λh6=>?_) λh6=>?_
  ·refine gk (k:=jne (hs:=.cons (by first|exact rfl|exact jb (by refine bq ?_;simp;omega)) (.nil)))
  refine gW (λf=>?_) λf=>?_
  ·refine gk (k:=jne (hs:=.cons (by first|exact rfl|exact jb (by refine bq ?_;simp;omega)) (.nil)))
  refine gW (λh8=>?_) λh8=>?_
  ·refine gk (k:=jne (hs:=.cons (by first|exact rfl|exact jb (by refine bq ?_;simp;omega)) (.nil)))
  refine gW (λh9=>?_) λh9=>?_
  ·refine gk (k:=jne (hs:=.cons (by first|exact rfl|exact jb (by refine bq ?_;simp;omega)) (.nil)))
  refine gk (k:=jne (hs:=.cons (by first|exact rfl|exact jb (by refine bq ?_;simp;omega)) (.nil)))
 refine wi_ (k:=λh10=>?_) (m:=λh10=>?_)
 ·have c:6≤op∧op≤10:=h10;refine gR ?_;exact⟨_,hsb,vw (Fv c.1 c.2) (Vm.2 a8) (λ_=>a8),rfl⟩
 have c:¬(6≤op∧op≤10):=h10;refine gW (λh11=>?_) λh11=>?_
 ·have b:op=14:=by have h9:=h11;omega
  subst b;refine ws_ (ws_ (wr_ (e_ mv ?_)));refine e_ (dW 18446744073709551616 rfl rfl rfl h rfl a8) ?_;refine gW (λh12=>?_) λh12=>?_
  ·refine gR ?_;exact⟨_,hsb,.inr ⟨by show(if h<A then none else some (h-A+1))=none;rw[if_pos a8],0,rfl⟩,rfl⟩
  refine wk_ (qn_ (ws_ (wr_ (e_ mv (e_ fla (e_ ldv ?_))))));refine e_ (ew rfl a8) ?_;refine gR ?_;exact⟨_,hsb,.inl ⟨h-A+1,by show(if h<A then none else some (h-A+1))=_;rw[if_neg a8],congrArg (λk:Int=>Value.tuple #[.int .i64 k,.bool true]) a8⟩,rfl⟩
 have b:¬op=14:=bE;refine gW (λd=>?_) λd=>?_
 ·have a:op=0:=by have h9:=d;omega
  subst a;refine gR ?_;exact⟨_,hsb,vw (p:=h=1) rfl (Vm.2 a8) (λ_=>rfl),rfl⟩
 have a:¬op=0:=by have h9:=d;omega
 refine gR ?_;exact⟨_,hsb,vw (UH a a8 b) (Vm.2 a8) (λ_=>rfl),rfl⟩
theorem KU (h1:¬op=3) (h2:¬op=4) (h3:¬op=5) (h4:¬op=14):ng p (op,A,B)=true:=by
 unfold ng
 split
 ·rename_i h;exact absurd h h1
 ·rename_i h;exact absurd h h2
 ·rename_i h;exact absurd h h3
 ·rename_i h;exact absurd h h4
 ·rfl
theorem HP [hp:il H a p] (hA:A<18446744073709551616) (hB:B<18446744073709551616) (hl:p.avgs.length≤1000000000∧p.curs.length≤1000000000∧p.nears.length≤1000000000):SC G prog 129 [.agg (prV a all).toArray,.agg #[iN op,uN A,uN B]] H (λv g=>v=.bool (ng p (op,A,B))∧g=H):=by
 obtain⟨hl1,hl2,hl3⟩:=hl;have hnl:=hp.nr.1;refine sWk func129 ?_;refine gk (k:=bxx (k:=λb2=>?_));refine bxx (k:=λb3=>?_);refine go ?_;refine gW (λh1=>?_) λh1=>?_
 ·have b:op=3:=by have h9:=h1;omega
  subst b;refine ws_ (wr_ (e_ fla (e_ ldv (e_ fla (e_ ldv (e_ lnn ?_))))));refine e_ (dW 18446744073709551616 rfl rfl rfl p.avgs.length rfl a8) ?_;refine gR ?_;exact⟨_,hsb,congrArg Value.bool (Vm.2 (show _↔A<p.avgs.length from a8)),rfl⟩
 have f:¬op=3:=ao;refine gW (λh2=>?_) λh2=>?_
 ·have b:op=4:=by have h9:=h2;omega
  subst b;refine ws_ (wr_ (e_ fla (e_ ldv (e_ fla (e_ ldv (e_ lnn ?_))))));refine e_ (dW 18446744073709551616 rfl rfl rfl p.curs.length rfl a8) ?_;refine gR ?_;exact⟨_,hsb,congrArg Value.bool (Vm.2 (show _↔A<p.curs.length from a8)),rfl⟩
 have e:¬op=4:=aw;refine gW (λh3=>?_) λh3=>?_
 ·have b:op=5:=by have h9:=h3;omega
  subst b;refine ws_ (wr_ (e_ fla (e_ ldv (e_ fla (e_ ldv (e_ lnn ?_))))));refine e_ (dW 18446744073709551616 rfl rfl rfl a.nz.length rfl a8) ?_;refine gR ?_;exact⟨_,hsb,congrArg Value.bool (Vm.2 (show _↔A<p.nears.length from a8)),rfl⟩
 have d:¬op=5:=aD;refine gW (λh4=>?_) λh4=>?_
 ·have b:op=14:=by have h9:=h4;omega
  subst b;refine gk (k:=dV 4 43 (k:=λh5=>gk (k:=edq)) (q:=gk (k:=dV 6 50 (k:=λh6=>gk (k:=edq)) (q:=go ?_))));refine gR ?_;exact⟨_,hsb,congrArg Value.bool (bq dp),rfl⟩
 have c:¬op=14:=aJ;refine gR ?_;exact⟨_,hsb,by rw[KU f e d c];all_goals rfl,rfl⟩
theorem kE (h:0≤x∧x<(n:Int)):fw x n=true:=by simp[fw,h.1,h.2]
theorem jQ (h:¬(0≤x∧x<(n:Int))):fw x n=false:=by
 unfold fw
 by_cases h1:0≤x
 ·rw[Yr (λh2:x<(n:Int)=>h ⟨h1,h2⟩),Bool.and_false]
 ·rw[Yr h1,Vk]
def sG (p:PrG) (k:Int):Int:=match p.curs[k.toNat]? with
 |some x=>x.1
 |none=>0
theorem xL {n:lI}{k o:Int}{r os:List Int}:sF p n (k::r) (o::os)=(fw k p.curs.length&&fw o 2147483647&&decide (sG p k=sG p (n.cs.headD 0))&&sF p n r os):=rfl
theorem W5 {cs os:SV}{n:lI} [hp:il H a p] [hc:Sl H cs eI n.cs] [ho:Sl H os eI n.offs] (hnl:n.cs.length≤1000000000):SC G prog 181 [.agg (prV a all).toArray,.agg #[cs.val,os.val,.int .i64 n.slop]] H (λv A=>v=.bool (fQ p n)∧A=H):=by
 refine sWk func181 ?_;refine gk (k:=bxx (k:=λb2=>?_));refine bxx (k:=λb3=>?_);refine gk (k:=ep 8 19 (k:=λh1=>gk (k:=edq)) (q:=gk (k:=ep 5 25 (k:=λh2=>gk (k:=iU (vs:=[_,_]) (hc:=(BY)) (k:=eg_ mN (e_ pkf (on_ edq))))) (q:=?_))));refine gW (λh3=>?_) λh3=>?_
 ·have hno:fQ p n=false:=by
   have h9:=h3;unfold fQ
   by_cases c1:1≤n.cs.length
   ·by_cases c2:n.offs.length=n.cs.length
    ·rw[jQ a8];simp
    ·rw[Yr c2];simp
   ·rw[Yr c1];simp
  refine gR ?_;exact⟨_,hsb,cW,rfl⟩
 have hg1:1≤n.cs.length∧n.offs.length=n.cs.length∧0≤n.slop∧n.slop<2147483647:=aD;obtain⟨hg1,hg2,hg3⟩:=hg1;have r:fQ p n=sF p n n.cs n.offs:=db;obtain⟨c,d⟩:=gE n.cs 0;have t:n.cs.headD 0=c:=by rw[Q3,List.head?_eq_getElem?,d];all_goals rfl
 refine gk (k:=e8 Nat (λy=>y≤n.cs.length∧fQ p n=sF p n (n.cs.drop y) (n.offs.drop y)∧(0<y→0≤c∧c<(p.curs.length:Int))) (λy=>[(29,iN y)]) [(2,_),(3,_),(27,_),(28,_)] (λy=>[]) _ (λy=>n.cs.length-y) (0) (h0:=?_) (k:=?_))
 ·try dsimp only
  exact⟨Yl _,by rw[r];all_goals rfl,a8⟩
 rintro i ⟨hi,b,h⟩
 try dsimp only[Yd,Ye]at*
 refine gW (λh4=>?_) λh4=>?_
 ·obtain⟨k,hk⟩:=gE n.cs i;obtain⟨o,g⟩:=gE n.offs i;rw[eh hk,eh g,xL,t]at b;refine wk_ (qn_ (ws_ (wb_ (ws_ (wr_ (e_ mv (e_ ixa (e_ lel (e_ asn (e_ asn (on_ (qn_ (ws_ ?_)))))))))))));refine ws_ (wr_ (e_ mv (e_ fla (e_ ldv (e_ lnn ?_)))));refine d2_ rfl BY (e_ mN (e_ mv (ep 8 48 (k:=λh5=>eg_ fla (eg_ ldv (eg_ mv (eg_ ixa (eg_ (lel (hy:=g)) (iU (vs:=[_,_]) (hc:=(BY)) (k:=eg_ mN (e_ pkf (on_ edq))))))))) (q:=on_ (qn_ (wi_ (k:=λh6=>?_) (m:=λh6=>?_)))))))
  ·have hno:fQ p n=false:=by
    have h9:=h6;rw[b]
    by_cases c1:0≤k∧k<(p.curs.length:Int)
    ·rw[jQ (x:=o) a8];simp
    ·rw[jQ c1];simp
   refine gR ?_;exact⟨_,hsb,cW,rfl⟩
  have f:(0≤k∧k<(p.curs.length:Int))∧0≤o∧o<2147483647:=by have h9:=h6;omega
  have e:0≤c∧c<(p.curs.length:Int):=by
   rcases Un i with rfl|hi0
   ·rw[hk]at d;cases d;exact f.1
   ·exact h hi0
  rw[kE f.1,kE f.2]at b;obtain⟨x,hx⟩:=gE p.curs k.toNat;obtain⟨y,hy⟩:=gE p.curs c.toNat;have l:sG p k=x.1:=by unfold sG;rw[hx]
  have j:sG p c=y.1:=by unfold sG;rw[hy]
  have s:k=((k.toNat:Nat):Int):=a8;have w:c=((c.toNat:Nat):Int):=a8;refine go ?_;refine dX dN (as_ 0 (q:=fla) (k:=as_ 1 (q:=ldv) (k:=as_ 2 (q:=mv) (k:=as_ 3 (q:=ixa (i:=k.toNat) (hj:=s)) (k:=as_ 4 (q:=fle) (k:=as_ 5 (q:=lfl (hy:=hx)) (k:=as_ 6 (q:=fla) (k:=as_ 7 (q:=ldv) (k:=as_ 8 (q:=fla) (k:=as_ 9 (q:=ldv) (k:=as_ 10 (q:=ixa (i:=0)) (k:=as_ 11 (q:=lel (hy:=d)) (k:=as_ 12 (q:=ixa (i:=c.toNat) (hj:=w)) (k:=?_))))))))))))));refine as_ 13 (q:=fle) (k:=as_ 14 (q:=lfl (hy:=hy)) (k:=gW (λz=>?_) (λz=>?_)))
  ·have hno:fQ p n=false:=by
    have h9:=z;rw[b,l,j,Yr h9];simp
   refine gR ?_;exact⟨_,hsb,cW,rfl⟩
  have u:x.1=y.1:=z;rw[l,j,Ys u,Bool.and_true,Xv]at b;refine go ?_;refine lN (i+1) ?_
  try dsimp only
  exact⟨a8,by simpa using b,λ_=>e⟩
 obtain rfl:i=n.cs.length:=a8;rw[Vi]at b;refine gR ?_;exact⟨_,hsb,by rw[b];all_goals rfl,rfl⟩
end
section
variable {p:PrG}
structure Bz (p:PrG):Prop where
 a:p.avgs.length≤1000000000
 c:p.curs.length≤1000000000
 n:p.nears.length≤1000000000
 d:p.drive.length≤1000000000
 k:p.code.length≤100000000
 ns:∀n∈p.nears,n.cs.length≤1000000000
 ct:∀c∈p.curs,c.2.size≤1000000000
 cb:∀x∈p.code,x<256
theorem all_drop {α:Type}{f:α→Bool}{l:List α}{i:Nat}{x:α}(h:l[i]? =some x):(l.drop i).all f=(f x&&(l.drop (i+1)).all f):=by rw[eh h,List.all_cons]
theorem yk {b:Option Int}{k:Int}{r:List Int}:jq p b (k::r)=(fw k p.curs.length&&(match b with|none=>true|some x=>decide (x<k))&&jq p (some k) r):=rfl
def sE (l:List Int) (i:Nat):Option Int:=if i=0 then none else l[i-1]?
theorem ND {G:dJ}{H:dD}{a:PrA} [hp:il H a p] (hs:Bz p):SC G prog 126 [.agg (prV a p.all).toArray] H (λv L=>v=.bool (iP p)∧L=H):=by
 have hs1:=hs.a;have hs2:=hs.c;have hs3:=hs.n;have hs4:=hs.d;have hnl:=hp.nr.1;have hdef:iP p=(decide (1≤p.avgs.length)&&decide (p.avgs.length≤16)&&p.avgs.all (λa=>decide (0≤a))&&p.curs.all (λc=>fw c.1 p.avgs.length&&decide (c.2.size≤64))&&p.nears.all (fQ p)&&!(p.all&&decide (0<p.drive.length))&&jq p none p.drive):=rfl;refine sWk func126 ?_;refine gk (k:=bxx (k:=λb1=>?_));refine gk (k:=ep 5 20 (k:=λh1=>gk (k:=edq)) (q:=go ?_));refine wi_ (k:=λh2=>?_) (m:=λh2=>?_)
 ·have hno:iP p=false:=by
   have h9:=h2;rw[hdef]
   by_cases c1:1≤p.avgs.length
   ·rw[Yr (p:=p.avgs.length≤16) a8];simp
   ·rw[Yr c1];simp
  refine gR ?_;exact⟨_,hsb,cW,rfl⟩
 have hg1:1≤p.avgs.length∧p.avgs.length≤16:=aw;rw[Ys hg1.1,Ys hg1.2,Xv,Xv]at hdef;refine gk (k:=e8 Nat (λy=>y≤p.avgs.length∧p.avgs.all (λa=>decide (0≤a))=(p.avgs.drop y).all (λa=>decide (0≤a))) (λy=>[(24,iN y)]) [(1,_),(22,_),(23,_)] (λy=>[]) _ (λy=>p.avgs.length-y) (0) (h0:=?_) (k:=?_))
 ·exact⟨Yl _,bC⟩
 rintro i ⟨hi,f⟩
 try dsimp only[Yd,Ye]at*
 refine gW (λh3=>?_) λh3=>?_
 ·obtain⟨x,hx⟩:=gE p.avgs i;rw[all_drop hx]at f;refine go ?_;refine gW (λh4=>?_) λh4=>?_
  ·rw[Yr (by have h9:=h4;omega:¬0≤x),Vk]at f;rw[f]at hdef;refine gR ?_;exact⟨_,hsb,cQ,rfl⟩
  rw[Ys (by have h9:=h4;omega:0≤x),Xv]at f;refine go ?_;refine lN (i+1) ?_
  exact⟨a8,f⟩
 obtain rfl:i=p.avgs.length:=a8;rw[Vi,List.all_nil]at f;rw[f,Xv]at hdef;refine go ?_;refine gk (k:=e8 Nat (λy=>y≤p.curs.length∧p.curs.all (λc=>fw c.1 p.avgs.length&&decide (c.2.size≤64))=(p.curs.drop y).all (λc=>fw c.1 p.avgs.length&&decide (c.2.size≤64))) (λy=>[(34,iN y)]) [(1,_),(32,_),(33,_)] (λy=>[]) _ (λy=>p.curs.length-y) (0) (h0:=?_) (k:=?_))
 ·exact⟨Yl _,bC⟩
 rintro j ⟨hj,e⟩
 try dsimp only[Yd,Ye]at*
 refine gW (λh5=>?_) λh5=>?_
 ·obtain⟨x,hx⟩:=gE p.curs j;have hxs:=hs.ct x (Yj hx);rw[all_drop hx]at e;refine wk_ (qn_ (ws_ (wb_ (ws_ (wr_ (e_ ixa (e_ (gr (hy:=hx)) (alc (k:=λb6=>?_)))))))));refine go ?_;refine d2_ rfl BY (gk (k:=ep 5 50 (k:=λh6=>gk (k:=edq)) (q:=gW (λE=>?_) (λE=>?_))))
  ·have hno:(fw x.1 p.avgs.length&&decide (x.2.size≤64))=false:=by
    have h9:=E
    by_cases c1:0≤x.1∧x.1<(p.avgs.length:Int)
    ·rw[Yr a8,Bool.and_false]
    ·rw[jQ c1,Vk]
   rw[hno,Vk]at e;rw[e]at hdef;refine gR ?_;exact⟨_,hsb,cQ,rfl⟩
  have b:(fw x.1 p.avgs.length&&decide (x.2.size≤64))=true:=by
   have h9:=E;rw[kE a8,Ys a8];all_goals rfl
  rw[b,Xv]at e;refine go ?_;refine lN (j+1) ?_
  exact⟨a8,e⟩
 obtain rfl:j=p.curs.length:=a8;rw[Vi,List.all_nil]at e;rw[e,Xv]at hdef;refine go ?_;refine gk (k:=e8 Nat (λy=>y≤p.nears.length∧p.nears.all (fQ p)=(p.nears.drop y).all (fQ p)) (λy=>[(55,iN y)]) [(1,_),(53,_),(54,_)] (λy=>[]) _ (λy=>p.nears.length-y) (0) (h0:=?_) (k:=?_))
 ·exact⟨Yl _,bC⟩
 rintro k ⟨hk,d⟩
 try dsimp only[Yd,Ye]at*
 refine gW (λh8=>?_) λh8=>?_
 ·obtain⟨z,n,K,hn,s,r,l⟩:=hp.nr.get (i:=k) a8;have B:=hs.ns n (Yj hn);rw[all_drop hn]at d;obtain⟨z1,z2,z3⟩:=z;simp only at s r l;subst l;refine wk_ (qn_ (ws_ (wb_ (ws_ (wr_ (e_ ixa (e_ (gr (hy:=K)) (alc (k:=λb8=>?_)))))))));refine go ?_;refine d2_ rfl (W5 (p:=p) (n:=n) B) (gW (λh9=>?_) (λh9=>?_))
  ·have hno:fQ p n=false:=by have h9:=h9;simpa using h9
   rw[hno,Vk]at d;rw[d]at hdef;refine gR ?_;exact⟨_,hsb,cQ,rfl⟩
  have b:fQ p n=true:=by have h9:=h9;simpa using h9
  rw[b,Xv]at d;refine go ?_;refine lN (k+1) ?_
  exact⟨a8,d⟩
 obtain rfl:k=p.nears.length:=a8;rw[Vi,List.all_nil]at d;rw[d,Xv]at hdef;refine gk (k:=dV 5 71 (k:=λh10=>gk (k:=edq)) (q:=go ?_));refine wi_ (k:=λh11=>?_) (m:=λh11=>?_)
 ·have hno:(!(p.all&&decide (0<p.drive.length)))=false:=by have h9:=h11;obtain⟨c1,c2⟩:=h9;rw[c1,Ys a8];all_goals rfl
  rw[hno,Vk]at hdef;refine gR ?_;exact⟨_,hsb,cQ,rfl⟩
 have b:(!(p.all&&decide (0<p.drive.length)))=true:=by
  have h9:=h11;cases hpa:p.all with
  |false=>rfl
  |true=>rw[Yr (by rcases h9 with c1|c1;rw[hpa]at c1;cases c1;omega)];all_goals rfl
 rw[b,Xv]at hdef;refine gk (k:=e8 Nat (λy=>y≤p.drive.length∧jq p none p.drive=jq p (sE p.drive y) (p.drive.drop y)) (λy=>[(75,iN y)]) [(1,_),(73,_),(74,_)] (λy=>[]) _ (λy=>p.drive.length-y) (0) (h0:=?_) (k:=?_))
 ·try dsimp only
  exact⟨Yl _,by rw[Va];all_goals rfl⟩
 rintro m ⟨hm,hdl⟩
 try dsimp only[Yd,Ye]at*
 refine gW (λh12=>?_) λh12=>?_
 ·obtain⟨x,hx⟩:=gE p.drive m;rw[eh hx,yk]at hdl;have A:sE p.drive (m+1)=some x:=by unfold sE;rw[if_neg a8,X7,hx]
  obtain⟨w,J⟩:∃w:Int,0<m→p.drive[m-1]? =some w:=by
   rcases Un m with h9|h9
   ·exact⟨0,λh=>a8⟩
   ·exact⟨p.drive[m-1]'(a8),λ_=>Yi _⟩
  have u:(match sE p.drive m with|none=>true|some y=>decide (y<x))=(decide (m=0) ||decide (w<x)):=by
   rcases Un m with h9|h9
   ·subst h9;rfl
   ·unfold sE;rw[if_neg a8,J h9,Yr (by omega:¬m=0),Q8]
  rw[u]at hdl;refine go ?_;refine d2_ rfl BY (gk (k:=ep 13 99 (c:=decide (0<(m:Int))&&decide (x≤w)) (k:=λh14=>?_) (q:=?_)))
  ·refine gk (k:=dV 9 98 (c:=decide (x≤w)) (k:=λF=>?_) (q:=?_))
   ·have C:0<m:=by have h9:=F;omega
    have t:=J C;refine eg_ mv (eg_ fla (eg_ ldv (eg_ mv ?_)));refine eg_ (evq isb (congrArg (Value.int .i64) (show _=((m-1:Nat):Int)from a8))) ?_;refine eg_ ixa (eg_ (lel (hy:=t)) (gk (k:=edq)))
   refine gk (k:=edq)
  refine gW (λg=>?_) λg=>?_
  ·have hno:(fw x p.curs.length&&(decide (m=0) ||decide (w<x))&&jq p (some x) (p.drive.drop (m+1)))=false:=by
    have h9:=g
    by_cases c1:0≤x∧x<(p.curs.length:Int)
    ·rw[Yr (by omega:¬m=0),Yr (by omega:¬w<x),Bool.or_self,Bool.and_false,Vk]
    ·rw[jQ c1,Vk,Vk]
   rw[hno]at hdl;refine gR ?_;exact⟨_,hsb,cU,rfl⟩
  have b:(fw x p.curs.length&&(decide (m=0) ||decide (w<x)))=true:=by
   have h9:=g;rw[kE a8,Xv,Uh,Xq,Xq];omega
  rw[b,Xv,←A]at hdl;refine go ?_;refine lN (m+1) ?_
  exact⟨a8,hdl⟩
 obtain rfl:m=p.drive.length:=a8;rw[Vi]at hdl;refine gR ?_;exact⟨_,hsb,cU,rfl⟩
end
section
variable {G:dJ}{H:dD}{a:PtA}{d:Int}{l:List (Int×SV)}{n:Nat}{q:PtD}{s sd:SV}{ws:List Nat}
structure FJ (q:PtD):Prop where
 n:q.ds.length≤1048576
 f:1≤q.fs.length∧q.fs.length≤1000000000
 wl:q.dw.length=(q.ds.length+63)/64
 w:okW q.dw
theorem yn [hp:eN H a q]:a.l.length=q.ds.length:=hp.docs.1
theorem JS [hp:eN H a q]:SC G prog 102 [pA a.g,.int .i64 d] H (λv b=>v=.bool (decide (0≤d)&&decide (d<(q.ds.length:Int)))∧b=H):=by
 have hl:=yn (a:=a) (q:=q) (H:=H);refine sWk func102 ?_;refine gk (k:=dV 8 15 (k:=λh1=>gk (k:=edq)) (q:=go ?_));refine gR ?_;exact⟨_,hsb,by rw[←hl];all_goals rfl,rfl⟩
theorem Si [hp:eN H a q]:SC G prog 123 [pA a.g] H (λv b=>v=iN q.ds.length∧b=H):=by
 have hl:=yn (a:=a) (q:=q) (H:=H);refine sWk func123 ?_;refine go ?_;refine gR ?_;exact⟨_,hsb,by rw[←hl];all_goals rfl,rfl⟩
theorem Sh {g:Nat}{fv lv wv bl im:Value} [dQ H g [fv,sd.val,lv,wv,bl,im]] [Sl H sd eD l]:SC G prog 123 [pA g] H (λv a=>v=iN l.length∧a=H):=by
 refine sWk func123 ?_;refine go ?_;exact gZ
theorem Zn {d:Nat}{x:Doc} [hp:eN H a q] (hx:q.ds[d]? =some x):SC G prog 40 [pA a.g,iN d] H (λv e=>v=.tuple #[.int .i64 x.1,.bool true]∧e=H):=by
 have hl:=yn (a:=a) (q:=q) (H:=H);have hxl:=(Yk.1 hx).1;obtain⟨z,c⟩:=gE a.l d;obtain⟨b,hz2⟩:=hp.docs.2 d z x c hx;refine sWk func40 ?_;refine go ?_;refine d2_ rfl (JS (a:=a)) (gW (λh1=>?_) (λh1=>?_))
 ·have h9:=h1;exact absurd h9 aQ
 refine wk_ (qn_ (ws_ (wr_ (e_ mv (e_ nck (e_ fla (e_ ldv (e_ mv (e_ ixa (e_ fle (e_ (lfl (hy:=c)) (go ?_))))))))))));refine gR ?_;exact⟨_,hsb,by rw[←b];all_goals rfl,rfl⟩
theorem QJ {f d:Nat} [hp:eN H a q] (hf:f<q.fs.length) (hd:d<q.ds.length):SC G prog 130 [pA a.g,iN f,iN d] H (λv g=>v=.int .i64 ((((eL q.fs q.ds f).getD d 0:Nat)):Int)∧g=H):=by
 have hl:=hp.lens.1;have c:(eL q.fs q.ds f).length=q.ds.length:=du;have hil:(dT (eL q.fs q.ds f)).length=q.ds.length:=by rw[eJ,c]
 obtain⟨s,e⟩:=gE a.lvs f;haveI hsl:Sl H s eI (dT (eL q.fs q.ds f)):=hp.lens.2 f s e;have b:(dT (eL q.fs q.ds f))[d]? =some ((((eL q.fs q.ds f).getD d 0:Nat)):Int):=by
  rw[dT,Xd,Xj,Yi a8];all_goals rfl
 refine sWk func130 ?_;refine ws_ (wr_ (e_ asn (on_ (qn_ (ws_ (ws_ (wr_ (e_ mv (e_ ilt (e_ mv (ep 8 17 (k:=λh1=>eg_ mv (eg_ mv (eg_ nck (eg_ fla (eg_ ldv (eg_ lnn (eg_ ige (e_ pkf (on_ edq))))))))) (q:=e_ mv (ep 5 23 (k:=λh2=>eg_ mv (eg_ mv (iU (vs:=[_,_]) (hc:=(JS (a:=a))) (k:=eg_ mN (e_ pkf (on_ edq)))))) (q:=?_))))))))))))));refine on_ (qn_ (wi_ (k:=λh3=>?_) (m:=λh3=>?_)))
 ·exact absurd h3 aQ
 refine wk_ (qn_ (ws_ (wr_ (e_ mv (e_ nck (e_ fla (e_ ldv (e_ mv (e_ ixa (e_ (lel (hy:=e)) (e_ mv (e_ ixa (e_ (lel (hy:=b)) ?_)))))))))))));refine e_ asn (on_ (qn_ (wt_ (rT (k:=?_)))));exact⟨_,hsb,rfl,rfl⟩
theorem JM [hp:eN H a q] (d:FJ q):SC G prog 27 [pA a.g] H (λv f=>∃c:SV,v=.agg #[c.val]∧f=Row c eF q.fs::H):=by
 have b:q.fs≠ []:=by intro h9;have:=d.f;rw[h9]at this;simp at this
 refine sWk func27 ?_;refine gk (k:=alc (k:=λb2=>?_));refine go ?_;refine c1_ rfl (MJ b d.f.2) ?_;rintro _ _ ⟨e,rfl,rfl⟩;refine e_ (bld [(0,_)]) (gR ?_);exact⟨_,hsb,e,rfl,rfl⟩
theorem Wa {b c:Nat} [dQ H b [iN n,iN c,s.val]]:SC G prog 124 [pA b] H (λv a=>v=iN n∧a=H):=by
 refine sWk func124 ?_;refine go ?_;exact gZ
theorem Sj {b c:Nat} [dQ H b [iN n,iN c,s.val]] [hs:Sl H s eW ws] (hl:ws.length≤1000000):SC G prog 125 [pA b] H (λv a=>∃(b':Nat) (s':SV),v=pA b'∧a=Vr b' [iN n,iN c,s'.val]::Row s' eW ws::H):=by
 refine sWk func125 ?_;refine ws_ (wr_ (e_ asn (on_ (qn_ (ws_ ?_)))));refine wD [8,13,15] (λk H=>(k=3→dQ H b [iN n,iN c,s.val])∧(k=7→dQ H b [iN n,iN c,s.val])∧(k=12→dQ H b [iN n,iN c,s.val])) (aF 0 (k:=aF 1 (k:=aF 2 (k:=?_))));refine aN 3 rfl (λH hH=>ah) ?_;refine aF 4 (k:=aF 5 (k:=aF 6 (k:=?_)));refine aN 7 rfl (λH hH=>ar) ?_;refine aF 9 (k:=aF 10 (k:=aF 11 (k:=?_)));refine aN 12 rfl (λH hH=>by have hN:=hH.2.2 rfl;exact ldv) ?_;refine aS 8 rfl (fk eW rfl) ?_;rintro _ _ ⟨s11,rfl,rfl⟩;refine aS 13 rfl (gf rfl rfl rfl rfl ab ab) ?_;rintro _ _ ⟨s16,rfl,rfl⟩;refine af_ 14 (q:=ea λH hH=>bld [(0,_),(1,_),(2,_)]) (k:=?_);refine aS 15 rfl (x9 rfl) ?_;rintro _ _ ⟨b18,rfl,rfl⟩;refine aF 16 (k:=aZ (qn_ (wt_ (rT (k:=?_)))));exact⟨_,hsb,_,_,rfl,rfl⟩
theorem JQ {g b c:Nat}{dv fv lv wv bl im:Value} [dQ H b [iN n,iN c,s.val]] [hs:Sl H s eW ws] [dQ H g [fv,sd.val,lv,wv,bl,im]] [Sl H sd eD l] (hl:ws.length≤1000000) (hn:l.length=n):SC G prog 50 [pA g,pA b] H (λv a=>∃(p b':Nat) (s':SV),v=.tuple #[pA p,.nilIface]∧a=Vr p [pA g,pA b']::Vr b' [iN n,iN c,s'.val]::Row s' eW ws::H):=by
 refine sWk func50 ?_;refine ws_ (wr_ (e_ asn (e_ asn (on_ (qn_ (ws_ (ws_ (wr_ (e_ mv ?_)))))))));refine e_ (gu rfl) ?_;refine gW (λh1=>?_) λh1=>?_
 ·exact absurd h1 aq
 refine go ?_;refine d1_ rfl (Wa (n:=n) (c:=c) (s:=s)) (go ?_);refine d1_ rfl (Sh (sd:=sd) (l:=l) (fv:=fv) (lv:=lv) (wv:=wv) (bl:=bl) (im:=im)) (gW (λh2=>?_) (λh2=>?_))
 ·exact absurd h2 (by simp[hn])
 refine go ?_;refine c1_ rfl (Sj (n:=n) (c:=c) (s:=s) hl) ?_;rintro _ _ ⟨b31,s31,rfl,rfl⟩;refine e_ (bld [(0,_),(1,_)]) (bxx (k:=λb33=>?_));refine gR ?_;exact⟨_,hsb,_,_,_,rfl,rfl⟩
theorem Sp [hp:eN H a q] (f:FJ q):SC G prog 101 [pA a.p,.int .i64 d] H (λv h=>v=.bool (decide (0≤d)&&decide (d<(q.ds.length:Int))&&!l8 q.dw d.toNat)∧h=H):=by
 refine sWk func101 ?_;refine go ?_;refine d2_ rfl (JS (a:=a)) (sp_ mv (k:=λh1=>?_) (m:=λh1=>?_))
 ·obtain⟨e,rfl⟩:∃e:Nat,d=(e:Int):=⟨d.toNat,ao⟩;have b:e<q.ds.length:=ao;refine go ?_;refine sg_ (v2_ (RZ (n:=q.ds.length) (c:=a.cnt) (s:=a.ws) (ws:=q.dw) b f.n f.wl f.w)) (k:=?_);rintro _ _ ⟨rfl,rfl⟩;refine gR ?_;exact⟨_,hsb,by simp[jt,b],rfl⟩
 have g:(decide (0≤d)&&decide (d<(q.ds.length:Int)))=false:=by(have h9:=h1;simp;omega)
 refine gR ?_;exact⟨_,hsb,by rw[g,Vk];all_goals rfl,rfl⟩
theorem IH {i:Nat}{f:Nat→Bool}(hi:i<n):((List.range n).drop i).find? f=if f i=true then some i else((List.range n).drop (i+1)).find? f:=by
 rw[eh (l:=List.range n) (i:=i) (x:=i) (by rw[Ur hi]),List.find?_cons];all_goals (cases f i <;> rfl)
theorem Eg {e:Int} [hp:eN H a q] (g:FJ q) (hi0:e≤4294967296):SC G prog 98 [pA a.p,.int .i64 e] H (λv h=>((∃d:Nat,((List.range q.ds.length).drop e.toNat).find? (λd=>!l8 q.dw d)=some d∧v=.tuple #[iN d,.bool true])∨(((List.range q.ds.length).drop e.toNat).find? (λd=>!l8 q.dw d)=none∧v=.tuple #[.int .i64 0,.bool false]))∧h=H):=by
 have hqn:=g.n;refine sWk func98 ?_;refine ws_ (wr_ (e_ asn (e_ asn (on_ (qn_ (ws_ (ws_ (wr_ (e_ mv ?_)))))))));refine e_ (evq (nw rfl rfl) (congrArg (Value.int .i64) (show _=(e.toNat:Int)from a8))) ?_;refine gk (k:=e8 Nat (λy=>e.toNat≤y∧y≤max e.toNat q.ds.length∧((List.range q.ds.length).drop e.toNat).find? (λd=>!l8 q.dw d)=((List.range q.ds.length).drop y).find? (λd=>!l8 q.dw d)) (λy=>[(1,iN y)]) [(0,_)] (λy=>[]) _ (λy=>q.ds.length-y) e.toNat (h0:=?_) (k:=?_))
 ·exact⟨Xl _,a8,rfl⟩
 rintro i ⟨hi1,hi2,b⟩
 try dsimp only[Yd,Ye]at*
 refine go ?_;refine d1_ rfl (Si (a:=a)) (gW (λh1=>?_) (λh1=>?_))
 ·have f:i<q.ds.length:=by have h9:=h1;omega
  rw[IH f]at b;refine go ?_;refine d2_ rfl (RZ (n:=q.ds.length) (c:=a.cnt) (s:=a.ws) (ws:=q.dw) f g.n g.wl g.w) (gW (λh2=>?_) (λh2=>?_))
  ·rw[if_pos aO]at b;refine gR ?_;exact⟨_,hsb,.inl ⟨i,b,rfl⟩,rfl⟩
  rw[if_neg aO]at b;refine go ?_;refine lN (i+1) ?_
  exact⟨a8,a8,b⟩
 rw[show(List.range q.ds.length).drop i= []from S7 (by rw[List.length_range];have h9:=h1;omega),List.find?_nil]at b;refine gR ?_;exact⟨_,hsb,.inr ⟨b,rfl⟩,rfl⟩
end
section
variable {xs ys:List Hit}
theorem Iv:(prog.fieldsOf 68).toList= [{name:= "Id",type:=3,offset:=0,embedded:=false,tag:= "",pkgPath:= "",byteOffset:=0},
 {name:= "Score",type:=66,offset:=1,embedded:=false,tag:= "",pkgPath:= "",byteOffset:=8}]:=by
 rw[Program.fieldsOf,underlying68]
theorem TQ:prog.underlying 68=some (.struct (prog.fieldsOf 68)):=by
 rw[Program.fieldsOf,underlying68]
theorem Ps:prog.stoodInHeld 68=false:=aa
theorem LW:prog.eqGuardType prog.depth 68=false:=aa
theorem D1 {P:Program}{T:TypeId} [One P T] {xs:Array Value}{o:Nat}{v:Value}(h:xs[o]? =some v) (w:World):(part T xs o).run P w=.ok v w:=by
 simp only[part,Sem.run_bind,iZ,Result.andThen_ok,Xx,↓reduceIte,h,Sem.run_pure]
theorem Et (a b:Hit) (w:World):(Op.equalIn 10000 68 (.agg #[.int .i64 a.1,uN a.2]) (.agg #[.int .i64 b.1,uN b.2])).run prog w=.ok (decide (a=b)) w:=by
 rw[run_equalIn_struct w 9999 68 _ _ TQ Ps,Iv];have k:("Id" :String)≠ "_" :=ae;have j:("Score" :String)≠ "_" :=ae;have i:∀(x0 x1:Value) (w:World),(part 3 #[x0,x1] 0).run prog w=.ok x0 w:=λ_ _ w=>D1 rfl w;have g:∀(x0 x1:Value) (w:World),(part 66 #[x0,x1] 1).run prog w=.ok x1 w:=λ_ _ w=>D1 rfl w;have m:=λw=>run_equalIn_int (P:=prog) w 9998 3 .i64 .i64 a.1 b.1 underlying3;have l:=λw=>run_equalIn_int (P:=prog) w 9998 66 .u64 .u64 (a.2:Int) (b.2:Int) underlying66;simp only[Op.eqFields,k,j,ne_eq,not_false_eq_true,↓reduceIte,Sem.run_bind,i,Result.andThen_ok,m];obtain⟨f,d⟩:=a;obtain⟨e,c⟩:=b;simp only[Prod.mk.injEq]
 by_cases h1:f=e
 ·subst h1;simp only[beq_self_eq_true,T6,Xx,↓reduceIte,Sem.run_bind,g,Result.andThen_ok,l,true_and]
  by_cases h2:d=c
  ·subst h2;simp only[beq_self_eq_true,T6,Xx,↓reduceIte,Sem.run_pure,decide_true]
  ·have h6:(((d:Nat):Int)==(c:Int))=false:=beq_false_of_ne a8;simp only[h6,T7,↓reduceIte,Sem.run_pure,Yr h2]
 ·have h6:(f==e)=false:=by simpa using h1
  simp only[h6,T7,↓reduceIte,Sem.run_pure];rw[Yr (λh=>h1 h.1)]
section
variable {G:dJ}{t:Tm}{H:dD}{dst:Option Tmp}{ty:TypeId}{pos:String}{after:Array Edge}{g:Option (Nat×Bool)}
theorem Fp {U:TypeId}{x y:Operand}(a b:Hit) (hx:evo t x=some (.agg #[.int .i64 a.1,uN a.2])) (hy:evo t y=some (.agg #[.int .i64 b.1,uN b.2])):
 Ev G prog ⟨dst,.binOp .neq 68 x y U,ty,pos,after,g⟩ t H (.bool (!decide (a=b))):=
 fun ρ hρ w _=>by
  simp only[execOp,hρ _ _ hx,hρ _ _ hy,Sem.run_bind,run_eqGuard_agg w .neq 68 x y _ _ LW,Result.andThen_ok,run_neq_struct,Et,Sem.run_pure]
end
theorem RI {G:dJ}{H:dD}{s s2:SV} [Sl H s ll xs] [Sl H s2 ll ys] (hn:xs.length≤1000000000000):SC G prog 25 [s.val,s2.val] H (λv e=>v=.bool (decide (xs=ys))∧e=H):=by
 refine sWk func25 ?_;refine go ?_;refine gW (λh1=>?_) λh1=>?_
 ·have b:¬xs=ys:=by rintro rfl;have h9:=h1;omega
  refine gR ?_;exact⟨_,hsb,by rw[Yr b];all_goals rfl,rfl⟩
 have hl:xs.length=ys.length:=ao;refine gk (k:=e8 Nat (λy=>y≤xs.length∧∀j,j<y→xs[j]? =ys[j]?) (λy=>[(13,iN y)]) [(0,_),(1,_),(12,_)] (λy=>[]) _ (λy=>xs.length-y) (0) (h0:=?_) (k:=?_))
 ·exact⟨Yl _,λj h=>absurd h (Up _)⟩
 rintro i ⟨hi,a⟩
 try dsimp only[Yd,Ye]at*
 refine gW (λh2=>?_) λh2=>?_
 ·obtain⟨x,hx⟩:=gE xs i;obtain⟨d,hy⟩:=gE ys i;refine go ?_;refine dX dN (as_ 0 (q:=mv) (k:=as_ 1 (q:=mv) (k:=as_ 2 (q:=ixa) (k:=as_ 3 (q:=gr (hy:=hx)) (k:=as_ 4 (q:=mv) (k:=as_ 5 (q:=mv) (k:=as_ 6 (q:=ixa) (k:=as_ 7 (q:=gr (hy:=hy)) (k:=?_)))))))));refine dS 8 rfl rfl aa rfl (ey (Fp x d rfl rfl)) ?_;refine gW (λh3=>?_) λh3=>?_
  ·have b:¬xs=ys:=by rintro rfl;rw[hx]at hy;cases hy;have h9:=h3;simp at h9
   refine gR ?_;exact⟨_,hsb,by rw[Yr b];all_goals rfl,rfl⟩
  have c:x=d:=da;refine go ?_;refine lN (i+1) ?_
  try dsimp only
  refine⟨a8,λj hj=>?_⟩;rcases Uq (V9 hj)with h|rfl
  ·exact a j h
  ·rw[hx,hy,c]
 obtain rfl:i=xs.length:=a8;have c:xs=ys:=Vz λj=>by
  by_cases hj:j<xs.length
  ·exact a j hj
  ·rw[Xz a8,Xz a8]
 refine gR ?_;exact⟨_,hsb,by rw[Ys c];all_goals rfl,rfl⟩
theorem QD {G:dJ}{H:dD}{s s2:SV}{a b c d e f:Int} [Sl H s ll xs] [Sl H s2 ll ys] (hn:xs.length≤1000000000000):SC G prog 11 [.agg #[s.val,.int .i64 a,.int .i64 b,.int .i64 c],.agg #[s2.val,.int .i64 d,.int .i64 e,.int .i64 f]] H (λv g=>v=.bool (decide (a=d)&&decide (b=e)&&decide (c=f)&&decide (xs=ys))∧g=H):=by
 refine sWk func11 ?_;refine gk (k:=bxx (k:=λb2=>?_));refine bxx (k:=λb3=>?_);refine gk (k:=dV 6 16 (k:=λh1=>gk (k:=edq)) (q:=gk (k:=dV 6 23 (k:=λh2=>gk (k:=edq)) (q:=?_))));refine gk (k:=dV 6 30 (k:=λh3=>gk (k:=iU (vs:=[_,_]) (hc:=(RI hn)) (k:=gk (k:=edq)))) (q:=gR ?_));exact⟨_,hsb,rfl,rfl⟩
end
end Go.Sx
