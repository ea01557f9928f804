import Derived.Test.YtefgpomabdplbaaGreatDoorQ31
import Derived.ScopeJumps
set_option linter.unusedVariables false
set_option linter.unusedSimpArgs false
set_option linter.unusedSectionVars false
set_option linter.unnecessarySimpa false
set_option maxHeartbeats 0
namespace Go.Sx
open Go Go.Proofs
set_option maxRecDepth 100000
def oE:Enc Ins:=⟨fun p=> [.int .i64 ((p.1:Nat):Int), .int .u64 ((p.2.1:Nat):Int), .int .u64 ((p.2.2:Nat):Int)],3,true,fun _=> rfl,fun p v h=> by simp at h;rcases h with rfl|rfl|rfl <;> rfl,ag,fun h=> aG,ag⟩
instance {a b c:Nat}:fK oE (.agg [.int .i64 ((a:Nat):Int), .int .u64 ((b:Nat):Int), .int .u64 ((c:Nat):Int)].toArray) (a,b,c):=⟨rfl⟩
instance {p:Ins}:jG oE p (.agg [.int .i64 ((p.1:Nat):Int), .int .u64 ((p.2.1:Nat):Int), .int .u64 ((p.2.2:Nat):Int)].toArray):=⟨rfl⟩
def eVV:Enc VV:=⟨fun p=> [.bool p.1, .int .u64 ((p.2:Nat):Int)],2,true,fun _=> rfl,fun p v h=> by simp at h;rcases h with rfl|rfl <;> rfl,ag,fun h=> aG,ag⟩
instance {a:Bool}{b:Nat}:fK eVV (.agg [.bool a, .int .u64 ((b:Nat):Int)].toArray) (a,b):=⟨rfl⟩
instance {p:VV}:jG eVV p (.agg [.bool p.1, .int .u64 ((p.2:Nat):Int)].toArray):=⟨rfl⟩
def eLf:Enc (Int×ByteArray):=⟨fun p=> [.int .i64 p.1, .string p.2],2,true,fun _=> rfl,fun p v h=> by simp at h;rcases h with rfl|rfl <;> rfl,ag,fun h=> aG,ag⟩
instance {a:Int}{b:ByteArray}:fK eLf (.agg [.int .i64 a, .string b].toArray) (a,b):=⟨rfl⟩
instance {p:Int×ByteArray}:jG eLf p (.agg [.int .i64 p.1, .string p.2].toArray):=⟨rfl⟩
abbrev NrV:=SV×SV×Int
def eNr:Enc NrV:=⟨fun p=> [p.1.val,p.2.1.val, .int .i64 p.2.2],3,true,fun _=> rfl,fun p v h=> by simp at h;rcases h with rfl|rfl|rfl <;> rfl,ag,fun h=> aG,ag⟩
instance {a b:SV}{c:Int}:fK eNr (.agg [a.val,b.val, .int .i64 c].toArray) (a,b,c):=⟨rfl⟩
instance {p:NrV}:jG eNr p (.agg [p.1.val,p.2.1.val, .int .i64 p.2.2].toArray):=⟨rfl⟩
abbrev Pk:=Int×Nat
def rb:Enc Pk:=⟨fun p=> [.int .i64 p.1, .int .u64 ((p.2:Nat):Int)],2,true,fun _=> rfl,fun p v h=> by simp at h;rcases h with rfl|rfl <;> rfl,ag,fun h=> aG,ag⟩
instance {a:Int}{b:Nat}:fK rb (.agg [.int .i64 a, .int .u64 ((b:Nat):Int)].toArray) (a,b):=⟨rfl⟩
instance {p:Pk}:jG rb p (.agg [.int .i64 p.1, .int .u64 ((p.2:Nat):Int)].toArray):=⟨rfl⟩
structure PrA where
 av:SV
 cu:SV
 ne:SV
 dr:SV
 co:SV
 nz:List NrV
def zH (H:cG) (zs:List NrV) (ns:List jT):Prop:=zs.length=ns.length∧∀(i:Nat) (z:NrV) (n:jT),zs[i]? =some z→ns[i]? =some n→Sl H z.1 eI n.cs∧Sl H z.2.1 eI n.offs∧z.2.2=n.slop
theorem zH.less {H H':cG}{zs:List NrV}{ns:List jT}(hs:cJ H' H) (h:zH H zs ns):zH H' zs ns:=⟨h.1,fun i z n hz hn=> by
 obtain⟨h1,h2,h3⟩:=h.2 i z n hz hn
 exact⟨dD hs h1,dD hs h2,h3⟩⟩
theorem zH.get {H:cG}{zs:List NrV}{ns:List jT}(h:zH H zs ns) {i:Nat}(hi:i<ns.length):∃z n,zs[i]? =some z∧ns[i]? =some n∧Sl H z.1 eI n.cs∧Sl H z.2.1 eI n.offs∧z.2.2=n.slop:=by
 have hz:i<zs.length:=by rw[h.1];exact hi
 have h1:zs[i]? =some zs[i]:=Yi hz
 have h2:ns[i]? =some ns[i]:=Yi hi
 exact⟨_,_,h1,h2,h.2 i _ _ h1 h2⟩
class gE (H:cG) (a:PrA) (p:outParam PrG):Prop where
 av:Sl H a.av eI p.avgs
 cu:Sl H a.cu eLf p.curs
 ne:Sl H a.ne eNr a.nz
 nr:zH H a.nz p.nears
 dr:Sl H a.dr eI p.drive
class qA (H:cG) (a:PrA) (p:outParam PrG):Prop where
 co:Sl H a.co eB p.code
section
variable {H:cG}{a:PrA}{p:PrG}
instance gE.tail {A:Hp} [h:gE H a p]:gE (A::H) a p:=⟨@Sl.tail _ _ _ _ _ _ h.av, @Sl.tail _ _ _ _ _ _ h.cu, @Sl.tail _ _ _ _ _ _ h.ne,h.nr.less (cJ.drop cJ.refl), @Sl.tail _ _ _ _ _ _ h.dr⟩
instance qA.tail {A:Hp} [h:qA H a p]:qA (A::H) a p:=⟨@Sl.tail _ _ _ _ _ _ h.co⟩
instance [h:gE H a p]:Sl H a.av eI p.avgs:=h.av
instance [h:gE H a p]:Sl H a.cu eLf p.curs:=h.cu
instance [h:gE H a p]:Sl H a.ne eNr a.nz:=h.ne
instance [h:gE H a p]:Sl H a.dr eI p.drive:=h.dr
instance [h:qA H a p]:Sl H a.co eB p.code:=h.co
theorem gE.less {H':cG}(hs:cJ H' H) (h:gE H a p):gE H' a p:=⟨dD hs h.av,dD hs h.cu,dD hs h.ne,h.nr.less hs,dD hs h.dr⟩
end
abbrev prV (a:PrA) (all:Bool):List Value:= [a.av.val,a.cu.val,a.ne.val, .bool all,a.dr.val,a.co.val]
structure PtA where
 p:Nat
 g:Nat
 d:Nat
 w:Nat
 fv:SV
 dv:SV
 lv:SV
 ev:SV
 bl:SV
 im:SV
 ws:SV
 cnt:Nat
 l:List (Int×SV)
 lvs:List SV
structure PtD where
 fs:List FV
 ds:List Doc
 dw:List Nat
class dq (H:cG) (a:PtA) (q:outParam PtD):Prop where
 p:cQ H a.p [.pointer (some ⟨a.g,0,none⟩), .pointer (some ⟨a.d,0,none⟩)]
 g:cQ H a.g [a.fv.val,a.dv.val,a.lv.val, .pointer (some ⟨a.w,0,none⟩),a.bl.val,a.im.val]
 d:cQ H a.d [.int .i64 ((q.ds.length:Nat):Int), .int .i64 ((a.cnt:Nat):Int),a.ws.val]
 w:cQ H a.w [a.ev.val]
 fv:Sl H a.fv eF q.fs
 dv:Sl H a.dv eD a.l
 docs:ga H a.l q.ds
 lv:Sl H a.lv eSV a.lvs
 lens:a.lvs.length=q.fs.length∧∀i s,a.lvs[i]? =some s→Sl H s eI (cV (dP q.fs q.ds i))
 ev:Sl H a.ev eEn (gb 0 (dm (eE q.fs q.ds)))
 bl:Sl H a.bl eB (dB (dm (eE q.fs q.ds)))
 ws:Sl H a.ws eW q.dw
section
variable {H:cG}{a:PtA}{q:PtD}
theorem jo {H':cG}{b:Nat}{l:List Value}(hs:cJ H' H) (h:cQ H b l):cQ H' b l:=⟨fun L hL=> by
 obtain⟨L',M,h1,h2⟩:=hs L hL
 obtain⟨E,fz,hm⟩:=h.mem L' h1
 exact⟨E,fz,h2.mem_iff.1 (Yy M hm)⟩⟩
theorem dq.less {H':cG}(hs:cJ H' H) (h:dq H a q):dq H' a q:=⟨jo hs h.p,jo hs h.g,jo hs h.d,jo hs h.w,dD hs h.fv,dD hs h.dv,h.docs.less hs,dD hs h.lv,⟨h.lens.1,fun i s hi=> dD hs (h.lens.2 i s hi)⟩,dD hs h.ev,dD hs h.bl,dD hs h.ws⟩
instance dq.tail {A:Hp} [h:dq H a q]:dq (A::H) a q:=h.less (cJ.drop cJ.refl)
instance [h:dq H a q]:cQ H a.p [.pointer (some ⟨a.g,0,none⟩), .pointer (some ⟨a.d,0,none⟩)]:=h.p
instance [h:dq H a q]:cQ H a.g [a.fv.val,a.dv.val,a.lv.val, .pointer (some ⟨a.w,0,none⟩),a.bl.val,a.im.val]:=h.g
instance [h:dq H a q]:cQ H a.d [.int .i64 ((q.ds.length:Nat):Int), .int .i64 ((a.cnt:Nat):Int),a.ws.val]:=h.d
instance [h:dq H a q]:cQ H a.w [a.ev.val]:=h.w
instance [h:dq H a q]:Sl H a.fv eF q.fs:=h.fv
instance [h:dq H a q]:Sl H a.dv eD a.l:=h.dv
instance [h:dq H a q]:Sl H a.lv eSV a.lvs:=h.lv
instance [h:dq H a q]:Sl H a.ev eEn (gb 0 (dm (eE q.fs q.ds))):=h.ev
instance [h:dq H a q]:Sl H a.bl eB (dB (dm (eE q.fs q.ds))):=h.bl
instance [h:dq H a q]:Sl H a.ws eW q.dw:=h.ws
end
def LPh (lp:Option Nat) (im sk:SV) (ps:List Po):Hp:=match lp with
 |none=> fB []
 |some b=> fB [Vr b [im.val, .int .i64 ((ps.length:Nat):Int), .int .i64 ((dg ps:Nat):Int),sk.val],Row im eB (dx ps),Row sk eSk (fj ps)]
section
variable {H:cG}{b:Nat}{im sk:SV}{ps:List Po}
theorem Dq {F:cG}{l:List Value} [h:cQ F b l]:cQ (fB F::H) b l:=⟨fun L hL=> by
 obtain⟨L1,L2,rfl,h1,_⟩:=pM hL
 obtain⟨E,fz,hm⟩:=h.mem L1 h1
 exact⟨E,fz,Yy _ hm⟩⟩
instance:cQ (LPh (some b) im sk ps::H) b [im.val, .int .i64 ((ps.length:Nat):Int), .int .i64 ((dg ps:Nat):Int),sk.val]:=Dq (F:= [Vr b [im.val, .int .i64 ((ps.length:Nat):Int), .int .i64 ((dg ps:Nat):Int),sk.val],Row im eB (dx ps),Row sk eSk (fj ps)])
instance:Sl (LPh (some b) im sk ps::H) im eB (dx ps):=Sl.star (F:= [Vr b [im.val, .int .i64 ((ps.length:Nat):Int), .int .i64 ((dg ps:Nat):Int),sk.val],Row im eB (dx ps),Row sk eSk (fj ps)])
instance:Sl (LPh (some b) im sk ps::H) sk eSk (fj ps):=Sl.star (F:= [Vr b [im.val, .int .i64 ((ps.length:Nat):Int), .int .i64 ((dg ps:Nat):Int),sk.val],Row im eB (dx ps),Row sk eSk (fj ps)])
end
structure CuA where
 lp:Option Nat
 im:SV
 sk:SV
 rd:SV
 zs:List PG
 blk:Int
def uH (ps:List Po) (zs:List PG) (blk:Int):Prop:=blk= -1∨∃k:Nat,blk=(k:Int)∧zs.map pgP=de ps k
def HZ (c:CuS) (x:CuA):Prop:=iK c∧(x.lp=none→c.ps= [])∧uH c.ps x.zs x.blk
def lpV (lp:Option Nat):Value:= .pointer (lp.map fun b=> ⟨b,0,none⟩)
instance {lp:Option Nat}:qB (lpV lp):=⟨rfl⟩
def CuH (b:Nat) (c:CuS):Hp:=fun L=> ∃x:CuA,HZ c x∧Sep [Vr b [.int .i64 (gJ c.ps c.u), .int .i64 ((c.mv:Nat):Int),lpV x.lp, .int .i64 (((c.u:Nat):Int) - 1), .int .i64 x.blk,x.rd.val, .bool c.told],LPh x.lp x.im x.sk c.ps,Row x.rd ePo (x.zs.map pgV),Cl pgH x.zs] L
theorem m6 {b:Nat}{c:CuS}{x:CuA}{R:cG}(h:HZ c x):cJ (Vr b [.int .i64 (gJ c.ps c.u), .int .i64 ((c.mv:Nat):Int),lpV x.lp, .int .i64 (((c.u:Nat):Int) - 1), .int .i64 x.blk,x.rd.val, .bool c.told]::LPh x.lp x.im x.sk c.ps::Row x.rd ePo (x.zs.map pgV)::Cl pgH x.zs::R) (CuH b c::R):=fun L hL=> by
 obtain⟨L1,L2,rfl,h1,h2⟩:=mn (F:= [Vr b [.int .i64 (gJ c.ps c.u), .int .i64 ((c.mv:Nat):Int),lpV x.lp, .int .i64 (((c.u:Nat):Int) - 1), .int .i64 x.blk,x.rd.val, .bool c.told],LPh x.lp x.im x.sk c.ps,Row x.rd ePo (x.zs.map pgV),Cl pgH x.zs]) hL
 exact⟨L1++L2, [],⟨L1,L2,rfl,⟨x,h,h1⟩,h2⟩,an⟩
section
variable {G:cK}{P:Program}{N:Nat}{Q:Go.Sx.Post}{t:Tm}{H:cG}{ops:Array Oper}{l:List Oper}
theorem wm {R:cG}{b:Nat}{c:CuS}(hr:Rem H CuH b c R) {w:World}(hw:Sat G w H):∃x:CuA,HZ c x∧Sat G w (Vr b [.int .i64 (gJ c.ps c.u), .int .i64 ((c.mv:Nat):Int),lpV x.lp, .int .i64 (((c.u:Nat):Int) - 1), .int .i64 x.blk,x.rd.val, .bool c.told]::LPh x.lp x.im x.sk c.ps::Row x.rd ePo (x.zs.map pgV)::Cl pgH x.zs::R):=by
 obtain⟨hS,L,hL,hl⟩:=hr.sat hw
 obtain⟨L1,L2,rfl,⟨x,hx,h1⟩,h2⟩:=hL
 exact⟨x,hx,hS,L1++L2,pR h1 h2,hl⟩
theorem wB {R:cG}(b:Nat) {c:CuS} [hr:Rem H CuH b c R] (h:∀(lp:Option Nat) (im sk rd:SV) (zs:List PG) (blk:Int),iK c→(lp=none→c.ps= [])→uH c.ps zs blk→O G P N ops l Q t (Vr b [.int .i64 (gJ c.ps c.u), .int .i64 ((c.mv:Nat):Int),lpV lp, .int .i64 (((c.u:Nat):Int) - 1), .int .i64 blk,rd.val, .bool c.told]::LPh lp im sk c.ps::Row rd ePo (zs.map pgV)::Cl pgH zs::R)):O G P N ops l Q t H:=
 ⟨fun a w ha hw=> by
   obtain⟨x,⟨h1,h2,h3⟩,h4⟩:=wm hr hw
   exact(h x.lp x.im x.sk x.rd x.zs x.blk h1 h2 h3).go a w ha h4⟩
end
open Go
theorem nJ {G:cK}{P:Program}{t:Tm}{H:cG}{dst:Option Tmp}{f:FuncId}{c:Operand}{fi ca:List Value}{xs:List Operand}{ats:Array TypeId}{ty:TypeId}{pos:String}{after:Array Edge}{g:Option (Nat×Bool)}{vs:List Value}{K:Value→cG→Prop}
 (h0:evo t c=some (.func (.func f) fi.toArray ca.toArray)) (hx:qj t xs=some vs) (hc:SC G P f (fi++vs++ca) H K):St G P ⟨dst, .call ⟨.value c,xs.toArray,ats⟩,ty,pos,after,g⟩ t H K:=by
 intro ρ hρ w hw
 have h1:ρ c= .func (.func f) fi.toArray ca.toArray:=hρ _ _ h0
 have h2:xs.toArray.map ρ=vs.toArray:=bR
 have:(execOp ρ ⟨dst, .call ⟨.value c,xs.toArray,ats⟩,ty,pos,after,g⟩).run P w= .ok (.enter f (fi++vs++ca).toArray) w:=by
  simp only[execOp,resolve,h1,h2,Deferred.ofValue,Sem.run_bind,Sem.run_pure,Result.andThen_ok]
  simp only[invoke,List.append_toArray]
  exact hc.enter _ _
 rw[this]
 exact hc.call w hw
section
variable {G:cK}{P:Program}{N:Nat}{Q:Post}{t:Tm}{H:cG}
def zJ {α:Type}(l:Nat) (I:α→Prop) (fr:α→Tm) (hp:α→cG) (μ:α→Nat) (m:Nat) (Q:Post):Post:=fun e t H=> match e with
 | .goto l'=> l'=l∧∃y,I y∧μ y<m∧Sub (fr y) t∧cJ H (hp y)
 |e=> Q e t H
theorem I5 {l:Nat}(h:Q .normal t H):W G P N (.label l) Q t H:=⟨fun _ _ ha hw=> wp_label ⟨t,H,ha,hw,h⟩⟩
theorem Eh {l:Nat}(h:Q (.goto l) t H):W G P N (.goto l) Q t H:=⟨fun _ _ ha hw=> wp_goto ⟨t,H,ha,hw,h⟩⟩
theorem qg_ {y:Code}{l:Nat}(h:Q (.goto l) t H):E6 G P N y Q (.goto l) t H:=h
section
variable {α:Type}{I:α→Prop}{fr:α→Tm}{hp:α→cG}{μ:α→Nat}{l m:Nat}
theorem jg_ (y:α) (hI:I y) (hm:μ y<m) (hs:Sub (fr y) t) (hh:cJ H (hp y)):zJ l I fr hp μ m Q (.goto l) t H:=⟨rfl,y,hI,hm,hs,hh⟩
theorem jt_ (h:Q .ret t H):zJ l I fr hp μ m Q .ret t H:=h
end
end
section
variable {G:cK}{P:Program}{N:Nat}{Q:Post}{t:Tm}{H:cG}
def CE {α:Type}(l:Nat) (I:α→Prop) (fr:α→Tm) (hp:α→cG) (Q:Post):Post:=fun e t H=> match e with
 | .goto l'=> l'=l∧∃y,I y∧Sub (fr y) t∧cJ H (hp y)
 |e=> Q e t H
section
variable {α:Type}{I:α→Prop}{fr:α→Tm}{hp:α→cG}{l:Nat}
theorem ft_ (h:Q .ret t H):CE l I fr hp Q .ret t H:=h
end
theorem xu {c rest:Code}(l:Nat) (hf:findLabel c l=some (.seq .skip rest)) (α:Type) (I:α→Prop) (fr:α→Tm) (hp:α→cG) (μ:α→Nat)
 (pass:∀x,I x→W G P N rest (zJ l I fr hp μ (μ x) Q) (fr x) (hp x))
 (first:(∀y t H,I y→Sub (fr y) t→cJ H (hp y)→W G P N (.seq (.label l) rest) (CE l I fr hp Q) t H)→W G P N c (CE l I fr hp Q) t H):W G P N (.scope c) Q t H:=by
 have hm:∀(m:Nat) e t H,zJ l I fr hp μ m Q e t H→CE l I fr hp Q e t H:=fun m e t H h=> by
  cases e with
  |goto l'=> obtain⟨h1,y,h2,_,h3,h4⟩:=h;exact⟨h1,y,h2,h3,h4⟩
  |normal=> exact h
  |exit id=> exact h
  |ret=> exact h
  |panic ch=> exact h
  |outgrown=> exact h
 have hmax:∃m0:Nat,True:=⟨0,trivial⟩
 have hfirst:=first fun y t' H' hy hs hh=> xt (I5 (Ed hs (zV hh (zS (pass y hy) (hm _)))))
 refine⟨fun a w ha hw=> ?_⟩
 intro b k cs
 have hg:gotoIn l (.inScope c::k)=some (.code (.seq .skip rest):: .inScope c::k):=by simp[gotoIn,hf]
 have pass2:∀x,I x→W G P N (.seq .skip rest) (zJ l I fr hp μ (μ x) Q) (fr x) (hp x):=fun x hx=> xt (Ee (pass x hx))
 have key:∀n x,μ x=n→I x→∀a w,Fr N (fr x) a→Sat G w (hp x)→
  ∃e a' w',up G N Q e a' w'∧Arrives P (lone (b.at a (.code (.seq .skip rest):: .inScope c::k)) cs w) b k cs e a' w':=by
  intro n
  induction n using Nat.strongRecOn with
  |_ n ih=>
   intro x hn hI a w ha hw
   obtain⟨e,a₁,w₁,hq,harr⟩:=(pass2 x hI).go a w ha hw b (.inScope c::k) cs
   obtain⟨t',H',ha',hw',hq⟩:=hq
   cases e with
   |normal=> exact⟨.normal,a₁,w₁,⟨t',H',ha',hw',hq⟩,Steps.trans harr (.one step_inScope)⟩
   |exit id=> exact⟨.exit id,a₁,w₁,⟨t',H',ha',hw',hq⟩,fun k' hk=> harr k' (by simp[exitTo,hk])⟩
   |goto l'=>
    obtain⟨rfl,y,hy,hlt,hsub,hsat⟩:=hq
    obtain⟨e₂,a₂,w₂,hq₂,harr₂⟩:=ih (μ y) (hn ▸ hlt) y rfl hy a₁ w₁ (ha'.sub hsub) (hsat.sat hw')
    exact⟨e₂,a₂,w₂,hq₂, .of_steps (harr _ hg) harr₂⟩
   |ret=> exact⟨_,a₁,w₁,⟨t',H',ha',hw',hq⟩,harr⟩
   |panic ch=> exact⟨_,a₁,w₁,⟨t',H',ha',hw',hq⟩,harr⟩
   |outgrown=> exact⟨_,a₁,w₁,⟨t',H',ha',hw',hq⟩,harr⟩
 obtain⟨e,a₁,w₁,hq,harr⟩:=hfirst.go a w ha hw b (.inScope c::k) cs
 obtain⟨t',H',ha',hw',hq⟩:=hq
 cases e with
 |normal=> exact⟨.normal,a₁,w₁,⟨t',H',ha',hw',hq⟩, .head step_scope (Steps.trans harr (.one step_inScope))⟩
 |exit id=> exact⟨.exit id,a₁,w₁,⟨t',H',ha',hw',hq⟩,fun k' hk=> .head step_scope (harr k' (by simp[exitTo,hk]))⟩
 |goto l'=>
  obtain⟨rfl,y,hy,hsub,hsat⟩:=hq
  obtain⟨e₂,a₂,w₂,hq₂,harr₂⟩:=key _ y rfl hy a₁ w₁ (ha'.sub hsub) (hsat.sat hw')
  exact⟨e₂,a₂,w₂,hq₂, .of_steps (.head step_scope (harr _ hg)) harr₂⟩
 |ret=> exact⟨_,a₁,w₁,⟨t',H',ha',hw',hq⟩, .of_steps (.one step_scope) harr⟩
 |panic ch=> exact⟨_,a₁,w₁,⟨t',H',ha',hw',hq⟩, .of_steps (.one step_scope) harr⟩
 |outgrown=> exact⟨_,a₁,w₁,⟨t',H',ha',hw',hq⟩, .of_steps (.one step_scope) harr⟩
end
section
variable {G:cK}{P:Program}{t:Tm}{H:cG}{dst:Option Tmp}{ty:TypeId}{pos:String}{after:Array Edge}{g:Option (Nat×Bool)}
theorem gA {T ft off bb k:Nat}{x:Operand}{fs:Array Field}{z v:Value}{l:List Value}(hu:P.underlying T=some (.struct fs)) (hf:(fs[k]?).map (fun f=> (f.offset,f.type))=some (off,ft)) (hx:evo t x=some (.agg l.toArray)) (hv:l[off]? =some v) [hO:One P ft] [hE:Inf P ft 1 bb z]:
 Ev G P ⟨dst, .field T x k,ty,pos,after,g⟩ t H v:=
 fun ρ hρ w _=> by
  cases hk:fs[k]? with
  |none=> rw[hk]at hf;cases hf
  |some f=>
   rw[hk]at hf
   simp only[Option.map_some,Option.some.injEq,Prod.mk.injEq]at hf
   obtain⟨h1,h2⟩:=hf
   subst h1;subst h2
   have h3:(l.toArray)[f.offset]? =some v:=by simpa using hv
   simp only[execOp,hρ _ _ hx,Instr.field,Sem.run_bind,da (T:=T) (d:= .struct fs) (h:=⟨hu⟩),Result.andThen_ok,hk,asAgg,part,Sem.run_pure,fT (T:=f.type),Bool.false_eq_true,↓reduceIte]
   simp[hv]
theorem mkf {f:FuncId}{fi ca:List Operand}{vs ws:List Value}(h1:qj t fi=some vs:=by exact rfl) (h2:qj t ca=some ws:=by exact rfl):
 Ev G P ⟨dst, .makeFunc (.func f) fi.toArray ca.toArray,ty,pos,after,g⟩ t H (.func (.func f) vs.toArray ws.toArray):=
 fun ρ hρ w _=> by
  have e1:fi.toArray.map ρ=vs.toArray:=by rw[List.map_toArray,kF hρ h1]
  have e2:ca.toArray.map ρ=ws.toArray:=by rw[List.map_toArray,kF hρ h2]
  simp only[execOp,Instr.makeFunc,e1,e2,Sem.run_bind,Sem.run_pure,Result.andThen_ok]
end
theorem Hg {G:cK}{P:Program}{t:Tm}{H:cG}{dst:Option Tmp}{ty:TypeId}{pos:String}{after:Array Edge}{g:Option (Nat×Bool)}{T U:TypeId}{x y:Operand}{i j:Int}(hx:evo t x=some (.int .i64 i)) (hy:evo t y=some (.int .i64 j)) (a b:Nat) (ha:i=a) (hb:j=b) (hla:a<9223372036854775808) (hlb:b<9223372036854775808):
 Ev G P ⟨dst, .binOp .and T x y U,ty,pos,after,g⟩ t H (.int .i64 ((a &&& b:Nat):Int)):=
 fun ρ hρ w _=> by
  have h2:a &&& b≤a:=Nat.and_le_left
  have e:(BitVec.ofInt 64 (a:Int) &&& BitVec.ofInt 64 (b:Int)).toNat=a &&& b:=by
   rw[fL,fL,BitVec.toNat_and,BitVec.toNat_ofNat,BitVec.toNat_ofNat,Nat.mod_eq_of_lt (aa),Nat.mod_eq_of_lt (aa)]
  have e2:IntKind.wrap .i64 ((a &&& b:Nat):Int)=((a &&& b:Nat):Int):=iq (aa)
  have e4:IntKind.wrap .i64 (((BitVec.ofInt (IntKind.bits .i64) (a:Int) &&& BitVec.ofInt (IntKind.bits .i64) (b:Int)).toNat:Nat):Int)=((a &&& b:Nat):Int):=by rw[←e2];exact congrArg (fun n:Nat=> IntKind.wrap .i64 (n:Int)) e
  simp only[execOp,hρ _ _ hx,hρ _ _ hy,eqGuard,binOp,Op.intBits,ha,hb]
  simp only[Sem.run_bind,Sem.run_pure,ne_eq,not_true_eq_false,↓reduceIte]
  rw[e4]
  all_goals rfl
theorem Ch {G:cK}{P:Program}{t:Tm}{H:cG}{dst:Option Tmp}{ty:TypeId}{pos:String}{after:Array Edge}{g:Option (Nat×Bool)}{T U:TypeId}{x y:Operand}{a b:Int}(hx:evo t x=some (.int .i64 a)) (hy:evo t y=some (.int .i64 b)):
 Ev G P ⟨dst, .binOp .sub T x y U,ty,pos,after,g⟩ t H (.int .i64 (IntKind.i64.wrap (a - b))):=
 fun ρ hρ w _=> by simp[execOp,hρ _ _ hx,hρ _ _ hy,eqGuard,binOp,Op.intArith]
theorem Cx {G:cK}{H:cG}{s:SV}{m N a w:Nat} [hs:Sl H s eB (leB m N)] (hm:a+w≤8*m) (hw:w≤40) (hm9:m≤10000000000):SC G Tryz.prog 210 [s.val, .int .i64 ((a:Nat):Int), .int .i64 ((w:Nat):Int)] H (fun v H'=> v= .int .i64 ((N / 2 ^ a % 2 ^ w:Nat):Int)∧H'=H):=by
 have hlen:=eJ m N
 refine sWk Tryz.func210 Tryz.ntmps210 ?_
 refine go ?_
 refine gk (k:=dt (Nat×Nat) (fun y=> y.1≤w∧y.2=N / 2 ^ a % 2 ^ y.1) (fun y=> [(7, .int .i64 ((y.2:Nat):Int)),(8, .int .i64 ((y.1:Nat):Int))]) [(0,_),(1,_),(2,_)] (fun y=> []) _ (fun y=> w - y.1) ((0,0)) (h0:=?_) (k:=?_))
 ·try dsimp only
  exact⟨Yl _,by simp[Nat.mod_one]⟩
 rintro⟨d,v⟩ ⟨hd,hv⟩
 try dsimp only[Yd,Ye]at*
 refine gk (k:=wi_ (k:=fun h1=>?_) (m:=fun h1=>?_))
 ·obtain⟨tk,htk⟩:∃tk,tk=min (8 - (a+d) % 8) (w - d):=⟨_,rfl⟩
  obtain⟨x,hx,hx8,hxb⟩:=DU (m:=m) (N:=N) (T:=a+d) (t:=tk) (aa) (aa)
  have hlt:(a+d) / 8<(leB m N).length:=aa
  have hp8:2 ^ tk≤2 ^ 8:=Nat.pow_le_pow_right (ag) (aa)
  have hp0:0<2 ^ tk:=Nat.two_pow_pos tk
  have hv40:v<2 ^ 40:=by rw[hv];exact Nat.lt_of_lt_of_le (Nat.mod_lt _ (Nat.two_pow_pos d)) (Nat.pow_le_pow_right (ag) (aa))
  have hxs:x / 2 ^ ((a+d) % 8)≤x:=Nat.div_le_self _ _
  have hand:x / 2 ^ ((a+d) % 8) &&& (2 ^ tk - 1)=N / 2 ^ (a+d) % 2 ^ tk:=by rw[Nat.and_two_pow_sub_one_eq_mod,hxb]
  have hy256:N / 2 ^ (a+d) % 2 ^ tk<256:=by have:=Nat.mod_lt (N / 2 ^ (a+d)) hp0;omega
  have hd40:2 ^ d≤2 ^ 40:=Nat.pow_le_pow_right (ag) (aa)
  have hsh:N / 2 ^ (a+d) % 2 ^ tk*2 ^ d≤255*2 ^ 40:=Nat.mul_le_mul (aa) hd40
  have hmore:=DT (N:=N) (at_:=a) (got:=d) (t:=tk)
  rw[←hv]at hmore
  refine wk_ (qn_ (wb_ (ws_ (wr_ (e_ mv (k:=e_ mv (k:=e_ mv (k:=e_ iad (k:=?_)))))))))
  refine e_ (gn rfl rfl (a+d) 8 (aa) rfl (ag) (aq)) (k:=?_)
  refine e_ ixa (k:=e_ (lel (hy:=hx)) (k:=?_))
  refine e_ (dy rfl (aa)) (k:=?_)
  refine e_ mv (k:=e_ mv (k:=e_ iad (k:=?_)))
  refine e_ (kG rfl rfl (a+d) 8 (aa) rfl (ag)) (k:=?_)
  refine e_ (fC rfl rfl x ((a+d) % 8) rfl rfl (by show _≤64;omega)) (k:=?_)
  refine e_ asn (k:=on_ (qn_ (ws_ (wr_ (e_ mv (k:=e_ mv (k:=e_ iad (k:=?_))))))))
  refine e_ (kG rfl rfl (a+d) 8 (aa) rfl (ag)) (k:=?_)
  refine e_ isb (k:=e_ mv (k:=e_ mv (k:=e_ isb (k:=?_))))
  refine e_ (mN rfl rfl) (k:=?_)
  refine e_ (asv (v:= .int .i64 ((tk:Nat):Int)) rfl (congrArg (Value.int .i64) (aa))) (k:=?_)
  refine on_ (qn_ (ws_ (wr_ (e_ mv (k:=e_ mv (k:=e_ mv (k:=?_)))))))
  refine e_ (ud rfl rfl 1 tk rfl rfl (aa) (aa)) (k:=?_)
  refine e_ (evq isb (congrArg (Value.int .i64) (show _=((2 ^ tk - 1:Nat):Int)from aa))) (k:=?_)
  refine e_ (evq (Hg rfl rfl (x / 2 ^ ((a+d) % 8)) (2 ^ tk - 1) rfl rfl (aa) (aa)) (congrArg (fun n:Nat=> Value.int .i64 (n:Int)) hand)) (k:=?_)
  refine e_ mv (k:=?_)
  refine e_ (ud rfl rfl (N / 2 ^ (a+d) % 2 ^ tk) d rfl rfl (aa) (aa)) (k:=?_)
  refine e_ (evq (wS rfl rfl v (N / 2 ^ (a+d) % 2 ^ tk*2 ^ d) rfl rfl (aa) (aa)) (congrArg (fun n:Nat=> Value.int .i64 (n:Int)) hmore)) (k:=?_)
  refine go ?_
  refine ln_ ((d+tk,N / 2 ^ a % 2 ^ (d+tk))) (k:=?_)
  try dsimp only
  exact⟨aa,rfl⟩
 obtain rfl:d=w:=aa
 refine gk (k:=rt_ Tryz.results210 (k:=?_))
 exact⟨_,hsb,by rw[←hv];all_goals rfl,rfl⟩
theorem BG {G:cK}{H R:cG}{b k x:Nat}{xs:List Nat} [hg:Glb G R] [hr:Rem H Rd b (xs,k) R] (hx:xs[k]? =some x) (hn:xs.length≤1000000000000):SC G Tryz.prog 40 [.pointer (some ⟨b,0,none⟩)] H (fun v H'=> v= .tuple #[.int .u8 ((x:Nat):Int), .nilIface]∧H'=Rd b (xs,k+1)::R):=
 SC.mono (Ov (Nat.le_of_lt (Yk.1 hx).1) hn) fun v H' h2=> by
  have hlt:=(Yk.1 hx).1
  rcases h2 with⟨h3,_⟩|⟨y,h3,h4,h5⟩
  ·omega
  ·rw[hx]at h3;cases h3;exact⟨h4,h5⟩
theorem H6 {α:Type}{full:List α}{z:α}{i:Nat}{x:α}(h:full[i]? =some x):(eA full z (i+1))[i]? =some x:=by
 have hi:=(Yk.1 h).1
 rw[eA,Yv (aA),List.getElem?_take_of_lt (aa),h]
theorem MA {G:cK}{H R:cG}{b k most:Nat}{xs ns rest:List Nat} [hg:Glb G R] [hr:Rem H Rd b (xs,k) R] (hn:xs.length≤10000000000) (hb:∀x∈xs,x<256) (h:xs.drop k=dJ ns++rest) (hm:ns.length≤most) (hmo:most≤65536) (hl:∀x∈ns,x<1099511627776):
 SC G Tryz.prog 191 [.pointer (some ⟨b,0,none⟩), .int .i64 ((most:Nat):Int)] H (fun v H'=> ∃s:SV,v= .tuple #[s.val, .nilIface]∧H'=Row s eI (cV ns)::Rd b (xs,k+(dJ ns).length)::R):=by
 have hlen:=dO ns
 have hpl:(dJ ns).length+rest.length=xs.length - k:=by rw[←Ya,←h,Yo]
 have hpos:1≤(dJ ns).length:=by have:=oV ns.length;rw[dJ,Ya];omega
 obtain⟨A,hA⟩:∃A,A=(uv ns.length).length:=⟨_,rfl⟩
 have h0:fG most (xs.drop k)= .ok (ns.length,A):=by rw[h,dJ,Yf,hA];exact ey _ (aa) hm
 refine SC.rem (h:=hr) ?_
 refine sWk Tryz.func191 Tryz.ntmps191 ?_
 refine ws_ (wr_ (e_ asn (k:=e_ asn (k:=on_ (qn_ (ws_ (wr_ (e_ mv (k:=e_ mv (k:=?_))))))))))
 refine d2_ rfl (sj (aa) (aa) hb (aa) h0) (k:=e_ mv (k:=e_ exr (k:=e_ exr (k:=e_ asn (k:=e_ asn (k:=on_ (qn_ (ws_ (ws_ (wr_ (e_ mv (k:=?_))))))))))))
 refine e_ (cM rfl) (k:=?_)
 refine e_ mv (k:=eg_ mv (k:=eg_ ieq (k:=e_ pkf (k:=on_ (qn_ (wi_ (k:=fun h1=>?_) (m:=fun h1=>?_)))))))
 ·have hnil:ns= []:=List.eq_nil_of_length_eq_zero (aa)
  have hpk:(dJ ns).length=A:=by rw[dJ,if_pos hnil,Ym,hA]
  rw[hpk]
  subst hnil
  refine ws_ (wr_ (e_ mv (k:=e_ asn (k:=e_ asn (k:=on_ (qn_ (wt_ (qr_ (rt_ Tryz.results191 (k:=?_))))))))))
  exact⟨_,hsb,SV.nil,rfl,rfl⟩
 have hne:¬ns= []:=fun h=> by have h9:=h1;rw[h]at h9;exact h9 rfl
 obtain⟨W,hW⟩:∃W,W=dX (orL ns):=⟨_,rfl⟩
 have hW40:W≤40:=by rw[hW,fZ];exact nQ (k:=40) (ag) hl
 have hxW:∀x∈ns,x<2 ^ W:=fun x hx=> by rw[hW];exact FM hx
 obtain⟨m,hm8⟩:∃m,m=(ns.length*W+7) / 8:=⟨_,rfl⟩
 obtain⟨N,hN⟩:∃N,N=gj W ns:=⟨_,rfl⟩
 have hres:dJ ns=uv ns.length++(W::leB m N):=by rw[dJ,if_neg hne,←hW,BS,hm8,hN]
 have hrl:(dJ ns).length=A+1+m:=by rw[hres,Ya,Yb,eJ,hA];omega
 have hd1:xs.drop (k+A)=W::(leB m N++rest):=by rw[←List.drop_drop,h,hres,Yf,hA,List.drop_left];all_goals rfl
 have hxk:xs[k+A]? =some W:=by have:=congrArg (·[0]?) hd1;simpa using this
 have hd2:xs.drop (k+A+1)=leB m N++rest:=by rw[←List.drop_drop,hd1];all_goals rfl
 have hcut2:(xs.take (k+A+1+m)).drop (k+A+1)=leB m N:=by
  rw[List.drop_take,show k+A+1+m - (k+A+1)=m from aa,hd2]
  exact List.take_left' (eJ m N)
 have hnW:ns.length*W≤ns.length*40:=Nat.mul_le_mul_left _ hW40
 have hcast:((ns.length:Nat):Int)*((W:Nat):Int)=((ns.length*W:Nat):Int):=an
 refine wk_ (qn_ (ws_ (wr_ (e_ mv (k:=?_)))))
 refine d1_ rfl (BG hxk (aa)) (k:=e_ mv (k:=e_ exr (k:=e_ exr (k:=e_ asn (k:=e_ asn (k:=on_ (qn_ (ws_ (ws_ (wr_ (e_ mv (k:=?_))))))))))))
 refine e_ (cM rfl) (k:=?_)
 refine on_ (qn_ (eg (k:=wk_ (qn_ (ws_ (wr_ (e_ mv (k:=?_))))))))
 refine e_ (dy rfl (aa)) (k:=?_)
 refine e_ asn (k:=on_ (qn_ (ws_ (wb_ (ws_ (ws_ (wr_ (e_ mv (k:=e_ igt (k:=e_ asn (k:=on_ (qn_ (wi_ (k:=fun h2=>?_) (m:=fun h2=>?_))))))))))))))
 ·exact absurd h2 (aa)
 refine wr_ (e_ mv (k:=e_ ieq (k:=e_ mv (k:=dh 3 47 (k:=fun h3=>eg_ mv (k:=eg_ igt (k:=e_ pkt (k:=on_ (edq))))) (q:=e_ asn (k:=on_ (qn_ (wi_ (k:=fun h4=>?_) (m:=fun h4=>?_)))))))))
 ·obtain⟨c1,c2⟩:=h4
  exact absurd c2 (aa)
 refine ws_ (wr_ (?_))
 refine mC b fun s=> ?_
 have hcutS:Sl (Row s eB xs::R) (s.cut 1 (k+A+1) (k+A+1+m)) eB (leB m N):=by
  have:=Sl.cut (H:=Row s eB xs::R) (s:=s) (e:=eB) (xs:=xs) inferInstance (lo:=k+A+1) (hi:=k+A+1+m) (aa) (aa)
  rw[hcut2]at this;exact this
 have hqt:0<W→ns.length≤(xs.length - (k+A+1))*8 / W:=fun hw=> by rw[Nat.le_div_iff_mul_le hw];omega
 refine e_ mv (k:=e_ igt (k:=e_ mv (k:=dh 10 62 (c:=decide ((((xs.length - (k+A+1))*8 / W:Nat):Int)<((ns.length:Nat):Int))) (k:=fun h6=>?_) (q:=?_))))
 ·have hW0:0<W:=by have h9:=h6;omega
  refine eg_ mv (k:=eg_ mv (k:=eg_ nck (k:=eg_ fla (k:=?_))))
  refine sg_ (cW (vs:= [_]) rfl (left (k:=((k+A+1:Nat):Int)) (aa))) (k:=?_)
  rintro _ _ ⟨rfl,rfl⟩
  refine eg_ (evq iml (congrArg (Value.int .i64) (show _=(((xs.length - (k+A+1))*8:Nat):Int)from aa))) (k:=?_)
  refine eg_ mv (k:=?_)
  refine eg_ (gn rfl rfl ((xs.length - (k+A+1))*8) W rfl rfl (aa) (aq)) (k:=?_)
  refine eg_ igt (k:=e_ pkt (k:=on_ (edq)))
 refine e_ asn (k:=on_ (qn_ (wi_ (k:=fun h7=>?_) (m:=fun h7=>?_))))
 ·obtain⟨c1,c2⟩:=h7
  have:=hqt (aa)
  exact absurd c2 (aa)
 refine wk_ (bn_ (qn_ (ws_ (wr_ (e_ mv (k:=e_ mv (k:=?_)))))))
 refine e_ (evq iml (congrArg (Value.int .i64) hcast)) (k:=?_)
 refine e_ iad (k:=?_)
 refine e_ (evq (gn rfl rfl (ns.length*W+7) 8 (aa) rfl (ag) (aq)) (congrArg (fun n:Nat=> Value.int .i64 (n:Int)) hm8.symm)) (k:=?_)
 refine e_ asn (k:=on_ (qn_ (ws_ (?_))))
 refine cX cI (as_ 0 (q:=mv) (k:=as_ 1 (q:=nck) (k:=as_ 2 (q:=fla) (k:=as_ 3 (q:=ldv) (k:=as_ 4 (q:=mv) (k:=as_ 5 (q:=nck) (k:=as_ 6 (q:=fla) (k:=as_ 7 (q:=fla) (k:=as_ 8 (q:=ldv) (k:=as_ 9 (q:=mv) (k:=as_ 10 (q:=nck) (k:=as_ 11 (q:=fla) (k:=as_ 12 (q:=fla) (k:=?_))))))))))))))
 refine as_ 13 (q:=ldv) (k:=as_ 14 (q:=mv) (k:=as_ 15 (q:=iad) (k:=?_)))
 refine cE 16 rfl rfl (a8) rfl (dz (eL rfl (bQ) (k+A+1) (k+A+1+m) ⟨_,_,rfl,rfl⟩ ⟨_,_,rfl,aa⟩ (aa) (aa))) (?_)
 refine as_ 17 (q:=asn) (k:=az_ (k:=qn_ (ws_ (wr_ (e_ mv (k:=?_))))))
 refine s_ (eX eI 0 rfl rfl ns.length ns.length rfl rfl rfl (Nat.le_refl _) (aa) (aa)) (k:=?_)
 rintro _ _ ⟨sl,rfl,hsln,hslc,rfl⟩
 rw[show List.replicate ns.length (0:Int)=eA (cV ns) 0 0 from by rw[kd,hlen]]
 refine e_ asn (k:=on_ (qn_ (ws_ (wr_ (e_ asn (k:=e_ asn (k:=on_ (qn_ (ws_ (ws_ (wr_ (e_ mv (k:=?_)))))))))))))
 have hfl:=ik (full:=cV ns) (z:=(0:Int)) (i:=0) (Yl _)
 refine e_ lnn (k:=e_ mv (k:=on_ (qn_ (wb_ (dt (Nat×Nat) (fun y=> y.1≤ns.length∧y.2=y.1*W) (fun y=> [(13, .int .i64 ((y.2:Nat):Int)),(14, .int .i64 ((orL (ns.take y.1):Nat):Int)),(90, .int .i64 ((y.1:Nat):Int))]) [(0,_),(9,_),(10,_),(11,_),(12,_),(89,_)] (fun y=> [Row sl eI (eA (cV ns) 0 y.1)]) _ (fun y=> ns.length - y.1) ((0,0)) (h0:=?_) (k:=?_))))))
 ·try dsimp only
  exact⟨Yl _,by rw[Nat.zero_mul]⟩
 rintro⟨i,g⟩ ⟨hi,hgW⟩
 try dsimp only[Yd,Ye]at*
 subst hgW
 refine ws_ (wr_ (e_ ilt (k:=on_ (qn_ (ws_ (wi_ (k:=fun h8=>?_) (m:=fun h8=>?_)))))))
 ·obtain⟨x,hx⟩:∃x,ns[i]? =some x:=⟨_,Yi (aa)⟩
  have hxi:=ez hx
  have hx40:=hl x (Yj hx)
  have hiW:i*W≤i*40:=Nat.mul_le_mul_left _ hW40
  have hi1:(i+1)*W≤ns.length*W:=Nat.mul_le_mul_right _ (aa)
  have hi2:(i+1)*W=i*W+W:=by rw[Nat.add_mul,Nat.one_mul]
  have hget:N / 2 ^ (i*W) % 2 ^ W=x:=by rw[hN,Nat.mul_comm];exact Da hx hxW
  have hfi:=ik (full:=cV ns) (z:=(0:Int)) (i:=i) (aa)
  have hfi1:=ik (full:=cV ns) (z:=(0:Int)) (i:=i+1) (aa)
  have hgot:=H6 (z:=(0:Int)) hxi
  have ho:orL (ns.take i)<2 ^ 40:=nQ (ag) fun y hy=> hl y (Yq hy)
  refine wk_ (qn_ (ws_ (wb_ (ws_ (wr_ (e_ mv (k:=e_ asn (k:=on_ (qn_ (ws_ (wr_ (e_ mv (k:=e_ mv (k:=?_))))))))))))))
  refine e_ mv (k:=e_ mv (k:=e_ mv (k:=?_)))
  refine d3_ rfl (Cx (m:=m) (N:=N) (a:=i*W) (w:=W) (aa) hW40 (aa)) (k:=?_)
  rw[hget]
  refine e_ ixa (k:=?_)
  refine s_ (dH (i:=i) rfl rfl rfl (aa)) (k:=?_)
  rintro _ _ ⟨rfl,rfl⟩
  rw[lW hxi]
  refine on_ (qn_ (ws_ (wr_ (e_ mv (k:=e_ mv (k:=?_))))))
  refine e_ (evq iad (congrArg (Value.int .i64) (show _=(((i+1)*W:Nat):Int)from aa))) (k:=?_)
  refine e_ asn (k:=on_ (qn_ (wr_ (e_ mv (k:=e_ mv (k:=e_ mv (k:=e_ ixa (k:=e_ (lel (hy:=hgot)) (k:=?_)))))))))
  refine e_ (evq (wS rfl rfl (orL (ns.take i)) x rfl rfl (aa) (aa)) (congrArg (fun n:Nat=> Value.int .i64 (n:Int)) (yn hx).symm)) (k:=?_)
  refine e_ asn (k:=on_ (bn_ (qn_ (wr_ (e_ iad (k:=e_ mv (k:=on_ (?_))))))))
  refine ln_ ((i+1,(i+1)*W)) (k:=?_)
  try dsimp only
  exact⟨aa,rfl⟩
 obtain rfl:i=ns.length:=aa
 have ho:orL ns<2 ^ 40:=nQ (ag) hl
 rw[List.take_length,show eA (cV ns) (0:Int) ns.length=cV ns from by rw[←hlen,kE]]
 have hend:N / 2 ^ (ns.length*W) % 2 ^ (m*8 - ns.length*W)=0:=by rw[hN,Nat.mul_comm];exact Db hxW _
 refine we_ (qe_ (le_ (bh_ (qn_ (ws_ (ws_ (wr_ (e_ mv (k:=?_)))))))))
 refine e_ (cU 18446744073709551616 rfl rfl rfl (orL ns) rfl (aa)) (k:=?_)
 refine d1_ rfl (NY (aa)) (k:=?_)
 rw[←hW]
 refine e_ mv (k:=?_)
 refine e_ (evq ine (congrArg Value.bool (show _=false from Yr (fun h=> h rfl)))) (k:=?_)
 refine e_ mv (k:=eg_ mv (k:=eg_ mv (k:=eg_ mv (k:=?_))))
 refine eg_ (evq iml (congrArg (Value.int .i64) (show _=((m*8:Nat):Int)from aa))) (k:=?_)
 refine eg_ mv (k:=?_)
 refine eg_ (evq isb (congrArg (Value.int .i64) (show _=((m*8 - ns.length*W:Nat):Int)from aa))) (k:=?_)
 refine sg_ (cW (vs:= [_,_,_]) rfl (Cx (m:=m) (N:=N) (a:=ns.length*W) (w:=m*8 - ns.length*W) (aa) (aa) (aa))) (k:=?_)
 rintro _ _ ⟨rfl,rfl⟩
 rw[hend]
 refine eg_ (evq ine (congrArg Value.bool (show _=false from Yr (fun h=> h rfl)))) (k:=?_)
 refine e_ pkf (k:=on_ (qn_ (eg (k:=wk_ (qn_ (ws_ (wr_ (e_ mv (k:=e_ nck (k:=e_ fla (k:=e_ fla (k:=e_ ldv (k:=e_ mv (k:=?_))))))))))))))
 refine e_ (evq iad (congrArg (Value.int .i64) (show _=((k+A+1+m:Nat):Int)from aa))) (k:=?_)
 refine e_ nck (k:=e_ fla (k:=e_ fla (k:=sto (k:=on_ (qn_ (ws_ (wr_ (e_ mv (k:=e_ asn (k:=e_ asn (k:=on_ (qn_ (wt_ (?_))))))))))))))
 refine rt_ Tryz.results191 (k:=?_)
 rw[hrl]
 exact⟨Row sl eI (cV ns)::Rd b (xs,k+A+1+m)::R,hsb,sl,rfl,by rw[show k+(A+1+m)=k+A+1+m from aa]⟩
theorem BO {G:cK}{H R:cG}{b k most:Nat}{xs ns rest:List Nat} [hg:Glb G R] [hr:Rem H Rd b (xs,k) R] (hn:xs.length≤10000000000) (hb:∀x∈xs,x<256) (h:xs.drop k=dJ ns++rest) (hm:ns.length≤most) (hmo:most≤65536) (hl:∀x∈ns,x<1099511627776):
 SC G Tryz.prog 161 [.pointer (some ⟨b,0,none⟩), .int .i64 ((most:Nat):Int)] H (fun v H'=> ∃s:SV,v= .tuple #[s.val, .nilIface]∧H'=Row s eI (cV ns)::Rd b (xs,k+(dJ ns).length)::R):=by
 refine SC.rem (h:=hr) ?_
 refine sWk Tryz.func161 Tryz.ntmps161 ?_
 refine go ?_
 refine mC b fun s=> ?_
 refine go ?_
 refine du (H':=Rd b (xs,k)::R) (hsb) ?_
 refine go ?_
 refine c2_ rfl (MA hn hb h hm hmo hl) (k:=?_)
 rintro _ _ ⟨s17,rfl,rfl⟩
 refine e_ mv (k:=e_ exr (k:=e_ exr (k:=e_ asn (k:=e_ asn (k:=on_ (qn_ (ws_ (ws_ (wr_ (e_ mv (k:=?_)))))))))))
 refine e_ (cM rfl) (k:=?_)
 refine gk (k:=eg (k:=gk (k:=rt_ Tryz.results161 (k:=?_))))
 exact⟨_,hsb,s17,rfl,rfl⟩
end Go.Sx
