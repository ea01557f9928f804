import Derived.Test.YtefgpomabdplbaaGreatDoorQ22
import Derived.Test.YtefgpomabdplbaaGreatDoorQ11
set_option linter.unusedVariables false
set_option linter.unusedSimpArgs false
set_option linter.unusedSectionVars false
set_option linter.unnecessarySimpa false
set_option maxHeartbeats 0
namespace Go.Sx
open Go Go.Proofs
set_option maxRecDepth 100000
def eh (x:Int) (n:Nat):Bool:=decide (0≤x) && decide (x<(n:Int))
def rI (p:PrG) (n:jT):List Int→List Int→Bool
 | [],_=> true
 |k::r,os=> eh k p.curs.length && eh (os.headD 0) 2147483647 && decide ((match p.curs[k.toNat]? with|some x=> x.1|none=> 0)=(match p.curs[(n.cs.headD 0).toNat]? with|some x=> x.1|none=> 0)) && rI p n r os.tail
def gl (p:PrG) (n:jT):Bool:=decide (1≤n.cs.length) && decide (n.offs.length=n.cs.length) && eh n.slop 2147483647 && rI p n n.cs n.offs
def jx (p:PrG):Option Int→List Int→Bool
 |_, []=> true
 |b,k::r=> eh k p.curs.length && (match b with|none=> true|some x=> decide (x<k)) && jx p (some k) r
def ie (p:PrG):Bool:=decide (1≤p.avgs.length) && decide (p.avgs.length≤16) && p.avgs.all (fun a=> decide (0≤a)) && p.curs.all (fun c=> eh c.1 p.avgs.length && decide (c.2.size≤64)) && p.nears.all (gl p) && !(p.all && decide (0<p.drive.length)) && jx p none p.drive
def p9 (p:PrG) (x:Ins):Bool:=match x.1 with
 | 3=> decide (x.2.1<p.avgs.length)
 | 4=> decide (x.2.1<p.curs.length)
 | 5=> decide (x.2.1<p.nears.length)
 | 14=> decide (1≤x.2.1) && decide (1≤x.2.2) && decide (x.2.2≤x.2.1)
 |_=> true
def iW (x:Ins) (h:Nat):Option Nat:=match x.1 with
 | 1=> some (h+1)
 | 2=> some (h+1)
 | 3=> some (h+1)
 | 4=> some (h+1)
 | 5=> some (h+1)
 | 6=> if 2≤h then some (h - 1)else none
 | 7=> if 2≤h then some (h - 1)else none
 | 8=> if 2≤h then some (h - 1)else none
 | 9=> if 2≤h then some (h - 1)else none
 | 10=> if 2≤h then some (h - 1)else none
 | 14=> if h<x.2.1 then none else some (h - x.2.1+1)
 | 0=> if h=1 then some h else none
 |_=> if 1≤h then some h else none
abbrev Hs:=List (Option Nat)
def jC (hs:Hs) (i h:Nat):Option Hs:=match hs.getD i none with
 |none=> some (hs.set i (some h))
 |some k=> if k=h then some hs else none
def pg (x:Ins):Bool:=decide (x.1=15) ||decide (x.1=16)
def jM (p:PrG) (code:List Ins):Nat→Nat→Hs→Option Hs
 | 0,_,hs=> some hs
 |n+1,i,hs=>
  match iW (code.getD i (0,0,0)) ((hs.getD i none).getD 0)with
  |none=> none
  |some h=>
   if decide (i+1=code.length)=decide ((code.getD i (0,0,0)).1=0)∧p9 p (code.getD i (0,0,0))=true then
        if i+1=code.length then some hs else
        match jC hs (i+1) h with
        |none=> none
        |some hs1=>
         if pg (code.getD i (0,0,0))=true then
          if code.length - 2 - i<(code.getD i (0,0,0)).2.1 then none else
          match jC hs1 (i+1+(code.getD i (0,0,0)).2.1) h with
          |none=> none
          |some hs2=> jM p code n (i+1) hs2
         else jM p code n (i+1) hs1
   else none
def hs0 (n:Nat):Hs:=(List.replicate n none).set 0 (some 0)
def ni (op:Nat):Option Nat:= [0,0,0,1,2,2,0,0,0,0,0,0,1,1,2,1,1][op]?
def n6:Nat→List Nat→Option (List Nat×List Nat)
 | 0,l=> some ([],l)
 |n+1,l=> match gP 0 l with
  | .error _=> none
  | .ok (v,m)=> match n6 n (l.drop m)with
   |none=> none
   |some (vs,r)=> some (v::vs,r)
def Gv (op:Nat) (vs:List Nat):Ins:=(op,vs.getD 0 0,vs.getD 1 0)
def lq:Nat→List Nat→Option (List Ins)
 | 0,_=> some []
 |_+1, []=> some []
 |n+1,op::l=> match ni op with
  |none=> none
  |some k=> match n6 k l with
   |none=> none
   |some (vs,r)=> match lq n r with
    |none=> none
    |some xs=> some (Gv op vs::xs)
def lr (p:PrG):Option (List Ins):=lq p.code.length p.code
def gD (p:PrG):Option Hs:=match lr p with
 |none=> none
 |some code=> if code.length=0∨ie p=false then none else jM p code code.length 0 (hs0 code.length)
structure gW (pss:List (List Po)) (cs:List CuS):Prop where
 same:cs.map (·.ps)=pss
 ok:∀c∈cs,iK c
theorem gW.len {pss:List (List Po)}{cs:List CuS}(h:gW pss cs):cs.length=pss.length:=by rw[←h.same,Yh]
theorem gW.get {pss:List (List Po)}{cs:List CuS}(h:gW pss cs) {k:Nat}{c:CuS}(hk:cs[k]? =some c):iK c:=h.ok c (Yj hk)
theorem gW.set {pss:List (List Po)}{cs:List CuS}(h:gW pss cs) {f:CuS→CuS}(k:Nat) (hf:∀c,iK c→iK (f c)) (hp:∀c,(f c).ps=c.ps):gW pss (cs.set k (f (cs.getD k m5))):=by
 rcases Nat.lt_or_ge k cs.length with hk|hk
 ·have hg:cs[k]? =some cs[k]:=Yi hk
  have hd:cs.getD k m5=cs[k]:=by rw[List.getD_eq_getElem?_getD,hg];all_goals rfl
  rw[hd]
  refine⟨?_,fun c hc=> ?_⟩
  ·rw[←h.same]
   apply List.ext_getElem?
   intro j
   rw[Xd,Xd,List.getElem?_set]
   by_cases hj:k=j
   ·subst hj;rw[if_pos rfl,if_pos hk,hg];simp[hp]
   ·rw[if_neg hj]
  ·rcases List.mem_or_eq_of_mem_set hc with hc|rfl
   ·exact h.ok c hc
   ·exact hf _ (h.get hg)
 ·rw[List.set_eq_of_length_le hk];exact h
theorem tf {d:Int}{c:CuS}(h:iK c):iK (ei d c):=by unfold ei;split;exact h.adv d;exact h
theorem td (d:Int) (c:CuS):(ei d c).ps=c.ps:=by unfold ei;split;exact HJ c d;rfl
theorem ur {pl:Int}{c:CuS}(h:iK c):iK (iH pl c):=by unfold iH;split;exact h.adv _;exact h
theorem uq (pl:Int) (c:CuS):(iH pl c).ps=c.ps:=by unfold iH;split;exact HJ c _;rfl
theorem uC {pss:List (List Po)}{d:Int}:∀{ks:List Int}{cs:List CuS},gW pss cs→gW pss (rQ d ks cs).2
 | [],_,h=> h
 |k::r,cs,h=> by
  have h1:=h.set k.toNat (fun c hc=> tf (d:=d) hc) (fun c=> td d c)
  rw[rQ]
  split
  ·exact uC h1
  ·exact h1
theorem sS {pss:List (List Po)}:∀{ks:List Int}{cs:List CuS},gW pss cs→gW pss (jV ks cs).2
 | [],_,h=> h
 |k::r,cs,h=> sS (ks:=r) (h.set k.toNat (fun c hc=> hc.pos) FI)
theorem EJ {pss:List (List Po)}{c:Cfg}{d a w:Nat}{cs:List CuS}(h:gW pss cs):gW pss (uW c d a w cs).2:=h.set a (fun c hc=> tf hc) (fun c=> td _ c)
theorem Am {pss:List (List Po)}{c:Cfg}{d a w:Nat}{cs:List CuS}(h:gW pss cs):gW pss (mz c d a w cs).2:=by
 unfold mz
 simp only[]
 split
 ·exact uC h
 ·exact sS (uC h)
theorem FO {pss:List (List Po)}{c:Cfg}{d:Nat}{x:Ins}{pc:Nat}{st:List VV}{cs:List CuS}(h:gW pss cs):gW pss (opV c d x pc st cs).2.2:=by
 unfold opV
 split
 all_goals (try simp only[])
 all_goals (first|exact h|exact EJ h|exact Am h)
theorem wu {pss:List (List Po)}{c:Cfg}{d:Nat}:∀(n pc:Nat) (st:List VV) (cs:List CuS) (k:Nat),gW pss cs→gW pss (qL c d n pc st cs k).2.1∧k≤(qL c d n pc st cs k).2.2∧(qL c d n pc st cs k).2.2≤k+n
 | 0,pc,st,cs,k,h=> ⟨h,Nat.le_refl _,Nat.le_refl _⟩
 |n+1,pc,st,cs,k,h=> by
  rw[qL]
  split
  ·exact⟨h,an,an⟩
  ·obtain⟨h1,h2,h3⟩:=wu (c:=c) (d:=d) n _ _ _ (k+1) (FO (c:=c) (d:=d) (x:=jR c pc) (pc:=pc+1) (st:=st) h)
   exact⟨h1,aa,aa⟩
structure jO (c:Cfg) (pss:List (List Po)) (s:MS):Prop where
 cs:gW pss s.cs
 lo: -1≤s.pl
 hi:s.pl<2147483647
 vis:(s.visits:Int)≤s.pl+1
 stp:s.steps≤s.visits*c.ins.length
theorem Em {c:Cfg}{pss:List (List Po)}{s:MS}(h:gW pss s.cs):gW pss (hU c s).2.cs∧(hU c s).2.pl=s.pl∧(hU c s).2.visits=s.visits+1∧s.steps≤(hU c s).2.steps∧(hU c s).2.steps≤s.steps+c.ins.length:=by
 obtain⟨h1,h2,h3⟩:=wu (c:=c) (d:=s.pl.toNat) c.ins.length 0 [] s.cs s.steps h
 exact⟨h1,rfl,rfl,h2,h3⟩
theorem Co {pss:List (List Po)}{pl:Int}:∀{ks:List Int}{cs:List CuS}{le:Int},gW pss cs→gW pss (mU pl ks cs le).1
 | [],_,_,h=> h
 |k::r,cs,le,h=> Co (ks:=r) (h.set k.toNat (fun c hc=> ur hc) (uq pl))
theorem zd {pl:Int}{c:CuS}(h:iK c) (hp:pl+1≤2147483647):pl<gJ (iH pl c).ps (iH pl c).u:=by
 unfold iH
 split
 ·have:=NH h hp;omega
 ·omega
theorem Cq {pss:List (List Po)}{pl:Int}(hp:pl+1≤2147483647):∀{ks:List Int}{cs:List CuS}{le:Int},gW pss cs→(∀k∈ks,0≤k∧k<(pss.length:Int))→pl<le→pl<(mU pl ks cs le).2
 | [],_,_,_,_,hl=> hl
 |k::r,cs,le,h,hk,hl=> by
  obtain⟨h0,h1⟩:=hk k (an)
  have hlt:k.toNat<cs.length:=by rw[h.len];omega
  have hg:cs[k.toNat]? =some cs[k.toNat]:=Yi hlt
  have hd:cs.getD k.toNat m5=cs[k.toNat]:=by rw[List.getD_eq_getElem?_getD,hg];all_goals rfl
  refine Cq hp (ks:=r) (h.set k.toNat (fun c hc=> ur hc) (uq pl)) (fun x hx=> hk x (Xa _ hx)) ?_
  have:=zd (pl:=pl) (h.get hg) hp
  rw[hd];omega
theorem Cp {pl:Int}:∀{ks:List Int}{cs:List CuS}{le:Int},(mU pl ks cs le).2≤le
 | [],_,_=> Int.le_refl _
 |k::r,cs,le=> Int.le_trans (Cp (ks:=r)) (Int.min_le_left _ _)
def l3 (c:Cfg) (n:Nat):Prop:=∀k∈c.p.drive,0≤k∧k<(n:Int)
theorem zD {c:Cfg}{d:Int}(h:ly c d=true):0≤d∧d<(c.ids.length:Int):=by
 unfold ly at h
 simp only[Bool.and_eq_true,decide_eq_true_eq]at h
 omega
theorem vh {c:Cfg}{pss:List (List Po)}(hdr:l3 c pss.length):∀(n:Nat) (pl:Int) (cs:List CuS), -1≤pl→pl<2147483647→gW pss cs→
 gW pss (gf c n pl cs).2.2∧pl≤(gf c n pl cs).2.1∧(gf c n pl cs).2.1<2147483647∧((gf c n pl cs).1=true→pl<(gf c n pl cs).2.1∧ly c (gf c n pl cs).2.1=true)
 | 0,pl,cs,h1,h2,h=> ⟨h,Int.le_refl _,h2,fun h=> aW⟩
 |n+1,pl,cs,h1,h2,h=> by
  have hc:=Co (pl:=pl) (ks:=c.p.drive) (le:=2147483647) h
  have hg:=Cq (pl:=pl) (aa) (le:=2147483647) h hdr (aa)
  have hl:=Cp (pl:=pl) (ks:=c.p.drive) (cs:=cs) (le:=2147483647)
  rw[gf]
  split
  ·exact⟨hc,Int.le_refl _,h2,fun h=> aW⟩
  ·rename_i hne
   split
   ·rename_i ha
    exact⟨hc,Int.le_of_lt hg,by show(mU pl c.p.drive cs 2147483647).2<2147483647;omega,fun _=> ⟨hg,ha⟩⟩
   ·obtain⟨i1,i2,i3,i4⟩:=vh hdr n (mU pl c.p.drive cs 2147483647).2 (mU pl c.p.drive cs 2147483647).1 (aa) (aa) hc
    exact⟨i1,aa,i3,fun h=> ⟨by have:=(i4 h).1;omega,(i4 h).2⟩⟩
theorem JC {c:Cfg}{i d:Nat}(h:tK c i=some d):i≤d∧d<c.ids.length∧c.dead d=false:=by
 unfold tK at h
 have h1:=List.mem_of_find?_eq_some h
 have h2:=List.find?_some h
 obtain⟨j,hj⟩:=List.getElem?_of_mem h1
 rw[Xh]at hj
 have hlt:=(Yk.1 hj).1
 rw[List.length_range]at hlt
 rw[List.getElem?_range hlt]at hj
 obtain rfl:=Option.some.inj hj
 exact⟨aa,hlt,by simpa using h2⟩
theorem q8 {c:Cfg}{pss:List (List Po)}{s:MS}(hdr:l3 c pss.length) (hn:c.ids.length≤2147483647) (h:jO c pss s):jO c pss (er c s).2∧(er c s).2.steps=s.steps∧(er c s).2.visits=s.visits∧s.pl≤(er c s).2.pl∧((er c s).1=true→s.pl<(er c s).2.pl∧ly c (er c s).2.pl=true):=by
 unfold er
 have hlo:=h.lo
 have hhi:=h.hi
 have hv:=h.vis
 split
 ·cases hd:tK c (s.pl+1).toNat with
  |none=> exact⟨h,rfl,rfl,Int.le_refl _,fun h=> aW⟩
  |some d=>
   obtain⟨h1,h2,h3⟩:=JC hd
   refine⟨⟨h.cs,by show(-1:Int)≤(d:Int);omega,by show(d:Int)<2147483647;omega,by show(s.visits:Int)≤(d:Int)+1;omega,h.stp⟩,rfl,rfl,by show s.pl≤(d:Int);omega,fun _=> ⟨by show s.pl<(d:Int);omega,?_⟩⟩
   show ly c (d:Int)=true
   unfold ly
   simp[h2,h3]
 ·obtain⟨i1,i2,i3,i4⟩:=vh hdr 2147483648 s.pl s.cs hlo hhi h.cs
  exact⟨⟨i1,by show(-1:Int)≤(gf c 2147483648 s.pl s.cs).2.1;omega,i3,by show(s.visits:Int)≤(gf c 2147483648 s.pl s.cs).2.1+1;omega,h.stp⟩,rfl,rfl,i2,i4⟩
theorem xy {c:Cfg}{pss:List (List Po)}{s:MS}(hdr:l3 c pss.length) (hn:c.ids.length≤2147483647) (h:jO c pss s) (hy:(er c s).1=true):jO c pss (hU c (er c s).2).2∧s.steps≤(hU c (er c s).2).2.steps∧s.pl<(hU c (er c s).2).2.pl∧ly c (hU c (er c s).2).2.pl=true:=by
 obtain⟨h1,h2,h3,h4,h5⟩:=q8 hdr hn h
 obtain⟨h6,h7⟩:=h5 hy
 obtain⟨v1,v2,v3,v4,v5⟩:=Em (c:=c) h1.cs
 refine⟨⟨v1,by rw[v2];exact h1.lo,by rw[v2];exact h1.hi,?_,?_⟩,aa,by rw[v2];exact h6,by rw[v2];exact h7⟩
 ·rw[v2,v3,h3]
  have:=h.vis
  have:=h1.lo
  omega
 ·rw[v3,Nat.add_mul,Nat.one_mul]
  have:=h1.stp
  omega
theorem qd {c:Cfg}{pss:List (List Po)}(hdr:l3 c pss.length) (hn:c.ids.length≤2147483647):∀(n:Nat) (s:MS),jO c pss s→jO c pss (qU c n s).2∧s.steps≤(qU c n s).2.steps∧s.pl≤(qU c n s).2.pl∧((qU c n s).1≠none→s.pl<(qU c n s).2.pl∧(qU c n s).2.pl<(c.ids.length:Int))
 | 0,s,h=> ⟨h,Nat.le_refl _,Int.le_refl _,fun h=> absurd rfl h⟩
 |n+1,s,h=> by
  obtain⟨h1,h2,h3,h4,h5⟩:=q8 hdr hn h
  rw[qU]
  split
  ·exact⟨h1,by rw[h2];exact Nat.le_refl _,h4,fun h=> absurd rfl h⟩
  ·rename_i hy
   obtain⟨v1,v2,v3,v4⟩:=xy hdr hn h (by simpa using hy)
   split
   ·exact⟨v1,v2,Int.le_of_lt v3,fun _=> ⟨v3,(zD v4).2⟩⟩
   ·obtain⟨i1,i2,i3,i4⟩:=qd hdr hn n _ v1
    exact⟨i1,aa,aa,fun h=> ⟨by have:=(i4 h).1;omega,(i4 h).2⟩⟩
theorem xf {c:Cfg}{pss:List (List Po)}(hdr:l3 c pss.length) (hn:c.ids.length≤2147483647):∀(n:Nat) (s:MS),jO c pss s→jO c pss (kS c n s).2∧s.steps≤(kS c n s).2.steps
 | 0,s,h=> ⟨h,Nat.le_refl _⟩
 |n+1,s,h=> by
  obtain⟨h1,h2,h3,h4⟩:=qd hdr hn (c.ids.length+1) s h
  rw[kS]
  unfold dV
  split
  ·exact⟨h1,h2⟩
  ·obtain⟨i1,i2⟩:=xf hdr hn n _ h1
   exact⟨i1,Xi h2 i2⟩
theorem Fe {c:Cfg}{pss:List (List Po)}(h:∀ps∈pss,fW 0 ps∧e8 ps∧dg ps≤100000000):jO c pss (lh pss):=by
 refine⟨⟨?_,?_⟩,(by decide:(-1:Int)≤ -1),(by decide:(-1:Int)<2147483647),(by decide:((0:Nat):Int)≤ -1+1),Yl _⟩
 ·simp[lh,List.map_map,Function.comp_def]
 ·intro x hx
  obtain⟨ps,hps,rfl⟩:=List.mem_map.1 hx
  obtain⟨h1,h2,h3⟩:=h ps hps
  exact⟨h1,h2,h3,Yl _,Yl _⟩
structure Bh (p:PrG) (code:List Ins) (hs:Hs) (j:Nat):Prop where
 ex:∃h h',hs.getD j none=some h∧iW (code.getD j (0,0,0)) h=some h'∧(j+1=code.length↔(code.getD j (0,0,0)).1=0)∧p9 p (code.getD j (0,0,0))=true∧
  (j+1<code.length→hs.getD (j+1) none=some h'∧(pg (code.getD j (0,0,0))=true→(code.getD j (0,0,0)).2.1≤code.length - 2 - j∧hs.getD (j+1+(code.getD j (0,0,0)).2.1) none=some h'))
theorem vx {hs hs1:Hs}{i h:Nat}(hm:jC hs i h=some hs1) (hi:i<hs.length):hs1.length=hs.length∧hs1.getD i none=some h∧∀j k,hs.getD j none=some k→hs1.getD j none=some k:=by
 unfold jC at hm
 split at hm
 ·rename_i hn
  obtain rfl:=Option.some.inj hm
  refine⟨List.length_set ..,by rw[List.getD_eq_getElem?_getD,List.getElem?_set_self hi];all_goals rfl,fun j k hj=> ?_⟩
  by_cases e:i=j
  ·subst e;rw[hn]at hj;cases hj
  ·rw[List.getD_eq_getElem?_getD,List.getElem?_set_ne e,←List.getD_eq_getElem?_getD];exact hj
 ·rename_i k hk
  split at hm
  ·rename_i e
   obtain rfl:=Option.some.inj hm
   exact⟨rfl,by rw[hk,e],fun _ _ h=> h⟩
  ·cases hm
theorem uA {p:PrG}{code:List Ins}:∀(n i:Nat) (hs hs':Hs),n+i=code.length→hs.length=code.length→(i<code.length→∃h,hs.getD i none=some h)→jM p code n i hs=some hs'→
 (∀j k,hs.getD j none=some k→hs'.getD j none=some k)∧hs'.length=code.length∧∀j,i≤j→j<code.length→Bh p code hs' j
 | 0,i,hs,hs',hn,hl,_,h=> by
  obtain rfl:=Option.some.inj h
  exact⟨fun _ _ h=> h,hl,fun j h1 h2=> aa⟩
 |n+1,i,hs,hs',hn,hl,hi,h=> by
  obtain⟨h0,hh0⟩:=hi (aa)
  rw[jM,hh0,Option.getD_some]at h
  split at h
  ·cases h
  ·rename_i h1 he
   split at h
   ·rename_i hc
    have hlast:(i+1=code.length↔(code.getD i (0,0,0)).1=0):=by simpa using hc.1
    split at h
    ·rename_i hL
     obtain rfl:=Option.some.inj h
     refine⟨fun _ _ h=> h,hl,fun j hj1 hj2=> ?_⟩
     obtain rfl:j=i:=aa
     exact⟨⟨h0,h1,hh0,he,hlast,hc.2,fun hh=> aa⟩⟩
    ·rename_i hL
     split at h
     ·cases h
     ·rename_i hs1 hm1
      obtain⟨a1,a2,a3⟩:=vx hm1 (aa)
      split at h
      ·rename_i hJ
       split at h
       ·cases h
       ·rename_i hA
        split at h
        ·cases h
        ·rename_i hs2 hm2
         obtain⟨b1,b2,b3⟩:=vx hm2 (aa)
         obtain⟨c1,c2,c3⟩:=uA n (i+1) hs2 hs' (aa) (aa) (fun _=> ⟨h1,b3 _ _ a2⟩) h
         refine⟨fun j k hj=> c1 _ _ (b3 _ _ (a3 _ _ hj)),c2,fun j hj1 hj2=> ?_⟩
         by_cases e:j=i
         ·subst e
          exact⟨⟨h0,h1,c1 _ _ (b3 _ _ (a3 _ _ hh0)),he,hlast,hc.2,fun _=> ⟨c1 _ _ (b3 _ _ a2),fun _=> ⟨aa,c1 _ _ b2⟩⟩⟩⟩
         ·exact c3 j (aa) hj2
      ·rename_i hJ
       obtain⟨c1,c2,c3⟩:=uA n (i+1) hs1 hs' (aa) (aa) (fun _=> ⟨h1,a2⟩) h
       refine⟨fun j k hj=> c1 _ _ (a3 _ _ hj),c2,fun j hj1 hj2=> ?_⟩
       by_cases e:j=i
       ·subst e
        exact⟨⟨h0,h1,c1 _ _ (a3 _ _ hh0),he,hlast,hc.2,fun _=> ⟨c1 _ _ a2,fun hJ2=> absurd hJ2 hJ⟩⟩⟩
       ·exact c3 j (aa) hj2
   ·cases h
structure zL (p:PrG) (code:List Ins) (hs:Hs):Prop where
 dec:lr p=some code
 ne:0<code.length
 tab:ie p=true
 at0:hs.getD 0 none=some 0
 step:∀j,j<code.length→Bh p code hs j
theorem vX {p:PrG}{hs:Hs}(h:gD p=some hs):∃code,zL p code hs:=by
 unfold gD at h
 split at h
 ·cases h
 ·rename_i code hc
  split at h
  ·cases h
  ·rename_i hn
   have hne:0<code.length:=Nat.pos_of_ne_zero fun e=> hn (.inl e)
   have ht:ie p=true:=by cases e:ie p with|true=> rfl|false=> exact absurd (.inr e) hn
   have h0:(hs0 code.length).getD 0 none=some 0:=by
    unfold hs0
    rw[List.getD_eq_getElem?_getD,List.getElem?_set_self (by simpa using hne)];all_goals rfl
   obtain⟨c1,c2,c3⟩:=uA code.length 0 _ hs (aa) (by simp[hs0]) (fun _=> ⟨0,h0⟩) h
   exact⟨code,hc,hne,ht,c1 _ _ h0,fun j hj=> c3 j (Yl _) hj⟩
theorem nB {st:List VV}{f:VV→VV→VV}(h:2≤st.length):(kh st f).length=st.length - 1:=by simp[kh];omega
theorem tD {st:List VV}{f:VV→VV}(h:1≤st.length):(nu st f).length=st.length:=by simp[nu];omega
theorem lI {st:List VV}{n:Nat}(v:VV) (h:st.length+1=n):(st++ [v]).length=n:=by rw[Ya,List.length_singleton];exact h
theorem FN {c:Cfg}{hs:Hs}{d pc:Nat}{st:List VV}{cs:List CuS}(hg:Bh c.p c.ins hs pc) (hp:pc<c.ins.length) (hst:hs.getD pc none=some st.length) (h0:(jR c pc).1≠0):
 pc<(opV c d (jR c pc) (pc+1) st cs).1∧(opV c d (jR c pc) (pc+1) st cs).1<c.ins.length∧hs.getD (opV c d (jR c pc) (pc+1) st cs).1 none=some (opV c d (jR c pc) (pc+1) st cs).2.1.length:=by
 obtain⟨h,h',e1,e2,e3,e4,e5⟩:=hg.ex
 rw[hst]at e1
 obtain rfl:=Option.some.inj e1
 have hne:¬pc+1=c.ins.length:=fun e=> h0 (e3.1 e)
 obtain⟨e6,e7⟩:=e5 (aa)
 have fin:∀st':List VV,st'.length=h'→pc<pc+1∧pc+1<c.ins.length∧hs.getD (pc+1) none=some st'.length:=fun st' hl=> ⟨aa,aa,by rw[hl];exact e6⟩
 change iW (jR c pc) st.length=some h' at e2
 change pg (jR c pc)=true→(jR c pc).2.1≤c.ins.length - 2 - pc∧hs.getD (pc+1+(jR c pc).2.1) none=some h' at e7
 clear e3 e4 e5 hg e1
 generalize jR c pc=x at*
 obtain⟨op,A,B⟩:=x
 match op,e2,e7,h0 with
 | 0,_,_,h0=> exact absurd rfl h0
 | 1,e2,_,_=> exact fin _ (lI _ (Option.some.inj e2))
 | 2,e2,_,_=> exact fin _ (lI _ (Option.some.inj e2))
 | 3,e2,_,_=> exact fin _ (lI _ (Option.some.inj e2))
 | 4,e2,_,_=> exact fin _ (lI _ (Option.some.inj e2))
 | 5,e2,_,_=> exact fin _ (lI _ (Option.some.inj e2))
 | 6,e2,_,_=>
  have h2:2≤st.length∧st.length - 1=h':=by
   change (if 2≤st.length then some (st.length - 1)else none)=some h' at e2
   split at e2
   ·exact⟨aH,Option.some.inj e2⟩
   ·cases e2
  exact fin (kh st (fun a b=> (a.1 && b.1,w64 (a.2+b.2)))) ((nB h2.1).trans h2.2)
 | 7,e2,_,_=>
  have h2:2≤st.length∧st.length - 1=h':=by
   change (if 2≤st.length then some (st.length - 1)else none)=some h' at e2
   split at e2
   ·exact⟨aH,Option.some.inj e2⟩
   ·cases e2
  exact fin (kh st (fun a b=> (a.1 ||b.1,w64 (a.2+b.2)))) ((nB h2.1).trans h2.2)
 | 8,e2,_,_=>
  have h2:2≤st.length∧st.length - 1=h':=by
   change (if 2≤st.length then some (st.length - 1)else none)=some h' at e2
   split at e2
   ·exact⟨aH,Option.some.inj e2⟩
   ·cases e2
  exact fin (kh st (fun a b=> (a.1 ||b.1,max a.2 b.2))) ((nB h2.1).trans h2.2)
 | 9,e2,_,_=>
  have h2:2≤st.length∧st.length - 1=h':=by
   change (if 2≤st.length then some (st.length - 1)else none)=some h' at e2
   split at e2
   ·exact⟨aH,Option.some.inj e2⟩
   ·cases e2
  exact fin (kh st (fun a b=> (a.1,w64 (a.2+b.2)))) ((nB h2.1).trans h2.2)
 | 10,e2,_,_=>
  have h2:2≤st.length∧st.length - 1=h':=by
   change (if 2≤st.length then some (st.length - 1)else none)=some h' at e2
   split at e2
   ·exact⟨aH,Option.some.inj e2⟩
   ·cases e2
  exact fin (kh st (fun a b=> (a.1 && !b.1,a.2))) ((nB h2.1).trans h2.2)
 | 11,e2,_,_=>
  have h1:1≤st.length∧st.length=h':=by
   change (if 1≤st.length then some st.length else none)=some h' at e2
   split at e2
   ·exact⟨aH,Option.some.inj e2⟩
   ·cases e2
  exact fin (nu st (fun a=> (!a.1,0))) ((tD h1.1).trans h1.2)
 | 12,e2,_,_=>
  have h1:1≤st.length∧st.length=h':=by
   change (if 1≤st.length then some st.length else none)=some h' at e2
   split at e2
   ·exact⟨aH,Option.some.inj e2⟩
   ·cases e2
  exact fin (nu st (fun a=> (a.1,w64 (a.2*A)))) ((tD h1.1).trans h1.2)
 | 13,e2,_,_=>
  have h1:1≤st.length∧st.length=h':=by
   change (if 1≤st.length then some st.length else none)=some h' at e2
   split at e2
   ·exact⟨aH,Option.some.inj e2⟩
   ·cases e2
  exact fin (nu st (fun a=> if a.1=true then(true,w64 (A*262144))else(false,0))) ((tD h1.1).trans h1.2)
 | 14,e2,_,_=>
  have h1:A≤st.length∧st.length - A+1=h':=by
   change (if st.length<A then none else some (st.length - A+1))=some h' at e2
   split at e2
   ·cases e2
   ·exact⟨aa,Option.some.inj e2⟩
  exact fin _ (lI (st:=st.take (st.length - A)) _ (aA))
 | 15,e2,e7,_=>
  have h1:1≤st.length∧st.length=h':=by
   change (if 1≤st.length then some st.length else none)=some h' at e2
   split at e2
   ·exact⟨aH,Option.some.inj e2⟩
   ·cases e2
  obtain⟨j1,j2⟩:=e7 rfl
  change A≤c.ins.length - 2 - pc at j1
  change hs.getD (pc+1+A) none=some h' at j2
  change pc<(if(fR st).1=true then pc+1 else pc+1+A)∧(if(fR st).1=true then pc+1 else pc+1+A)<c.ins.length∧hs.getD (if(fR st).1=true then pc+1 else pc+1+A) none=some st.length
  rw[h1.2]
  split
  ·exact⟨aa,aa,e6⟩
  ·exact⟨aa,aa,j2⟩
 | 16,e2,e7,_=>
  have h1:1≤st.length∧st.length=h':=by
   change (if 1≤st.length then some st.length else none)=some h' at e2
   split at e2
   ·exact⟨aH,Option.some.inj e2⟩
   ·cases e2
  obtain⟨j1,j2⟩:=e7 rfl
  change A≤c.ins.length - 2 - pc at j1
  change hs.getD (pc+1+A) none=some h' at j2
  change pc<(if(fR st).1=true then pc+1+A else pc+1)∧(if(fR st).1=true then pc+1+A else pc+1)<c.ins.length∧hs.getD (if(fR st).1=true then pc+1+A else pc+1) none=some st.length
  rw[h1.2]
  split
  ·exact⟨aa,aa,j2⟩
  ·exact⟨aa,aa,e6⟩
 |n+17,e2,_,_=>
  have h1:1≤st.length∧st.length=h':=by
   change (if 1≤st.length then some st.length else none)=some h' at e2
   split at e2
   ·exact⟨aH,Option.some.inj e2⟩
   ·cases e2
  exact fin _ h1.2
open Go
def oG (ws:List Nat) (i:Nat):Bool:=(ws.getD (i / 64) 0).testBit (i % 64)
def E3 (ws:List Nat) (i:Nat):List Nat:=ws.set (i / 64) (ws.getD (i / 64) 0 ||| 2 ^ (i % 64))
def okW (ws:List Nat):Prop:=∀x∈ws,x<18446744073709551616
theorem tE {ws:List Nat}(h:okW ws) (i:Nat):ws.getD i 0<18446744073709551616:=by
 rw[List.getD_eq_getElem?_getD]
 cases hi:ws[i]? with
 |none=> simp
 |some x=> exact h x (Yj hi)
theorem L7 {k:Nat}(h:k<64):2 ^ k<18446744073709551616:=by
 have:(18446744073709551616:Nat)=2 ^ 64:=ag
 rw[this];exact Nat.pow_lt_pow_right (ag) h
theorem KC {ws:List Nat}(h:okW ws) (i:Nat):okW (E3 ws i):=fun x hx=> by
 rcases List.mem_or_eq_of_mem_set hx with hx|rfl
 ·exact h x hx
 ·have h1:=tE h (i / 64)
  have h2:=L7 (k:=i % 64) (Nat.mod_lt _ (ag))
  have e:(18446744073709551616:Nat)=2 ^ 64:=ag
  rw[e]at h1 h2⊢
  exact Nat.or_lt_two_pow h1 h2
theorem HK (ws:List Nat) (i:Nat):(E3 ws i).length=ws.length:=List.length_set ..
theorem HB {ws:List Nat}{i:Nat}(h:i / 64<ws.length) (j:Nat):oG (E3 ws i) j=(decide (j=i) ||oG ws j):=by
 unfold oG E3
 by_cases hj:j / 64=i / 64
 ·rw[hj,List.getD_eq_getElem?_getD,List.getElem?_set_self h,Option.getD_some,Nat.testBit_or,Nat.testBit_two_pow,Bool.or_comm]
  congr 1
  exact decide_eq_decide.2 (aa)
 ·rw[List.getD_eq_getElem?_getD,List.getElem?_set_ne (fun h=> hj h.symm),←List.getD_eq_getElem?_getD,Yr (by rintro rfl;exact hj rfl),Bool.false_or]
theorem Kz (x k:Nat):(x / 2 ^ k &&& 1=1)↔x.testBit k=true:=by
 rw[Nat.and_one_is_mod,Nat.testBit_eq_decide_div_mod_eq,decide_eq_true_eq]
structure En where
 key:ByteArray
 docs:Nat
 tot:Nat
 at_:Nat
 size:Nat
def dE:List Nat→List Nat→Nat
 |a::x,b::y=> if a=b then dE x y+1 else 0
 |_,_=> 0
def lZ (prev:List Nat) (e:En):List Nat:=uv (dE prev (cF e.key))++(uv ((cF e.key).length - dE prev (cF e.key))++(cF e.key).drop (dE prev (cF e.key)))++(uv e.docs++uv e.tot++uv e.at_++uv e.size)
def dI:List Nat→List En→List Nat
 |_, []=> []
 |prev,e::r=> lZ prev e++dI (cF e.key) r
def kC (prev:List Nat) (l:List En):List Nat:=match l.getLast? with|none=> prev|some e=> cF e.key
def eC (l:List En) (k:Nat):List En:=(l.take (16*k+16)).drop (16*k)
def dn (l:List En):Nat→List Nat×List Nat
 | 0=> ([], [])
 |k+1=> ((dn l k).1++uv (dI [] (eC l k)).length,(dn l k).2++dI [] (eC l k))
def eQ (l:List En):Nat:=(l.length+15) / 16
def fA (l:List En):List Nat:=uv l.length++(dn l (eQ l)).1++(dn l (eQ l)).2
def rV (l:List En):Prop:=(∀e∈l,1≤e.key.size∧e.key.size≤65∧e.docs≤2147483647∧e.tot≤2147483647∧e.at_≤2147483647∧e.size≤2147483647)∧∀i a b,l[i]? =some a→l[i+1]? =some b→cF a.key<cF b.key
theorem nM (b:List Nat):dE [] b=0:=by cases b <;> rfl
theorem km:∀a b:List Nat,dE a b≤a.length∧dE a b≤b.length
 | [],b=> by simp[nM]
 |a::x, []=> by simp[dE]
 |a::x,b::y=> by
  have:=km x y
  simp only[dE,Yb]
  split <;> omega
theorem pQ:∀a b:List Nat,a.take (dE a b)=b.take (dE a b)
 | [],b=> by simp[nM]
 |a::x, []=> by simp[dE]
 |a::x,b::y=> by
  simp only[dE]
  split
  ·rename_i h;rw[List.take_succ_cons,List.take_succ_cons,pQ x y,h]
  ·simp
theorem mj:∀{a b:List Nat}{k:Nat},k≤a.length→k≤b.length→(∀j,j<k→at0 a j=at0 b j)→(k=a.length∨k=b.length∨at0 a k≠at0 b k)→dE a b=k
 | [],b,k,h1,_,_,_=> by simp at h1;subst h1;exact nM b
 |a::x, [],k,_,h2,_,_=> by simp at h2;subst h2;rfl
 |a::x,b::y,0,_,_,_,h=> by
  rcases h with h|h|h
  ·simp at h
  ·simp at h
  ·simp only[dE];rw[if_neg (by simpa [at0] using h)]
 |a::x,b::y,k+1,h1,h2,hj,h=> by
  have h0:a=b:=by simpa [at0] using hj 0 (aa)
  simp only[dE];rw[if_pos h0]
  rw[mj (a:=x) (b:=y) (k:=k) (by simpa using h1) (by simpa using h2) (fun j hlt=> by simpa [at0] using hj (j+1) (aa)) (by simpa [at0] using h)]
theorem Dk (p:List Nat):kC p []=p:=rfl
theorem Ay (p:List Nat) (l:List En) (e:En):kC p (l++ [e])=cF e.key:=by simp[kC]
theorem Az (p:List Nat) (e:En) (l:List En):kC p (e::l)=kC (cF e.key) l:=by
 cases l with
 |nil=> rfl
 |cons q l=>
  have h:(q::l).getLast? ≠none:=an
  simp only[kC,List.getLast?_cons_cons]
  cases hc:(q::l).getLast? with
  |none=> exact absurd hc h
  |some r=> rfl
theorem ow:∀(a b:List En) (p:List Nat),dI p (a++b)=dI p a++dI (kC p a) b
 | [],b,p=> by simp[dI,Dk]
 |e::a,b,p=> by rw[Yd,dI,ow a b,Az,dI,Yf]
theorem mT {l:List En}{i:Nat}{e:En}(h:l[i]? =some e) (p:List Nat):dI p (l.take (i+1))=dI p (l.take i)++lZ (kC p (l.take i)) e:=by
 rw[cP h,ow];simp[dI]
theorem pe {l:List En}{i:Nat}{e:En}(h:l[i]? =some e) (p:List Nat):kC p (l.take (i+1))=cF e.key:=by
 rw[cP h,Ay]
theorem o6 (l:List En) (k:Nat):(eC l k).length=min (16*k+16) l.length - 16*k:=by simp[eC]
theorem zx (l:List En) (k i:Nat) (h:i<16):(eC l k)[i]? =l[16*k+i]? :=by
 rw[eC,Xh,List.getElem?_take,if_pos (aa)]
theorem zw {l:List En}{k:Nat}{e:En}(h:e∈eC l k):e∈l:=Yq (Yp h)
def jv (l:List En):Prop:=∀e∈l,e.key.size≤1000∧e.docs<1099511627776∧e.tot<1099511627776∧e.at_<1099511627776∧e.size<1099511627776
theorem yY {prev:List Nat}{e:En}(h:e.key.size≤1000∧e.docs<1099511627776∧e.tot<1099511627776∧e.at_<1099511627776∧e.size<1099511627776):(lZ prev e).length≤1040:=by
 have h0:=km prev (cF e.key)
 have hb:=cL e.key
 have h1:=ef (n:=dE prev (cF e.key)) (k:=6) (aa) (aa)
 have h2:=ef (n:=(cF e.key).length - dE prev (cF e.key)) (k:=6) (aa) (aa)
 have h3:=ef (n:=e.docs) (k:=6) h.2.1 (aa)
 have h4:=ef (n:=e.tot) (k:=6) h.2.2.1 (aa)
 have h5:=ef (n:=e.at_) (k:=6) h.2.2.2.1 (aa)
 have h6:=ef (n:=e.size) (k:=6) h.2.2.2.2 (aa)
 simp only[lZ,Ya,Yo];omega
theorem lY:∀{l:List En}{p:List Nat},jv l→(dI p l).length≤1040*l.length
 | [],_,_=> by simp[dI]
 |e::r,p,h=> by
  have h1:=yY (prev:=p) (h e (an))
  have h2:=lY (p:=cF e.key) (fun x hx=> h x (Xa _ hx))
  simp only[dI,Ya,Yb];omega
theorem nL {l:List En}(h:jv l) (k:Nat):jv (eC l k):=fun e he=> h e (zw he)
theorem wj {l:List En}(h:jv l) (i:Nat):jv (l.take i):=fun e he=> h e (Yq he)
theorem mW {l:List En}(h:jv l):∀k,(dn l k).1.length≤6*k∧(dn l k).2.length≤16640*k
 | 0=> by simp[dn]
 |k+1=> by
  obtain⟨h1,h2⟩:=mW h k
  have h3:=lY (p:= []) (nL h k)
  have h4:=o6 l k
  have h5:=ef (n:=(dI [] (eC l k)).length) (k:=6) (aa) (aa)
  simp only[dn,Ya];omega
theorem DL {l:List En}(h:jv l) (hn:l.length<1099511627776):(fA l).length≤20000+1100*l.length:=by
 obtain⟨h1,h2⟩:=mW h (eQ l)
 have h3:=ef (n:=l.length) (k:=6) hn (aa)
 have h5:16*eQ l≤l.length+15:=cq
 simp only[fA,Ya];omega
theorem tH {l:List En}(h:rV l):jv l:=fun e he=> by
 obtain⟨_,h2,h3,h4,h5,h6⟩:=h.1 e he
 exact⟨aa,aa,aa,aa,aa⟩
theorem yW:∀(l:List En) (p:List Nat),∀x∈dI p l,x<256
 | [],_,x,hx=> by simp[dI]at hx
 |e::r,p,x,hx=> by
  simp only[dI,lZ,List.mem_append]at hx
  rcases hx with((hx|hx|hx)|((hx|hx)|hx)|hx)|hx
  ·exact ic _ x hx
  ·exact ic _ x hx
  ·exact k7 _ x (Yp hx)
  ·exact ic _ x hx
  ·exact ic _ x hx
  ·exact ic _ x hx
  ·exact ic _ x hx
  ·exact yW r _ x hx
theorem vR (l:List En):∀k,(∀x∈(dn l k).1,x<256)∧∀x∈(dn l k).2,x<256
 | 0=> by simp[dn]
 |k+1=> by
  obtain⟨h1,h2⟩:=vR l k
  constructor
  ·intro x hx
   rcases List.mem_append.1 hx with hx|hx
   ·exact h1 x hx
   ·exact ic _ x hx
  ·intro x hx
   rcases List.mem_append.1 hx with hx|hx
   ·exact h2 x hx
   ·exact yW _ _ x hx
theorem zj (l:List En):∀x∈fA l,x<256:=by
 intro x hx
 obtain⟨h1,h2⟩:=vR l (eQ l)
 rcases List.mem_append.1 hx with hx|hx
 ·rcases List.mem_append.1 hx with hx|hx
  ·exact ic _ x hx
  ·exact h1 x hx
 ·exact h2 x hx
end Go.Sx
