import Derived.Test.YtefgpomabdplbaaGreatDoorQ45
import Derived.Shelf.Sort.Plain
import Derived.Shelf.Strings.Fields
import Derived.Ground.Names2Prog
import Derived.Shelf.Slices.CompactI
import Derived.Shelf.Slices.In.SortNone
import Derived.Test.YtefgpomabdplbaaGreatDoorProg
set_option linter.unusedVariables false
set_option linter.unusedSimpArgs false
set_option linter.unusedSectionVars false
set_option linter.unnecessarySimpa false
set_option maxHeartbeats 0
namespace Go.Sx
open Go Go.Proofs
set_option maxRecDepth 100000
abbrev pAll (p:PrG) (k:List Nat):PrG:={p with all:=true,drive:= [],code:=k}
def isOne (op:Nat):Bool:=op==11 ||op==12 ||op==13
def xOf (op n:Nat):Ins:=if op=12∨op=13 then(op,n,0)else if op=14 then(op,2,2)else(op,0,0)
theorem xOf_1 (op n:Nat):(xOf op n).1=op:=by
 unfold xOf
 split
 ·rfl
 ·split <;> rfl
def codeJ (op n:Nat) (a b:List Ins):List Ins:=a.dropLast++((if isOne op=true then []else b.dropLast)++ [xOf op n,(0,0,0)])
theorem argV_len:∀(k:Nat) (l:List Nat) (vs:List Nat) (r:List Nat),n6 k l=some (vs,r)→vs.length=k
 | 0,l,vs,r,h=> by cases h;rfl
 |k+1,l,vs,r,h=> by
  rw[n6]at h
  split at h
  ·cases h
  ·split at h
   ·cases h
   ·rename_i us s hu
    cases h
    rw[Yb,argV_len k _ _ _ hu]
theorem argsV_two {op k:Nat}(h:ni op=some k):k≤2:=by
 unfold ni at h
 have hm:=Yj h
 simp only[List.mem_cons,List.not_mem_nil,or_false]at hm
 omega
theorem decV_args:∀(n:Nat) (l:List Nat) (xs:List Ins),lq n l=some xs→∀x∈xs,∃k,ni x.1=some k∧k≤2∧(k<1→x.2.1=0)∧(k<2→x.2.2=0)
 | 0,l,xs,h=> by cases h;simp
 |n+1, [],xs,h=> by cases h;simp
 |n+1,op::l,xs,h=> by
  rw[lq]at h
  split at h
  ·cases h
  ·rename_i k hk
   split at h
   ·cases h
   ·rename_i vs r hv
    split at h
    ·cases h
    ·rename_i ys hy
     cases h
     intro x hx
     rcases List.mem_cons.1 hx with rfl|hx
     ·have hl:=argV_len _ _ _ _ hv
      refine⟨k,hk,argsV_two hk,fun h1=> ?_,fun h1=> ?_⟩
      ·show vs.getD 0 0=0
       rw[List.getD_eq_getElem?_getD,List.getElem?_eq_none (aa)];all_goals rfl
      ·show vs.getD 1 0=0
       rw[List.getD_eq_getElem?_getD,List.getElem?_eq_none (aa)];all_goals rfl
     ·exact decV_args n _ _ hy x hx
theorem dec_insE {p:PrG}{l:List Ins}(hb:∀x∈p.code,x<256) (h:lr p=some l):∀x∈l,InsE x:=fun x hx=>
 ⟨decV_args _ _ _ h x hx,((x7 _ _ _ hb h).1 x hx).1,((x7 _ _ _ hb h).1 x hx).2⟩
theorem xOf_e {op n:Nat}(h6:6≤op) (h14:op≤14) (hn:n<18446744073709551616):InsE (xOf op n):=by
 have:op=6∨op=7∨op=8∨op=9∨op=10∨op=11∨op=12∨op=13∨op=14:=aa
 rcases this with rfl|rfl|rfl|rfl|rfl|rfl|rfl|rfl|rfl
 iterate 6 exact⟨⟨0,rfl,ag,fun _=> rfl,fun _=> rfl⟩,(by show 0<18446744073709551616;decide),(by show 0<18446744073709551616;decide)⟩
 iterate 2 exact⟨⟨1,rfl,ag,fun h=> absurd h (ag),fun _=> rfl⟩,hn,(by show 0<18446744073709551616;decide)⟩
 exact⟨⟨2,rfl,ag,fun h=> absurd h (ag),fun h=> absurd h (ag)⟩,(by show 2<18446744073709551616;decide),(by show 2<18446744073709551616;decide)⟩
theorem codeJ_e {op n:Nat}{a b:List Ins}(h6:6≤op) (h14:op≤14) (hn:n<18446744073709551616) (ha:∀x∈a,InsE x) (hb:∀x∈b,InsE x):∀x∈codeJ op n a b,InsE x:=by
 intro x hx
 unfold codeJ at hx
 rcases List.mem_append.1 hx with hx|hx
 ·exact ha x ((List.dropLast_sublist a).subset hx)
 ·rcases List.mem_append.1 hx with hx|hx
  ·split at hx
   ·cases hx
   ·exact hb x ((List.dropLast_sublist b).subset hx)
  ·rcases List.mem_cons.1 hx with rfl|hx
   ·exact xOf_e h6 h14 hn
   ·rw[List.mem_singleton.1 hx]
    exact⟨⟨0,rfl,ag,fun _=> rfl,fun _=> rfl⟩,ag,ag⟩
theorem codeJ_len {op n:Nat}{a b:List Ins}:(codeJ op n a b).length≤a.length+b.length+2∧0<(codeJ op n a b).length:=by
 unfold codeJ
 simp only[Ya,List.length_dropLast,Yb,Yc]
 split
 ·simp only[Yc];omega
 ·rw[List.length_dropLast];omega
theorem encX_le {x:Ins}(h:InsE x):(encX x).length≤21:=by
 obtain⟨k,hk,hk2,_,_⟩:=h.n
 have h1:=fq (n:=x.2.1) h.a
 have h2:=fq (n:=x.2.2) h.b
 unfold encX
 rw[hk,Option.getD_some,Yb]
 match k,hk2 with
 | 0,_=> show 0+1≤21;omega
 | 1,_=> show(uv x.2.1).length+1≤21;omega
 | 2,_=> show(uv x.2.1++uv x.2.2).length+1≤21;rw[Ya];omega
theorem encC_le:∀{l:List Ins},(∀x∈l,InsE x)→(encC l).length≤21*l.length
 | [],_=> Nat.le_refl _
 |x::l,h=> by
  have h1:=encX_le (h x (List.mem_cons_self ..))
  have h2:=encC_le fun y hy=> h y (Xa _ hy)
  show(encX x++encC l).length≤_
  rw[Ya,Yb]
  omega
theorem encC_byte {l:List Ins}(h:∀x∈l,InsE x):∀b∈encC l,b<256:=by
 intro b hb
 obtain⟨x,hx,hbx⟩:=List.mem_flatMap.1 hb
 obtain⟨k,hk,hk2,_,_⟩:=(h x hx).n
 unfold encX at hbx
 rw[hk,Option.getD_some]at hbx
 rcases List.mem_cons.1 hbx with rfl|hbx
 ·unfold ni at hk
  have:=(Yk.1 hk).1
  simp only[Yb,Yc]at this
  omega
 ·match k,hk2 with
  | 0,_=> cases hbx
  | 1,_=> exact ic _ _ hbx
  | 2,_=>
   rcases List.mem_append.1 hbx with hbx|hbx
   ·exact ic _ _ hbx
   ·exact ic _ _ hbx
theorem eff_x {op n:Nat}(h6:6≤op) (h14:op≤14):iW (xOf op n) (if isOne op=true then 1 else 2)=some 1∧(xOf op n).1≠0∧pg (xOf op n)=false∧∀p,p9 p (xOf op n)=true:=by
 have:op=6∨op=7∨op=8∨op=9∨op=10∨op=11∨op=12∨op=13∨op=14:=aa
 rcases this with rfl|rfl|rfl|rfl|rfl|rfl|rfl|rfl|rfl <;> exact⟨rfl,by rw[xOf_1];decide,rfl,fun p=> rfl⟩
section
variable {p:PrG}{q:PtD}{k1 k2:List Nat}{a b:List Ins}{op n:Nat}
theorem near_code (k k':List Nat) (n:jT):∀cs os:List Int,rI (pAll p k) n cs os=rI (pAll p k') n cs os
 | [],_=> rfl
 |c::cs,os=> by rw[rI,rI,near_code k k' n cs os.tail]
theorem tab_code (k k':List Nat):ie (pAll p k)=ie (pAll p k'):=by
 have e:gl (pAll p k)=gl (pAll p k'):=funext fun n=> by unfold gl;rw[near_code k k']
 unfold ie
 rw[e]
 all_goals rfl
theorem newR_g (h:nv (pAll p k1) q= .ok a):0<a.length∧ie (pAll p [])=true∧q.fs.length=p.avgs.length∧∃g:Nat→Nat,g 0=0∧∀i,i<a.length→StepG (pAll p []) a g i:=by
 obtain⟨⟨tb,_,hg⟩,h2,h3⟩:=JD h
 obtain⟨g,g0,_,g2⟩:=step_g hg
 refine⟨hg.ne,by rw[tab_code [] k1];exact hg.tab,h2,g,g0,fun i hi=> ?_⟩
 have:=g2 i hi
 exact⟨this.eff,this.last,this.oper,this.jump⟩
theorem newR_J (h6:6≤op) (h14:op≤14) (hn:n<18446744073709551616) (hb1:∀x∈k1,x<256) (hb2:∀x∈k2,x<256) (ha:nv (pAll p k1) q= .ok a) (hb:nv (pAll p k2) q= .ok b):nv (pAll p (encC (codeJ op n a b))) q= .ok (codeJ op n a b):=by
 obtain⟨a0,ht,hfl,ga,ga0,hGa⟩:=newR_g ha
 obtain⟨b0,_,_,gb,gb0,hGb⟩:=newR_g hb
 obtain⟨x1,x2,x3,x4⟩:=eff_x (n:=n) h6 h14
 have hE:=codeJ_e h6 h14 hn (dec_insE (p:=pAll p k1) hb1 (JD ha).2.2) (dec_insE (p:=pAll p k2) hb2 (JD hb).2.2)
 have hd:lr (pAll p (encC (codeJ op n a b)))=some (codeJ op n a b):=code_enc (p:=pAll p []) hE
 obtain⟨g,g0,hG⟩:∃g:Nat→Nat,g 0=0∧∀i,i<(codeJ op n a b).length→StepG (pAll p []) (codeJ op n a b) g i:=by
  unfold codeJ
  cases ho:isOne op with
  |true=>
   rw[ho]at x1
   simp only[if_true,Ye]
   exact one_g a0 hGa ga0 x1 x2 x3 (x4 _)
  |false=>
   rw[ho]at x1
   simp only[Bool.false_eq_true,if_false]
   exact two_g a0 b0 hGa hGb ga0 gb0 x1 x2 x3 (x4 _)
 obtain⟨hs,hck⟩:=checkP_full (p:=pAll p (encC (codeJ op n a b))) hd codeJ_len.2 (by rw[tab_code _ []];exact ht) g0 (fun i hi=> ⟨(hG i hi).eff,(hG i hi).last,(hG i hi).oper,(hG i hi).jump⟩)
 rw[nv,hck]
 simp only
 rw[if_pos hfl,hd]
abbrev cfA (p:PrG) (q:PtD):Cfg:=cS (pAll p []) q []
theorem opS_tab {c c':Cfg}{pss:List (List Po)}{d:Nat}{x:Ins}{pc:Nat}{st:List VV}(h1:c.p.avgs=c'.p.avgs) (h2:c.p.curs=c'.p.curs) (h3:c.p.nears=c'.p.nears) (h4:c.lens=c'.lens):opS c pss d x pc st=opS c' pss d x pc st:=by
 obtain⟨i,⟨av,cu,ne,al,dr,co⟩,le,id,de⟩:=c
 obtain⟨i',⟨av',cu',ne',al',dr',co'⟩,le',id',de'⟩:=c'
 dsimp only at h1 h2 h3 h4
 subst h1 h2 h3 h4
 obtain⟨o,A,B⟩:=x
 match o with
 | 0=> rfl
 | 1=> rfl
 | 2=> rfl
 | 3=> rfl
 | 4=> rfl
 | 5=> rfl
 | 6=> rfl
 | 7=> rfl
 | 8=> rfl
 | 9=> rfl
 | 10=> rfl
 | 11=> rfl
 | 12=> rfl
 | 13=> rfl
 | 14=> rfl
 | 15=> rfl
 | 16=> rfl
 |n+17=> rfl
theorem runG_tab {c c':Cfg}{pss:List (List Po)}{d:Nat}{C:List Ins}(h1:c.p.avgs=c'.p.avgs) (h2:c.p.curs=c'.p.curs) (h3:c.p.nears=c'.p.nears) (h4:c.lens=c'.lens):∀(n pc:Nat) (st:List VV),runG c pss d C n pc st=runG c' pss d C n pc st
 | 0,_,_=> rfl
 |n+1,pc,st=> by rw[runG,runG,opS_tab h1 h2 h3 h4,runG_tab h1 h2 h3 h4]
def valA (p:PrG) (q:PtD) (C:List Ins) (d:Nat):VV:=runG (cfA p q) (iQ p q) d C C.length 0 []
theorem valA_ok (C:List Ins) (d:Nat):VOk (valA p q C d):=runG_ok _ _ _ fun v hv=> by cases hv
theorem value_J (h6:6≤op) (h14:op≤14) (ha:nv (pAll p k1) q= .ok a) (hb:nv (pAll p k2) q= .ok b) (d:Nat):valA p q (codeJ op n a b) d=valS op n (valA p q a d) (valA p q b d):=by
 obtain⟨a0,ht,hfl,ga,ga0,hGa⟩:=newR_g ha
 obtain⟨b0,_,_,gb,gb0,hGb⟩:=newR_g hb
 obtain⟨x1,x2,x3,x4⟩:=eff_x (n:=n) h6 h14
 have va:=valA_ok (p:=p) (q:=q) a d
 have h1:isOne op=true→valA p q (codeJ op n a b) d=fR (opS (cfA p q) (iQ p q) d (xOf op n) 0 [valA p q a d]).2:=fun ho=> by
  unfold valA codeJ
  rw[ho]
  simp only[if_true,Ye]
  exact join_one a0 ga0 hGa x2 x3
 have h2:isOne op=false→valA p q (codeJ op n a b) d=fR (opS (cfA p q) (iQ p q) d (xOf op n) 0 [valA p q a d,valA p q b d]).2:=fun ho=> by
  unfold valA codeJ
  rw[ho]
  simp only[Bool.false_eq_true,if_false]
  exact join_two a0 b0 ga0 gb0 hGa hGb x2 x3
 have:op=6∨op=7∨op=8∨op=9∨op=10∨op=11∨op=12∨op=13∨op=14:=aa
 rcases this with rfl|rfl|rfl|rfl|rfl|rfl|rfl|rfl|rfl
 ·rw[h2 rfl];exact val6
 ·rw[h2 rfl];exact val7
 ·rw[h2 rfl];exact val8
 ·rw[h2 rfl];exact val9
 ·rw[h2 rfl];exact val10
 ·rw[h1 rfl];exact val11
 ·rw[h1 rfl];exact val12 va
 ·rw[h1 rfl];exact val13
 ·rw[h2 rfl];exact val14 va
def liveQ (q:PtD):List Nat:=(List.range q.ds.length).filter fun d=> !oG q.dw d
def idQ (q:PtD) (d:Nat):Int:=(q.ds.map (·.1)).getD d 0
def hitA (p:PrG) (q:PtD) (C:List Ins) (d:Nat):Option Hit:=if(valA p q C d).1=true then some (idQ q d,(valA p q C d).2)else none
theorem runs_A {C:List Ins}{k:List Nat}(hn:q.ds.length≤2147483647):(Fx (cS (pAll p k) q C) (lh (iQ (pAll p k) q))).1=(liveQ q).filterMap (hitA p q C):=by
 rw[run_sem (c:=cS (pAll p k) q C) (pss:=iQ (pAll p k) q) rfl (by show(q.ds.map (·.1)).length≤_;rw[Yh];exact hn)]
 have hl:liveC (cS (pAll p k) q C)=liveQ q:=by
  unfold liveC liveQ cS
  rw[Yh]
 rw[hl]
 have e:hitS (cS (pAll p k) q C) (iQ (pAll p k) q)=hitA p q C:=funext fun d=> by
  unfold hitS hitA valA
  rw[runS_g]
  have e2:runG (cS (pAll p k) q C) (iQ p q) d C C.length 0 []=runG (cfA p q) (iQ p q) d C C.length 0 []:=runG_tab (c:=cS (pAll p k) q C) (c':=cfA p q) rfl rfl rfl rfl _ _ _
  rw[←e2]
  all_goals rfl
 rw[e]
def valR (op n:Nat) (a b:VV):VV:=match op with
 | 6=> (a.1 && b.1,w64 (a.2+b.2))
 | 7=> (a.1 ||b.1,w64 (a.2+b.2))
 | 8=> (a.1 ||b.1,max a.2 b.2)
 | 9=> (a.1,w64 (a.2+b.2))
 | 10=> (a.1 && !b.1,a.2)
 | 11=> (!a.1,0)
 | 12=> (a.1,w64 (a.2*n))
 | 13=> (a.1,w64 (n*262144))
 |_=> (a.1 && b.1,w64 (a.2+b.2))
theorem valS_R {a b:VV}(h6:6≤op) (h14:op≤14):valS op n a b=nrmV (valR op n a b):=by
 have:op=6∨op=7∨op=8∨op=9∨op=10∨op=11∨op=12∨op=13∨op=14:=aa
 rcases this with rfl|rfl|rfl|rfl|rfl|rfl|rfl|rfl|rfl
 iterate 5 rfl
 ·obtain⟨x,s⟩:=a
  cases x <;> rfl
 iterate 3 rfl
def hitR (p:PrG) (q:PtD) (op n:Nat) (a b:List Ins) (d:Nat):Option Hit:=if(valR op n (valA p q a d) (valA p q b d)).1=true then some (idQ q d,(valR op n (valA p q a d) (valA p q b d)).2)else none
theorem hit_J (h6:6≤op) (h14:op≤14) (ha:nv (pAll p k1) q= .ok a) (hb:nv (pAll p k2) q= .ok b):hitA p q (codeJ op n a b)=hitR p q op n a b:=funext fun d=> by
 unfold hitA hitR
 rw[value_J h6 h14 ha hb,valS_R h6 h14]
 unfold nrmV
 dsimp only
 cases h:(valR op n (valA p q a d) (valA p q b d)).1 <;> rfl
end
open Go
end Go.Sx
namespace Go.Proofs
open Go.Sx
open Go.Shelf
def Tryz.lays189_ren:Go.Shelf.Ren:=⟨fun| 189=> 166| 125=> 179| 257=> 194| 128=> 206| 129=> 207| 294=> 211| 295=> 212| 296=> 213| 297=> 214| 298=> 215| 299=> 216| 216=> 217| 300=> 218| 301=> 219| 328=> 233| 329=> 234| 330=> 235| 331=> 236| 332=> 237| 215=> 238| 343=> 246|n=> n,fun| 28=> 28| 3=> 3| 46=> 94| 0=> 0| 51=> 267| 53=> 54| 4=> 4| 183=> 331| 182=> 330| 131=> 108| 5=> 5| 9=> 9| 218=> 353| 222=> 326| 228=> 361| 229=> 362|n=> n,fun|n=> n⟩
theorem qy:Go.Proofs.Lays.n189 Tryz.prog Tryz.lays189_ren:={
 mixed:=a8
 f125:=Tryz.func179.trans (congrArg some (a8))
 f128:=Tryz.func206.trans (congrArg some (a8))
 f129:=Tryz.func207.trans (congrArg some (a8))
 f189:=Tryz.func166.trans (congrArg some (a8))
 f215:=Tryz.func238.trans (congrArg some (a8))
 f216:=Tryz.func217.trans (congrArg some (a8))
 f257:=Tryz.func194.trans (congrArg some (a8))
 f294:=Tryz.func211.trans (congrArg some (a8))
 f295:=Tryz.func212.trans (congrArg some (a8))
 f296:=Tryz.func213.trans (congrArg some (a8))
 f297:=Tryz.func214.trans (congrArg some (a8))
 f298:=Tryz.func215.trans (congrArg some (a8))
 f299:=Tryz.func216.trans (congrArg some (a8))
 f300:=Tryz.func218.trans (congrArg some (a8))
 f301:=Tryz.func219.trans (congrArg some (a8))
 f328:=Tryz.func233.trans (congrArg some (a8))
 f329:=Tryz.func234.trans (congrArg some (a8))
 f330:=Tryz.func235.trans (congrArg some (a8))
 f331:=Tryz.func236.trans (congrArg some (a8))
 f332:=Tryz.func237.trans (congrArg some (a8))
 f343:=Tryz.func246.trans (congrArg some (a8))
 t0:=Tryz.underlying0
 a0:=Tryz.isAgg0
 z0:=Tryz.sizeOf0
 v0:=Tryz.zeroValue0
 t3:=Tryz.underlying3
 a3:=Tryz.isAgg3
 z3:=Tryz.sizeOf3
 v3:=Tryz.zeroValue3
 t4:=Tryz.underlying4
 a4:=Tryz.isAgg4
 z4:=Tryz.sizeOf4
 v4:=Tryz.zeroValue4
 t5:=Tryz.underlying5
 a5:=Tryz.isAgg5
 z5:=Tryz.sizeOf5
 v5:=Tryz.zeroValue5
 t9:=Tryz.underlying9
 a9:=Tryz.isAgg9
 z9:=Tryz.sizeOf9
 v9:=Tryz.zeroValue9
 t28:=Tryz.underlying28
 a28:=Tryz.isAgg28
 z28:=Tryz.sizeOf28
 v28:=Tryz.zeroValue28
 t46:=Tryz.underlying94
 a46:=Tryz.isAgg94
 z46:=Tryz.sizeOf94
 v46:=Tryz.zeroValue94
 t51:=Tryz.underlying267
 a51:=Tryz.isAgg267
 z51:=Tryz.sizeOf267
 v51:=Tryz.zeroValue267
 t53:=Tryz.underlying54
 a53:=Tryz.isAgg54
 z53:=Tryz.sizeOf54
 v53:=Tryz.zeroValue54
 t131:=Tryz.underlying108
 a131:=Tryz.isAgg108
 z131:=Tryz.sizeOf108
 v131:=Tryz.zeroValue108
 t182:=Tryz.underlying330
 a182:=Tryz.isAgg330
 z182:=Tryz.sizeOf330
 v182:=Tryz.zeroValue330
 t183:=Tryz.underlying331
 a183:=Tryz.isAgg331
 z183:=Tryz.sizeOf331
 v183:=Tryz.zeroValue331
 t218:=Tryz.underlying353
 a218:=Tryz.isAgg353
 z218:=Tryz.sizeOf353
 v218:=Tryz.zeroValue353
 t222:=Tryz.underlying326
 a222:=Tryz.isAgg326
 z222:=Tryz.sizeOf326
 v222:=Tryz.zeroValue326
 t228:=Tryz.underlying361
 a228:=Tryz.isAgg361
 z228:=Tryz.sizeOf361
 v228:=Tryz.zeroValue361
 t229:=Tryz.underlying362
 a229:=Tryz.isAgg362
 z229:=Tryz.sizeOf362
 v229:=Tryz.zeroValue362}
open Go.Sort Go.RowKit in
theorem Tryz.slices_Sort_int (blk off cap:Nat) (zs:List Int) (w:World) (hH:Holds (Value.int .i64) w blk off zs.toArray) (hblk:blk<w.heap.size) (hsz:zs.length<4611686018427387904):
 Calls Tryz.prog 166 #[.slice (some ⟨blk,off,none⟩) zs.length cap] w fun e w'=>
  e= .returned (.tuple #[])∧∃n os,w'=grow (putRow (Value.int .i64) (Sort.ahead w n) blk off (zs.mergeSort fun x y=> decide (x≤y)).toArray) os:=Any.slices_Sort_int qy blk off cap zs w hH hblk hsz
def Tryz.lays190_ren:Go.Shelf.Ren:=⟨fun| 190=> 173| 125=> 179| 258=> 201| 128=> 206| 129=> 207| 302=> 223| 303=> 224| 304=> 225| 305=> 226| 306=> 227| 307=> 228| 308=> 229| 309=> 230| 310=> 231| 333=> 241| 329=> 234| 330=> 235| 334=> 242| 335=> 243| 336=> 244| 344=> 249|n=> n,fun| 31=> 288| 9=> 9| 3=> 3| 46=> 94| 0=> 0| 51=> 267| 53=> 54| 4=> 4| 183=> 331| 182=> 330| 131=> 108| 5=> 5| 218=> 353| 222=> 326| 228=> 361| 229=> 362|n=> n,fun|n=> n⟩
theorem qx:Go.Proofs.Lays.n190 Tryz.prog Tryz.lays190_ren:={
 mixed:=a8
 f125:=Tryz.func179.trans (congrArg some (a8))
 f128:=Tryz.func206.trans (congrArg some (a8))
 f129:=Tryz.func207.trans (congrArg some (a8))
 f190:=Tryz.func173.trans (congrArg some (a8))
 f258:=Tryz.func201.trans (congrArg some (a8))
 f302:=Tryz.func223.trans (congrArg some (a8))
 f303:=Tryz.func224.trans (congrArg some (a8))
 f304:=Tryz.func225.trans (congrArg some (a8))
 f305:=Tryz.func226.trans (congrArg some (a8))
 f306:=Tryz.func227.trans (congrArg some (a8))
 f307:=Tryz.func228.trans (congrArg some (a8))
 f308:=Tryz.func229.trans (congrArg some (a8))
 f309:=Tryz.func230.trans (congrArg some (a8))
 f310:=Tryz.func231.trans (congrArg some (a8))
 f329:=Tryz.func234.trans (congrArg some (a8))
 f330:=Tryz.func235.trans (congrArg some (a8))
 f333:=Tryz.func241.trans (congrArg some (a8))
 f334:=Tryz.func242.trans (congrArg some (a8))
 f335:=Tryz.func243.trans (congrArg some (a8))
 f336:=Tryz.func244.trans (congrArg some (a8))
 f344:=Tryz.func249.trans (congrArg some (a8))
 t0:=Tryz.underlying0
 a0:=Tryz.isAgg0
 z0:=Tryz.sizeOf0
 v0:=Tryz.zeroValue0
 t3:=Tryz.underlying3
 a3:=Tryz.isAgg3
 z3:=Tryz.sizeOf3
 v3:=Tryz.zeroValue3
 t4:=Tryz.underlying4
 a4:=Tryz.isAgg4
 z4:=Tryz.sizeOf4
 v4:=Tryz.zeroValue4
 t5:=Tryz.underlying5
 a5:=Tryz.isAgg5
 z5:=Tryz.sizeOf5
 v5:=Tryz.zeroValue5
 t9:=Tryz.underlying9
 a9:=Tryz.isAgg9
 z9:=Tryz.sizeOf9
 v9:=Tryz.zeroValue9
 t31:=Tryz.underlying288
 a31:=Tryz.isAgg288
 z31:=Tryz.sizeOf288
 v31:=Tryz.zeroValue288
 t46:=Tryz.underlying94
 a46:=Tryz.isAgg94
 z46:=Tryz.sizeOf94
 v46:=Tryz.zeroValue94
 t51:=Tryz.underlying267
 a51:=Tryz.isAgg267
 z51:=Tryz.sizeOf267
 v51:=Tryz.zeroValue267
 t53:=Tryz.underlying54
 a53:=Tryz.isAgg54
 z53:=Tryz.sizeOf54
 v53:=Tryz.zeroValue54
 t131:=Tryz.underlying108
 a131:=Tryz.isAgg108
 z131:=Tryz.sizeOf108
 v131:=Tryz.zeroValue108
 t182:=Tryz.underlying330
 a182:=Tryz.isAgg330
 z182:=Tryz.sizeOf330
 v182:=Tryz.zeroValue330
 t183:=Tryz.underlying331
 a183:=Tryz.isAgg331
 z183:=Tryz.sizeOf331
 v183:=Tryz.zeroValue331
 t218:=Tryz.underlying353
 a218:=Tryz.isAgg353
 z218:=Tryz.sizeOf353
 v218:=Tryz.zeroValue353
 t222:=Tryz.underlying326
 a222:=Tryz.isAgg326
 z222:=Tryz.sizeOf326
 v222:=Tryz.zeroValue326
 t228:=Tryz.underlying361
 a228:=Tryz.isAgg361
 z228:=Tryz.sizeOf361
 v228:=Tryz.zeroValue361
 t229:=Tryz.underlying362
 a229:=Tryz.isAgg362
 z229:=Tryz.sizeOf362
 v229:=Tryz.zeroValue362}
open Go.Sort Go.RowKit in
theorem Tryz.slices_Sort_string (blk off cap:Nat) (ss:List (List UInt8)) (w:World) (hH:Holds encStr w blk off ss.toArray) (hblk:blk<w.heap.size) (hsz:ss.length<4611686018427387904):
 Calls Tryz.prog 173 #[.slice (some ⟨blk,off,none⟩) ss.length cap] w fun e w'=>
  e= .returned (.tuple #[])∧∃n os,w'=grow (putRow encStr (Sort.ahead w n) blk off (ss.mergeSort fun x y=> decide (x≤y)).toArray) os:=Any.slices_Sort_string qx blk off cap ss w hH hblk hsz
def Tryz.lays157_ren:Go.Shelf.Ren:=⟨fun| 157=> 240| 229=> 247| 199=> 248| 261=> 250| 311=> 251| 312=> 252|n=> n,fun| 9=> 9| 31=> 288| 3=> 3| 5=> 5| 4=> 4| 119=> 364| 0=> 0| 40=> 366| 152=> 368| 21=> 21| 154=> 370| 51=> 267| 141=> 372| 196=> 376| 193=> 373| 198=> 379| 49=> 377| 194=> 374| 201=> 382| 226=> 384| 46=> 94| 227=> 385|n=> n,fun| 0=> 26| 6=> 28|n=> n⟩
theorem xg:Go.Proofs.Lays.n157 Tryz.prog Tryz.lays157_ren:={
 mixed:=a8
 f157:=Tryz.func240.trans (congrArg some (a8))
 f199:=Tryz.func248.trans (congrArg some (a8))
 f229:=Tryz.func247.trans (congrArg some (a8))
 f261:=Tryz.func250.trans (congrArg some (a8))
 f311:=Tryz.func251.trans (congrArg some (a8))
 f312:=Tryz.func252.trans (congrArg some (a8))
 t0:=Tryz.underlying0
 a0:=Tryz.isAgg0
 z0:=Tryz.sizeOf0
 v0:=Tryz.zeroValue0
 t3:=Tryz.underlying3
 a3:=Tryz.isAgg3
 z3:=Tryz.sizeOf3
 v3:=Tryz.zeroValue3
 t4:=Tryz.underlying4
 a4:=Tryz.isAgg4
 z4:=Tryz.sizeOf4
 v4:=Tryz.zeroValue4
 t5:=Tryz.underlying5
 a5:=Tryz.isAgg5
 z5:=Tryz.sizeOf5
 v5:=Tryz.zeroValue5
 t9:=Tryz.underlying9
 a9:=Tryz.isAgg9
 z9:=Tryz.sizeOf9
 v9:=Tryz.zeroValue9
 t21:=Tryz.underlying21
 a21:=Tryz.isAgg21
 z21:=Tryz.sizeOf21
 v21:=Tryz.zeroValue21
 t31:=Tryz.underlying288
 a31:=Tryz.isAgg288
 z31:=Tryz.sizeOf288
 v31:=Tryz.zeroValue288
 t40:=Tryz.underlying366
 a40:=Tryz.isAgg366
 z40:=Tryz.sizeOf366
 v40:=Tryz.zeroValue366
 t46:=Tryz.underlying94
 a46:=Tryz.isAgg94
 z46:=Tryz.sizeOf94
 v46:=Tryz.zeroValue94
 t49:=Tryz.underlying377
 a49:=Tryz.isAgg377
 z49:=Tryz.sizeOf377
 v49:=Tryz.zeroValue377
 t51:=Tryz.underlying267
 a51:=Tryz.isAgg267
 z51:=Tryz.sizeOf267
 v51:=Tryz.zeroValue267
 t119:=Tryz.underlying364
 a119:=Tryz.isAgg364
 z119:=Tryz.sizeOf364
 t141:=Tryz.underlying372
 a141:=Tryz.isAgg372
 z141:=Tryz.sizeOf372
 v141:=Tryz.zeroValue372
 t152:=Tryz.underlying368
 a152:=Tryz.isAgg368
 z152:=Tryz.sizeOf368
 v152:=Tryz.zeroValue368
 t154:=Tryz.underlying370
 a154:=Tryz.isAgg370
 z154:=Tryz.sizeOf370
 v154:=Tryz.zeroValue370
 t193:=Tryz.underlying373
 a193:=Tryz.isAgg373
 z193:=Tryz.sizeOf373
 v193:=Tryz.zeroValue373
 t194:=Tryz.underlying374
 a194:=Tryz.isAgg374
 z194:=Tryz.sizeOf374
 v194:=Tryz.zeroValue374
 t196:=Tryz.underlying376
 a196:=Tryz.isAgg376
 z196:=Tryz.sizeOf376
 v196:=Tryz.zeroValue376
 t198:=Tryz.underlying379
 a198:=Tryz.isAgg379
 z198:=Tryz.sizeOf379
 v198:=Tryz.zeroValue379
 t201:=Tryz.underlying382
 a201:=Tryz.isAgg382
 z201:=Tryz.sizeOf382
 v201:=Tryz.zeroValue382
 t226:=Tryz.underlying384
 a226:=Tryz.isAgg384
 z226:=Tryz.sizeOf384
 v226:=Tryz.zeroValue384
 t227:=Tryz.underlying385
 a227:=Tryz.isAgg385
 z227:=Tryz.sizeOf385
 v227:=Tryz.zeroValue385
 g0:=a8
 g6:=a8}
open Go.RowKit Go.Lib in
theorem Tryz.strings_Fields (s:ByteArray) (w:World) (hs:s.size<4294967281) (hascii:∀(j:Nat) b,s.data.toList[j]? =some b→b.toNat<128) (htab:Lib.TabIs Tryz.prog w "strings.asciiSpace" .u8 Lib.asciiSpaceTab):
 Calls Tryz.prog 240 #[.string s] w fun e w'=>
  e= .returned (.slice (some ⟨w.heap.size,0,none⟩) (Lib.fields s.data.toList).length (Lib.fields s.data.toList).length)∧w'=w.alloc (.cells ((Lib.fields s.data.toList).map fun l=> Value.string ⟨l.toArray⟩).toArray 9):=Any.strings_Fields xg (a8) (a8) s w hs hascii htab
def Tryz.laysNm220_ren:Go.Shelf.Ren:=⟨fun| 20=> 168|n=> n,fun| 22=> 28| 3=> 3| 4=> 4| 0=> 0|n=> n,fun|n=> n⟩
theorem o7:Go.Proofs.Lays2.n20 Tryz.prog Tryz.laysNm220_ren:={
 mixed:=a8
 f20:=Tryz.func168.trans (congrArg some (a8))
 t0:=Tryz.underlying0
 a0:=Tryz.isAgg0
 z0:=Tryz.sizeOf0
 v0:=Tryz.zeroValue0
 t3:=Tryz.underlying3
 a3:=Tryz.isAgg3
 z3:=Tryz.sizeOf3
 v3:=Tryz.zeroValue3
 t4:=Tryz.underlying4
 a4:=Tryz.isAgg4
 z4:=Tryz.sizeOf4
 v4:=Tryz.zeroValue4
 t22:=Tryz.underlying28
 a22:=Tryz.isAgg28
 z22:=Tryz.sizeOf28
 v22:=Tryz.zeroValue28
 i3:=a8}
open Go.RowKit Go.Lib Go.Sort in
theorem Tryz.slices_Compact_int (blk off cap:Nat) (zs:List Int) (w:World) (hH:Holds (Value.int .i64) w blk off zs.toArray) (hsz:zs.length≤9223372036854775807) (hcap:zs.length≤cap):
 Calls Tryz.prog 168 #[.slice (some ⟨blk,off,none⟩) zs.length cap] w fun e w'=> e= .returned (.slice (some ⟨blk,off,none⟩) (Lib.compact zs).length cap)∧∃q,w'=putRow (Value.int .i64) (Sort.ahead w q) blk off (Lib.compact zs++List.replicate (zs.length - (Lib.compact zs).length) 0).toArray:=Any.slices_Compact_int o7 blk off cap zs w hH hsz hcap
open Go.RowKit Go.Lib Go.Sort in
theorem Tryz.slices_Compact_int_empty (a:Option Addr) (cap:Nat) (w:World):
 Calls Tryz.prog 168 #[.slice a 0 cap] w fun e w'=> e= .returned (.slice a 0 cap)∧w'=w:=Any.slices_Compact_int_empty o7 a cap w
open Go.RowKit Go.Sort in
theorem Tryz.slices_Sort_string_none (p:Option Addr) (cap:Nat) (w:World):
 Calls Tryz.prog 173 #[.slice p 0 cap] w fun e w'=> e= .returned (.tuple #[])∧w'=w:=Any.slices_Sort_string_none qx p cap w
open Go.RowKit Go.Sort in
theorem Tryz.slices_Sort_int_none (p:Option Addr) (cap:Nat) (w:World):
 Calls Tryz.prog 166 #[.slice p 0 cap] w fun e w'=> e= .returned (.tuple #[])∧w'=w:=Any.slices_Sort_int_none qy p cap w
end Go.Proofs
namespace Go.Sx
open Go Go.Proofs
set_option maxRecDepth 100000
theorem NQ:∀x y:List UInt8,x<y↔x.map (·.toNat)<y.map (·.toNat):=by
 intro x
 induction x with
 |nil=> intro y;cases y <;> simp
 |cons a x ih=>
  intro y
  cases y with
  |nil=> simp
  |cons b y=>
   simp only[List.map_cons,List.cons_lt_cons_iff,ih y,UInt8.lt_iff_toNat_lt,UInt8.toNat_inj]
def by8 (q:ByteArray):List UInt8:=q.data.toList
def un8 (l:List UInt8):ByteArray:=⟨l.toArray⟩
theorem Ig (q:ByteArray):un8 (by8 q)=q:=by cases q;simp[un8,by8]
theorem zr (l:List UInt8):cF (un8 l)=l.map (·.toNat):=by simp[cF,un8]
theorem A9 (l:List (List UInt8)):(((l.mergeSort fun x y=> decide (x≤y)).map un8).map cF).Pairwise (fun a b=> ¬b<a):=by
 rw[List.map_map]
 refine List.pairwise_map.2 ?_
 have h:(l.mergeSort fun x y=> decide (x≤y)).Pairwise fun x y=> decide (x≤y)=true:=by
  refine List.pairwise_mergeSort (le:=fun x y=> decide (x≤y)) (fun a b c h1 h2=> ?_) (fun a b=> ?_) l
  ·simp only[decide_eq_true_eq]at h1 h2⊢;exact List.le_trans h1 h2
  ·simp only[Bool.or_eq_true,decide_eq_true_eq];exact List.le_total a b
 refine h.imp fun{a b} hab=> ?_
 simp only[Function.comp,zr,←NQ]
 exact List.not_lt.2 (Yt hab)
theorem wZ:∀ss:List ByteArray,eS.all ss=ss.map Value.string
 | []=> rfl
 |q::r=> by show Value.string q::eS.all r=_;rw[wZ r];all_goals rfl
theorem qQ {w:World}{L L':nf}(hp:L'.Perm L) (h:jc w L):jc w L':=⟨((hp.map (·.1)).nodup_iff).2 h.nodup,fun x hx=> h.at_ x (hp.mem_iff.1 hx)⟩
theorem Fk:lz:=by
 intro G H R s ss hr hn
 refine⟨ko Tryz.func173 rfl (a8),fun w hw=> ?_⟩
 obtain⟨hS,L,hL,hl⟩:=hw
 obtain⟨L',hp,L1,L2,rfl,hRow,hR⟩:=hr.out L hL
 have hl':=qQ hp hl
 rcases hRow with⟨rfl,rfl,rfl⟩|⟨b,C,E,fz,h1,h2,h3,rfl,h5,hf,h7⟩
 ·refine(Tryz.slices_Sort_string_none none 0 w).mono ?_
  rintro e w' ⟨rfl,rfl⟩
  exact⟨Row SV.nil eS []::R,⟨hS,L2,⟨[],L2,rfl, .inl ⟨rfl,rfl,rfl⟩,hR⟩,by simpa using hl'⟩,rfl, [], .refl _,List.Pairwise.nil,rfl⟩
 ·have hb:w.heap[b]? =some (.cells C E fz):=hl'.at_ (b, .cells C E fz) (an)
  have hbl:b<w.heap.size:=(Array.getElem?_eq_some_iff.1 hb).1
  have hall:∀(j:Nat) (q:ByteArray),ss[j]? =some q→C[j]? =some (.string q):=fun j q hq=> h7 j _ (by
   have:=wZ ss
   rw[this,Xd,hq];all_goals rfl)
  have hH:Go.Sort.Holds encStr w b 0 (ss.map by8).toArray:=by
   intro j hj
   have hj2:j<ss.length:=by simpa using hj
   have hjq:ss[j]? =some ss[j]:=Yi hj2
   have hC:=hall j _ hjq
   have hjC:=(Array.getElem?_eq_some_iff.1 hC).1
   constructor
   ·simp only[World.cell?,hb,Nat.zero_add]
    simp[hC,encStr,by8,hj2]
   ·simp only[World.frozen?,hb,Nat.zero_add]
    have:=hf.free j hjC
    simp only[Bool.and_eq_false_iff,decide_eq_false_iff_not]
    omega
  have hv: [s.val].toArray= #[Value.slice (some ⟨b,0,none⟩) (ss.map by8).length s.c]:=by
   simp only[SV.val,h1,h2,Yh]
  rw[hv]
  refine(Tryz.slices_Sort_string b 0 s.c (ss.map by8) w hH hbl (bW)).mono ?_
  rintro e w' ⟨rfl,n,os,rfl⟩
  obtain⟨ml,hml⟩:∃ml,ml=(ss.map by8).mergeSort fun x y=> decide (x≤y):=⟨_,rfl⟩
  have hmp:ml.Perm (ss.map by8):=by rw[hml];exact List.mergeSort_perm _ _
  have hmlen:ml.length=ss.length:=by rw[hmp.length_eq,Yh]
  rw[←hml]
  refine⟨Row s eS (ml.map un8)::R,?_,rfl,ml.map un8,?_,?_,rfl⟩
  ·refine⟨⟨hS.os,hS.tape,hS.output⟩, [(b, .cells (Go.Sort.putCells encStr 0 ml.toArray C) E fz)]++L2,⟨_,L2,rfl, .inr ⟨b,_,E,fz,h1,by simp[h2,hmlen],h3,rfl,by simp[Go.Sort.putCells,h5],by simpa [Go.Sort.putCells] using hf,?_⟩,hR⟩,?_⟩
   ·intro j v hv
    have:=wZ (ml.map un8)
    rw[this,List.map_map,Xd]at hv
    cases hm:ml[j]? with
    |none=> rw[hm]at hv;cases hv
    |some q=>
     rw[hm]at hv
     obtain rfl:=Option.some.inj hv
     have hjl:=(Yk.1 hm).1
     obtain⟨q0,hq0⟩:∃q0,ss[j]? =some q0:=⟨_,Yi (aa)⟩
     have hC:=hall j q0 hq0
     have hjC:=(Array.getElem?_eq_some_iff.1 hC).1
     have hq:=(Yk.1 hm).2
     simp[Go.Sort.putCells,hjC,hjl,hq,un8]
   ·have hnd:=hl'.nodup
    simp only[List.map_append,List.map_cons,List.map_nil,Yd,Ye,List.nodup_cons]at hnd⊢
    refine⟨by simpa using hnd,fun x hx=> ?_⟩
    rcases List.mem_cons.1 hx with rfl|hx
    ·simp only[Go.Sort.grow,Go.Sort.putRow,Go.Sort.mapBlock,Go.Sort.ahead]
     rw[Array.getElem?_append_left (by simpa using hbl),Array.getElem?_modify,if_pos rfl,hb];all_goals rfl
    ·have hxb:b≠x.1:=fun h=> hnd.1 (h ▸ List.mem_map_of_mem hx)
     have hx2:=hl'.at_ x (by simp[hx])
     have hxl:=(Array.getElem?_eq_some_iff.1 hx2).1
     simp only[Go.Sort.grow,Go.Sort.putRow,Go.Sort.mapBlock,Go.Sort.ahead]
     rw[Array.getElem?_append_left (by simpa using hxl),Array.getElem?_modify,if_neg hxb,hx2]
  ·have h9:=hmp.map un8
   rw[List.map_map,show(un8∘by8)=id from funext Ig,List.map_id]at h9
   exact h9
  ·rw[hml];exact A9 _
theorem IZ {H:cG} [hs:Spc H] {G:cK}{w:World}(hw:Sat G w H):Lib.TabIs Tryz.prog w "strings.asciiSpace" .u8 Lib.asciiSpaceTab:=by
 obtain⟨hS,L,hL,hl⟩:=hw
 obtain⟨E,fz,hm⟩:=hs.out L hL
 have h:=hl.at_ _ hm
 have hg:Tryz.prog.globalNamed "strings.asciiSpace" =some 26:=a8
 have ht:(Lib.asciiSpaceTab.map fun z=> Value.int .u8 z).toArray=((List.range 256).map fun i=> Value.int .u8 (if i=9∨i=10∨i=11∨i=12∨i=13∨i=32 then 1 else 0)).toArray:=by
  have e:Lib.asciiSpaceTab=(List.range 256).map fun i=> (if i=9∨i=10∨i=11∨i=12∨i=13∨i=32 then(1:Int)else 0):=ay
  rw[e,List.map_map];all_goals rfl
 show w.var? Tryz.prog "strings.asciiSpace" =_
 simp only[World.var?,hg,Option.bind_some,h,ht]
theorem ID {G:cK}{H:cG}{q:ByteArray} [Spc H] (hq:q.size<4294967281) (ha:∀b∈q.data.toList,b.toNat<128):SC G Tryz.prog 240 [.string q] H (fun v H'=> ∃s:SV,v=s.val∧H'=Row s eS ((Lib.fields q.data.toList).map un8)::H):=by
 refine⟨ko Tryz.func240 rfl (a8),fun w hw=> ?_⟩
 refine(Tryz.strings_Fields q w hq (fun j b hb=> ha b (Yj hb)) (IZ hw)).mono ?_
 rintro e w' ⟨rfl,rfl⟩
 obtain⟨hS,L,hL,hl⟩:=hw
 refine⟨Row ⟨some ⟨w.heap.size,0,none⟩,(Lib.fields q.data.toList).length,(Lib.fields q.data.toList).length⟩ eS ((Lib.fields q.data.toList).map un8)::H,⟨⟨hS.os,hS.tape,hS.output⟩, [(w.heap.size, .cells ((Lib.fields q.data.toList).map fun l=> Value.string ⟨l.toArray⟩).toArray 9 (0,0))]++L,⟨_,L,rfl, .inr ⟨w.heap.size,_,9,(0,0),rfl,an,Nat.le_refl _,rfl,by simp[eS], .inl rfl,fun j v hv=> ?_⟩,hL⟩,?_⟩,_,rfl,rfl⟩
 ·rw[wZ,List.map_map]at hv
  simpa [un8,Function.comp_def] using hv
 ·have hlt:∀x∈L,x.1<w.heap.size:=fun x hx=> (Array.getElem?_eq_some_iff.1 (hl.at_ x hx)).1
  refine⟨?_,fun x hx=> ?_⟩
  ·simp only[List.map_append,List.map_cons,List.map_nil,Yd,Ye,List.nodup_cons]
   refine⟨fun hm=> ?_,hl.nodup⟩
   obtain⟨x,hx,he⟩:=List.mem_map.1 hm
   have:=hlt x hx
   omega
  ·rcases List.mem_append.1 hx with hx|hx
   ·simp only[List.mem_singleton]at hx;subst hx
    exact Array.getElem?_push_size
   ·have:=hlt x hx
    simp only[World.alloc]
    rw[Array.getElem?_push_lt this,←Array.getElem?_eq_getElem this];exact hl.at_ x hx
def xP:ByteArray:=⟨#[97,32,97,110,32,97,110,100,32,97,114,101,32,97,115,32,97,116,32,98,101,32,98,117,116,32,98,121,32,102,111,114,32,102,114,111,109,32,104,97,115,32,104,101,32,105,102,32,105,110,32,105,110,116,111,32,105,115,32,105,116,32,105,116,115,32,110,111,32,110,111,116,32,111,102,32,111,110,32,111,114,32,115,104,101,32,115,111,32,115,117,99,104,32,116,104,97,116,32,116,104,101,32,116,104,101,105,114,32,116,104,101,110,32,116,104,101,114,101,32,116,104,101,115,101,32,116,104,101,121,32,116,104,105,115,32,116,111,32,119,97,115,32,119,101,32,119,101,114,101,32,119,105,108,108,32,119,105,116,104,32,121,111,117]⟩
theorem A7:∀b∈xP.data.toList,b.toNat<128:=ay
theorem CV:(((Lib.fields xP.data.toList).map fun l=> l.map (·.toNat)).isPerm jh)=true:=ay
theorem xO:jh.Pairwise (fun a b=> ¬b<a):=ay
theorem Fa:(Lib.fields xP.data.toList).length≤1000:=ay
theorem IU {ss:List ByteArray}(hp:ss.Perm ((Lib.fields xP.data.toList).map un8)) (hs:(ss.map cF).Pairwise (fun a b=> ¬b<a)):ss=jH:=by
 have h1:(ss.map cF).Perm jh:=by
  refine(hp.map cF).trans ?_
  rw[List.map_map,show(cF∘un8)=fun l:List UInt8=> l.map (·.toNat)from funext zr]
  exact List.isPerm_iff.1 CV
 have h2:ss.map cF=jh:=List.Perm.eq_of_pairwise (le:=fun a b:List Nat=> ¬b<a) (fun a b _ _ h3 h4=> by
  by_cases e:a=b
  ·exact e
  ·exact absurd (wD h4 e) h3) hs xO h1
 have h3:ss.map cF=jH.map cF:=by rw[h2,ry]
 have h4:=congrArg (List.map dL) h3
 rw[List.map_map,List.map_map,show(dL∘cF)=id from funext gO,List.map_id,List.map_id]at h4
 exact h4
theorem IS {G:cK}:gU G:=by
 intro H hH
 refine sWk Tryz.func221 Tryz.ntmps221 ?_
 refine go ?_
 refine c1_ rfl (ID (q:=xP) (ay) A7) (k:=?_)
 rintro _ _ ⟨s2,rfl,rfl⟩
 refine go ?_
 refine c1_ rfl (Fk G _ _ s2 _ inferInstance (by rw[Yh];have:=Fa;omega)) (k:=?_)
 rintro _ _ ⟨rfl,ss,hp,hso,rfl⟩
 rw[IU hp hso]
 refine gk (k:=rt_ Tryz.results221 (k:=?_))
 exact⟨_,hsb,s2,rfl,rfl⟩
end Go.Sx
