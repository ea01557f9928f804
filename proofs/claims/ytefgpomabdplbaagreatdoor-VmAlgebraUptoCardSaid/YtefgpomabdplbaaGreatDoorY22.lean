import Derived.LaidLaws
import Derived.Lib.LaidTab
import Derived.Deep.Slices
import Derived.OpenShut
import Derived.ChangeArms
import Derived.Test.YtefgpomabdplbaaGreatDoorY4
import Derived.Test.YtefgpomabdplbaaGreatDoorY5
import Derived.Test.YtefgpomabdplbaaGreatDoorY6
import Derived.ReadAgain
import Derived.ChangeBears
import Derived.ChangeReads
import Derived.WalkKit
import Derived.ProofKit
import Derived.Deep.DeepHandedRow
import Derived.Deep.DeepWitnessRowRef
import Derived.Test.YtefgpomabdplbaaGreatDoorQ50
import Derived.Test.YtefgpomabdplbaaGreatDoorCards
set_option linter.unusedVariables false
set_option linter.unusedSimpArgs false
set_option linter.unusedSectionVars false
set_option linter.unnecessarySimpa false
set_option maxHeartbeats 0
namespace Go.Proofs.YtefgpomabdplbaaGreatDoor
open Go.Sx
open Go Go.Sx
set_option maxRecDepth 100000
def Hh:List (List UInt8):= [[99,111,110,99,111,114,100,58,32,115,99,104,101,109,97], [99,111,110,99,111,114,100,58,32,114,97,110,103,101], [99,111,110,99,111,114,100,58,32,116,111,111,32,115,104,111,114,116], [99,111,110,99,111,114,100,58,32,118,97,114,105,110,116], [99,111,110,99,111,114,100,58,32,108,105,109,105,116], [99,111,110,99,111,114,100,58,32,111,114,100,101,114], [99,111,110,99,111,114,100,58,32,116,97,105,108], [99,111,110,99,111,114,100,58,32,116,97,103], [99,111,110,99,111,114,100,58,32,115,117,109], [99,111,110,99,111,114,100,58,32,115,105,122,101], [99,111,110,99,111,114,100,58,32,99,111,114,114,117,112,116], [99,111,110,99,111,114,100,58,32,102,105,101,108,100], [99,111,110,99,111,114,100,58,32,118,97,108,117,101], [99,111,110,99,111,114,100,58,32,112,97,116,116,101,114,110], [99,111,110,99,111,114,100,58,32,115,116,97,116,101,115], [99,111,110,99,111,114,100,58,32,115,121,110,116,97,120], [99,111,110,99,111,114,100,58,32,116,111,111,32,100,101,101,112], [99,111,110,99,111,114,100,58,32,110,111,100,101], [99,111,110,99,111,114,100,58,32,116,111,111,32,109,97,110,121,32,116,101,114,109,115], [99,111,110,99,111,114,100,58,32,115,99,111,114,101,32,111,118,101,114,102,108,111,119], [99,111,110,99,111,114,100,58,32,99,111,100,101], [99,111,110,99,111,114,100,58,32,102,117,101,108], [99,111,110,99,111,114,100,58,32,100,111,99,117,109,101,110,116], [99,111,110,99,111,114,100,58,32,99,111,109,109,97,110,100]]
def sF (i:Nat):List UInt8:=Hh.getD i []
theorem yU:∀a b:Fin 24,sF a.val=sF b.val→a=b:=ay
theorem qa {P:Program}{W:World}:∀{l:List (String×DataW Unit)}{ps:List MemPlace},DataW.LaidVars P W l ps→∀{n:String}{d:DataW Unit},(n,d)∈l→
 ∃g t cs fuel p,P.globalNamed n=some g∧(P.globals[g]?).map (·.type)=some t∧W.var? P n=some cs∧DataW.trod (fun _=> ()) P W 0 (fun _=> true) false fuel t cs.toList=some (d,p)∧(∀x∈MemPlace.row ⟨g,0,none⟩ cs.size,x∈ps)∧∀x∈p,x∈ps
 | [],_,_,n,d,hm=> by cases hm
 |(n',d')::r,ps,h,n,d,hm=> by
  obtain⟨g,t,cs,fuel,p,q,h1,h2,h3,h4,h5,rfl⟩:=h
  rcases List.mem_cons.1 hm with e|hm
  ·cases e
   exact⟨g,t,cs,fuel,p,h1,h2,h3,h4,fun x hx=> by simp[hx],fun x hx=> by simp[hx]⟩
  ·obtain⟨g',t',cs',fuel',p',k1,k2,k3,k4,k5,k6⟩:=qa h5 hm
   exact⟨g',t',cs',fuel',p',k1,k2,k3,k4,fun x hx=> Yx _ (k5 x hx),fun x hx=> Yx _ (k6 x hx)⟩
def NM (W:World) (ps:List MemPlace):Prop:=∀b off,MemPlace.cell b off∈ps→(∃c t,W.heap[b]? =some (.cells c t (0,0)))∧∀u v,W.cell? ⟨b,off,none⟩=some (.iface u v)→Value.okWide Tryz.prog W .any 0 u v
def zN (W:World) (i:Nat) (q:Nat×Nat):Prop:=∃E c t s,W.heap[gix i]? =some (.cells #[.iface 386 (.pointer (some ⟨q.1,q.2,none⟩))] E (0,0))∧W.heap[q.1]? =some (.cells c t (0,0))∧W.cell? ⟨q.1,q.2,none⟩=some (.string s)∧s.data.toList=sF i
theorem KY: "*" ++ "errors.errorString" = "*errors.errorString" :=ag
theorem Mu (u:TypeId) (h:Tryz.prog.typeName? 3 u=some "*errors.errorString"):u=386:=
 typeName_ptr_named (nm:= "errors.errorString") (by rw[KY];kernel_rfl) (a8) (ag) u (by rw[KY];exact h)
theorem ve {W:World}{a:Addr}{v:Value}(h:W.cell? a=some v):a=⟨a.block,a.off,none⟩:=by
 obtain⟨b,o,s⟩:=a
 cases s with
 |none=> rfl
 |some x=>
  simp only[World.cell?,Option.isSome_some,if_true]at h
  split at h <;> cases h
theorem Hy:Tryz.prog.cellsOf 413=1:=a8
theorem rh:Tryz.prog.cellsOf 9=1:=a8
theorem w8 {P:Program}{W:World}{n:String}{g:Nat}{cs:Array Value}(hg:P.globalNamed n=some g) (h:W.var? P n=some cs):∃E fz,W.heap[g]? =some (.cells cs E fz):=by
 simp only[World.var?,hg,Option.bind_some]at h
 split at h
 ·rename_i cs' E fz he
  simp only[Option.some.injEq]at h
  subst h
  exact⟨E,fz,he⟩
 ·cases h
theorem dR {W:World}{l:List (String×DataW Unit)}{ps:List MemPlace}(hv:DataW.LaidVars Tryz.prog W l ps) (hc:NM W ps) {n:String}{i:Nat}(hm:(n, .iface "*errors.errorString" (.ptr (.agg [.lit (.string (sF i))])))∈l) (hg:Tryz.prog.globalNamed n=some (gix i)) (ht:(Tryz.prog.globals[gix i]?).map (·.type)=some 49):∃q,zN W i q:=by
 obtain⟨g,t,cs,fuel,p,h1,h2,h3,h4,h5,h6⟩:=qa hv hm
 obtain rfl:=Option.some.inj (hg.symm.trans h1)
 obtain rfl:=Option.some.inj (ht.symm.trans h2)
 obtain⟨E,fz,hb⟩:=w8 hg h3
 have hok:∀u v,cs.toList= [.iface u v]→Value.okWide Tryz.prog W .any 0 u v:=by
  intro u v hcs
  have hsz:cs.size=1:=by rw[←Array.length_toList,hcs];rfl
  have hmem:MemPlace.cell (gix i) 0∈ps:=h5 _ (by rw[hsz];simp[MemPlace.row])
  refine(hc (gix i) 0 hmem).2 u v ?_
  rw[World.var?_cell hg h3 0,←Array.getElem?_toList,hcs];rfl
 obtain⟨a,s,hcs,hcell,htext,_,rfl⟩:=errorString_of_trod Tryz.underlying49 Mu Tryz.underlying386 Tryz.underlying413 rfl rfl Tryz.underlying9 Hy rh h4 hok
 have hsz:cs.size=1:=by rw[←Array.length_toList,hcs];rfl
 obtain⟨c0,t0,hc0⟩:=(hc (gix i) 0 (h5 _ (by rw[hsz];simp[MemPlace.row]))).1
 obtain⟨c1,t1,hc1⟩:=(hc a.block a.off (h6 _ (by simp[MemPlace.row]))).1
 have ha:=ve hcell
 refine⟨(a.block,a.off),t0,c1,t1,s,?_,hc1,by rw[←ha];exact hcell,htext⟩
 rw[hc0]at hb
 cases hb
 rw[hc0,←ha]
 congr 2
 apply Array.ext'
 rw[hcs]
theorem gn0:Tryz.prog.globalNamed "concord/api.ErrSchema" =some 11:=a8
theorem gn1:Tryz.prog.globalNamed "concord/api.ErrRange" =some 8:=a8
theorem gn2:Tryz.prog.globalNamed "concord/api.ErrShort" =some 1:=a8
theorem gn3:Tryz.prog.globalNamed "concord/api.ErrVarint" =some 2:=a8
theorem gn4:Tryz.prog.globalNamed "concord/api.ErrLimit" =some 3:=a8
theorem gn5:Tryz.prog.globalNamed "concord/api.ErrOrder" =some 4:=a8
theorem gn6:Tryz.prog.globalNamed "concord/api.ErrTail" =some 5:=a8
theorem gn7:Tryz.prog.globalNamed "concord/api.ErrTag" =some 6:=a8
theorem gn8:Tryz.prog.globalNamed "concord/api.ErrSum" =some 7:=a8
theorem gn9:Tryz.prog.globalNamed "concord/api.ErrSize" =some 9:=a8
theorem Qp:Tryz.prog.globalNamed "concord/api.ErrCorrupt" =some 10:=a8
theorem Qo:Tryz.prog.globalNamed "concord/api.ErrField" =some 12:=a8
theorem Qn:Tryz.prog.globalNamed "concord/api.ErrValue" =some 13:=a8
theorem Qf:Tryz.prog.globalNamed "concord/api.ErrCode" =some 16:=a8
theorem Qe:Tryz.prog.globalNamed "concord/api.ErrFuel" =some 0:=a8
theorem jX:∀i:Fin 24,(Tryz.prog.globals[gix i.val]?).map (·.type)=some 49:=by
 have h:((List.range 24).all fun i=> decide ((Tryz.prog.globals[gix i]?).map (·.type)=some 49))=true:=a8
 intro i
 exact Yt (List.all_eq_true.1 h i.val (List.mem_range.2 i.isLt))
theorem QF {W:World}{ps:List MemPlace}(hv:DataW.LaidVars Tryz.prog W nh ps) (hc:NM W ps):∀i,gokB i=true→∃q,zN W i q
 | 0,_=> dR hv hc (Yj (i:=10) rfl) gn0 (jX 0)
 | 1,_=> dR hv hc (Yj (i:=7) rfl) gn1 (jX 1)
 | 2,_=> dR hv hc (Yj (i:=0) rfl) gn2 (jX 2)
 | 3,_=> dR hv hc (Yj (i:=1) rfl) gn3 (jX 3)
 | 4,_=> dR hv hc (Yj (i:=2) rfl) gn4 (jX 4)
 | 5,_=> dR hv hc (Yj (i:=3) rfl) gn5 (jX 5)
 | 6,_=> dR hv hc (Yj (i:=4) rfl) gn6 (jX 6)
 | 7,_=> dR hv hc (Yj (i:=5) rfl) gn7 (jX 7)
 | 8,_=> dR hv hc (Yj (i:=6) rfl) gn8 (jX 8)
 | 9,_=> dR hv hc (Yj (i:=8) rfl) gn9 (jX 9)
 | 10,_=> dR hv hc (Yj (i:=9) rfl) Qp (jX 10)
 | 11,_=> dR hv hc (Yj (i:=11) rfl) Qo (jX 11)
 | 12,_=> dR hv hc (Yj (i:=12) rfl) Qn (jX 12)
 | 20,_=> dR hv hc (Yj (i:=13) rfl) Qf (jX 20)
 | 21,_=> dR hv hc (Yj (i:=14) rfl) Qe (jX 21)
 | 13,h=> absurd h (ag)
 | 14,h=> absurd h (ag)
 | 15,h=> absurd h (ag)
 | 16,h=> absurd h (ag)
 | 17,h=> absurd h (ag)
 | 18,h=> absurd h (ag)
 | 19,h=> absurd h (ag)
 | 22,h=> absurd h (ag)
 | 23,h=> absurd h (ag)
 |n+24,h=> absurd (gok_lt h) (aa)
theorem OW:Tryz.prog.globalNamed "concord/frame.zipTable" =some 27:=a8
theorem OT:(Tryz.prog.globals[27]?).map (·.type)=some 298:=a8
theorem Nl:Tryz.prog.globalNamed "concord/frame.sealTable" =some 25:=a8
theorem Nk:(Tryz.prog.globals[25]?).map (·.type)=some 298:=a8
theorem OX:Tryz.prog.globalNamed "strings.asciiSpace" =some 26:=a8
theorem OU:(Tryz.prog.globals[26]?).map (·.type)=some 364:=a8
theorem Lm:Tryz.prog.globalNamed "concord/isa.table" =some 24:=a8
theorem OV:(Tryz.prog.globals[24]?).map (·.type)=some 187:=a8
theorem zo:Tryz.prog.cellsOf 267=1:=a8
theorem Hx:Tryz.prog.cellsOf 5=1:=a8
theorem zp:Tryz.prog.cellsOf 298=16:=a8
theorem DQ:Tryz.prog.cellsOf 364=256:=a8
theorem wb {T e:TypeId}{z:Nat}{k:IntKind}(uT:Tryz.prog.underlying T=some (.array z e)) (ue:Tryz.prog.underlying e=some (.int k)) (ce:Tryz.prog.cellsOf e=1) (cT:Tryz.prog.cellsOf T=z) {W:World}{l:List (String×DataW Unit)}{ps:List MemPlace}(hv:DataW.LaidVars Tryz.prog W l ps) (hc:NM W ps) {n:String}{i:Nat}{zs:List Int}(hm:(n,Lib.tabData k zs)∈l) (hg:Tryz.prog.globalNamed n=some i) (ht:(Tryz.prog.globals[i]?).map (·.type)=some T):∃E fz,W.heap[i]? =some (.cells (zs.map fun z=> Value.int k z).toArray E fz):=by
 obtain⟨g,t,cs,fuel,p,h1,h2,h3,h4,h5,h6⟩:=qa hv hm
 obtain rfl:=Option.some.inj (hg.symm.trans h1)
 obtain rfl:=Option.some.inj (ht.symm.trans h2)
 obtain⟨E,fz,hb⟩:=w8 hg h3
 have:=Lib.cells_of_tab uT ue ce cT h4
 refine⟨E,fz,?_⟩
 rw[hb,←this]
def gX (W:World):nf:=W.heap.toList.zipIdx.map fun p=> (p.2,p.1)
theorem iL {W:World}{i:Nat}{o:Obj}:(i,o)∈gX W↔W.heap[i]? =some o:=by
 simp only[gX,List.mem_map,Prod.mk.injEq,Prod.exists]
 constructor
 ·rintro⟨o',j,hm,rfl,rfl⟩
  have:=List.mem_zipIdx_iff_getElem?.1 hm
  simpa using this
 ·intro h
  exact⟨o,i,List.mem_zipIdx_iff_getElem?.2 (aY),rfl,rfl⟩
theorem xr (W:World):((gX W).map (·.1)).Nodup:=by
 have:(gX W).map (·.1)=W.heap.toList.zipIdx.map (·.2):=by
  simp only[gX,List.map_map];rfl
 rw[this,List.zipIdx_map_snd]
 exact List.nodup_range'
def Old (W:World):Hp:=fun L=> L=gX W
theorem Jt {G:cK}{W:World}(hS:Bi G W):Sat G W [Old W]:=
 ⟨hS,gX W,⟨gX W, [],an,rfl,rfl⟩,xr W,fun x hx=> iL.1 hx⟩
theorem mA {W:World}{L:nf}(h:Sep [Old W] L):L=gX W:=by
 obtain⟨L1,L2,rfl,h1,h2⟩:=h
 have h1':L1=gX W:=h1
 have h2':L2= []:=h2
 rw[h1',h2',Ym]
theorem FP {G:cK}{W W':World}(h:Sat G W' [Old W]) {i:Nat}{o:Obj}(ho:W.heap[i]? =some o):W'.heap[i]? =some o:=by
 obtain⟨_,L,hL,hl⟩:=h
 exact hl.at_ (i,o) (by rw[mA hL];exact iL.2 ho)
noncomputable def kR (W:World) (f:Nat→Nat×Nat):cK:=
 {os:=W.os,tape:=W.tape,output:=W.output,eT:=386,eb:=fun i=> if gokB i=true then(f i).1 else W.heap.size+i,eo:=fun i=> if gokB i=true then(f i).2 else 0}
theorem D4 (W:World) (f:Nat→Nat×Nat):Bi (kR W f) W:=⟨rfl,rfl,rfl⟩
theorem Nn {W:World}{f:Nat→Nat×Nat}(hf:∀i,gokB i=true→zN W i (f i)):Glb (kR W f) [Old W] where
 err:=by
  intro i hi L hL
  obtain⟨E,c,t,s,h1,_⟩:=hf i hi
  refine⟨E,(0,0),?_⟩
  rw[mA hL]
  refine iL.2 ?_
  rw[h1]
  simp only[cK.err,kR,hi,if_true]
 blk:=by
  intro i hi L hL
  obtain⟨E,c,t,s,_,h2,_⟩:=hf i hi
  refine⟨c,t,?_⟩
  rw[mA hL]
  refine iL.2 ?_
  simp only[kR,hi,if_true]
  exact h2
 inj:=by
  intro a b h1 h2
  have lt:∀i,gokB i=true→(f i).1<W.heap.size:=fun i hi=> by
   obtain⟨E,c,t,s,_,h2,_⟩:=hf i hi
   exact(Array.getElem?_eq_some_iff.1 h2).1
  by_cases ha:gokB a=true <;> by_cases hb:gokB b=true
  ·simp only[kR,ha,hb,if_true]at h1 h2
   obtain⟨_,_,_,s,_,_,q1,q2⟩:=hf a ha
   obtain⟨_,_,_,s',_,_,q3,q4⟩:=hf b hb
   rw[h1,h2,q3]at q1
   have e:s'=s:=by simpa using q1
   have:=yU ⟨a,gok_lt ha⟩ ⟨b,gok_lt hb⟩ (by rw[←q2,←q4,e])
   simpa using this
  ·simp only[kR,ha,hb,if_true,if_false,Bool.false_eq_true]at h1
   have:=lt a ha;omega
  ·simp only[kR,ha,hb,if_true,if_false,Bool.false_eq_true]at h1
   have:=lt b hb;omega
  ·simp only[kR,ha,hb,if_false,Bool.false_eq_true]at h1
   omega
theorem EL {W:World}{i:Nat}{l:List Nat}(h:∃E fz,W.heap[i]? =some (.cells (l.map fun n=> Value.int .u32 ((n:Nat):Int)).toArray E fz)):Tab [Old W] i l where
 out:=by
  intro L hL
  obtain⟨E,fz,h⟩:=h
  exact⟨E,fz,by rw[mA hL];exact iL.2 h⟩
theorem Fj:(Lib.asciiSpaceTab.map fun z=> Value.int .u8 z).toArray=((List.range 256).map fun i=> Value.int .u8 (if i=9∨i=10∨i=11∨i=12∨i=13∨i=32 then 1 else 0)).toArray:=by
 have e:Lib.asciiSpaceTab=(List.range 256).map fun i=> (if i=9∨i=10∨i=11∨i=12∨i=13∨i=32 then(1:Int)else 0):=ay
 rw[e,List.map_map];rfl
theorem Ml {W:World}(h:∃E fz,W.heap[26]? =some (.cells ((Lib.asciiSpaceTab).map fun z=> Value.int .u8 z).toArray E fz)):Spc [Old W] where
 out:=by
  intro L hL
  obtain⟨E,fz,h⟩:=h
  rw[Fj]at h
  exact⟨E,fz,by rw[mA hL];exact iL.2 h⟩
def JL:List (List UInt8×Int):= [([101,110,100],0),([110,111,110,101],0),([97,108,108],0),([104,97,115],1),([116,101,114,109],2),([112,104,114,97,115,101],2),([97,110,100],0),([111,114],0),([109,97,120],0),([111,112,116],0),([101,120,99,101,112,116],0),([110,111,116],0),([115,99,97,108,101],1),([102,105,120],1),([108,101,97,115,116],2),([109,105,115,115],1),([104,105,116],1)]
theorem MN {W:World}(h:∃E fz,W.heap[24]? =some (.cells yE.toArray E fz)):Isa [Old W]:=⟨⟨fun L hL=> by
 obtain⟨E,fz,h⟩:=h
 exact⟨E,fz,by rw[mA hL];exact iL.2 h⟩⟩⟩
theorem Ld:Tryz.prog.cellsOf 186=2:=a8
theorem OG:Tryz.prog.cellsOf 187=34:=a8
theorem OF:Tryz.prog.cellsOf 3=1:=a8
theorem Gt:(Rows.laid_concord_isa_table:DataW Unit)= .agg (JL.map fun z=> .agg [.lit (.string z.1), .lit (.int .i64 z.2)]):=rfl
theorem Gs:yE=JL.flatMap fun z=> [.string ⟨z.1.toArray⟩, .int .i64 z.2]:=rfl
theorem Dl {W:World}{n:Nat}{cs:List Value}{p:List MemPlace}{z:List UInt8×Int}(h:DataW.trod (fun _=> ()) Tryz.prog W 0 (fun _=> true) false n 186 cs=some (.agg [.lit (.string z.1), .lit (.int .i64 z.2)],p)):cs= [.string ⟨z.1.toArray⟩, .int .i64 z.2]:=by
 obtain⟨xs,m,_,hx,hl,hxl,hf⟩:=DataW.trod_struct Tryz.underlying186 h
 rw[Ld]at hl
 match cs,hl with
 | [c0,c1],_=>
  have g0:DataW.trod (fun _=> ()) Tryz.prog W 0 (fun _=> true) false m 9 (([c0,c1].drop 0).take (Tryz.prog.cellsOf 9))=xs[0]? :=hf 0 _ rfl
  rw[rh]at g0
  have g1:DataW.trod (fun _=> ()) Tryz.prog W 0 (fun _=> true) false m 3 (([c0,c1].drop 1).take (Tryz.prog.cellsOf 3))=xs[1]? :=hf 1 _ rfl
  rw[OF]at g1
  match xs,hxl with
  | [x0,x1],_=>
   obtain⟨s,h0,e0,_⟩:=DataW.trod_string Tryz.underlying9 (show _=some x0 from g0)
   obtain⟨k,h1,e1,_⟩:=DataW.trod_int Tryz.underlying3 (show _=some x1 from g1)
   subst e0
   subst e1
   simp at h0 h1 hx
   subst h0
   subst h1
   obtain⟨⟨h2,h3⟩,_⟩:=hx
   rw[h2,h3]
theorem tQ:∀(zs:List (List UInt8×Int)) (l:List Value),l.length=zs.length*2→(∀(i:Nat) (z:List UInt8×Int),zs[i]? =some z→(l.drop (i*2)).take 2= [.string ⟨z.1.toArray⟩, .int .i64 z.2])→l=zs.flatMap fun z=> [.string ⟨z.1.toArray⟩, .int .i64 z.2]
 | [],l,h,_=> List.eq_nil_of_length_eq_zero (aY)
 |z::r,l,h,hc=> by
  have h0:=hc 0 z rfl
  rw[Nat.zero_mul,List.drop_zero]at h0
  have ih:=tQ r (l.drop 2) (by rw[Yo,h,Yb];omega) fun i y hy=> by
   have:=hc (i+1) y hy
   rw[show(i+1)*2=2+i*2 from aa,←List.drop_drop]at this
   exact this
  rw[List.flatMap_cons,←ih,←h0,List.take_append_drop]
theorem JK {W:World}{ps:List MemPlace}(hv:DataW.LaidVars Tryz.prog W nh ps):∃E fz,W.heap[24]? =some (.cells yE.toArray E fz):=by
 obtain⟨g,t,cs,fuel,p,h1,h2,h3,h4,h5,h6⟩:=qa hv (n:= "concord/isa.table") (d:=Rows.laid_concord_isa_table) (Yj (i:=19) rfl)
 obtain rfl:=Option.some.inj (Lm.symm.trans h1)
 obtain rfl:=Option.some.inj (OV.symm.trans h2)
 obtain⟨E,fz,hb⟩:=w8 Lm h3
 refine⟨E,fz,?_⟩
 rw[hb]
 have key:cs.toList=yE:=by
  obtain⟨xs,m,_,hx,hcl,hxl,hf⟩:=DataW.trod_array Tryz.underlying187 h4
  rw[OG]at hcl
  rw[Ld]at hf
  rw[Gt]at hx
  have hxs:JL.map (fun z=> (DataW.agg [.lit (.string z.1), .lit (.int .i64 z.2)]:DataW Unit))=xs.map (·.1):=DataW.agg.inj (congrArg Prod.fst hx)
  rw[Gs]
  refine tQ JL _ (by rw[hcl];rfl) fun i z hz=> ?_
  have hi:i<17:=(Yk.1 hz).1
  have h7:=congrArg (fun l=> l[i]?) hxs
  simp only[Xd,hz,Option.map_some]at h7
  cases hxi:xs[i]? with
  |none=> rw[hxi]at h7;cases h7
  |some y=>
   rw[hxi]at h7
   have h8:=hf i hi
   rw[hxi]at h8
   obtain⟨y1,y2⟩:=y
   obtain rfl:=Option.some.inj h7
   exact Dl h8
 congr 2
 exact Array.ext' key
theorem AA {W:World}(h:laidMetH Tryz.prog nh W):∃f:Nat→Nat×Nat,(∀i,gokB i=true→zN W i (f i))∧Tab [Old W] 27 lg∧Tab [Old W] 25 jP∧Spc [Old W]∧Isa [Old W]:=by
 have hno:(nh.filter fun x=> x.2.handleName?.isSome)= []:=a8
 rw[laidMetH,hno]at h
 obtain⟨ps,hv,_,hc⟩:=h
 obtain⟨f,hf0⟩:=Deep.choose_lt (α:=Nat×Nat) (n:=24) (p:=fun i q=> gokB i=true→zN W i q) fun i _=> (by
  by_cases h:gokB i=true
  ·obtain⟨q,hq⟩:=QF hv hc i h
   exact⟨q,fun _=> hq⟩
  ·exact⟨(0,0),fun h9=> absurd h9 h⟩)
 have hf:∀i,gokB i=true→zN W i (f i):=fun i hi=> hf0 i (gok_lt hi) hi
 refine⟨f,hf,EL ?_,EL ?_,Ml ?_,MN (JK hv)⟩
 ·exact wb Tryz.underlying298 Tryz.underlying267 zo zp hv hc (zs:=lg.map fun n=> ((n:Nat):Int)) (Yj (i:=15) rfl) OW OT
 ·exact wb Tryz.underlying298 Tryz.underlying267 zo zp hv hc (zs:=jP.map fun n=> ((n:Nat):Int)) (Yj (i:=16) rfl) Nl Nk
 ·exact wb Tryz.underlying364 Tryz.underlying5 Hx DQ hv hc (zs:=Lib.asciiSpaceTab) (Yj (i:=18) rfl) OX OU
theorem kO {H:Type}(d:DataW H):1≤Rows.uptoBulk d:=by
 cases d with
 |lit l=> cases l <;> simp[Rows.uptoBulk]
 |nil=> simp[Rows.uptoBulk]
 |ptr d=> simp[Rows.uptoBulk]
 |slice elems spare=> simp[Rows.uptoBulk]
 |agg parts=> simp[Rows.uptoBulk]
 |iface t d=> simp[Rows.uptoBulk]
 |map entries=> simp[Rows.uptoBulk]
 |held h=> simp[Rows.uptoBulk]
theorem oz {H:Type}{d:DataW H}{l:List (DataW H)}(h:d∈l):Rows.uptoBulk d≤Rows.uptoBulkAll l:=by
 induction l with
 |nil=> cases h
 |cons x r ih=>
  simp only[Rows.uptoBulkAll]
  rcases List.mem_cons.1 h with e|e
  ·subst e;omega
  ·have:=ih e;omega
theorem Hz {H:Type}(l:List (DataW H)):l.length≤Rows.uptoBulkAll l:=by
 induction l with
 |nil=> simp[Rows.uptoBulkAll]
 |cons x r ih=> have:=kO x;simp only[Rows.uptoBulkAll,Yb];omega
theorem l6 {α β γ:Type}{R:α→β→γ→Prop}:∀(l:List α) (m:List β),l.length=m.length→(∀(i:Nat) (a:α) (b:β),l[i]? =some a→m[i]? =some b→∃c,R a b c)→∃r:List γ,r.length=l.length∧∀(i:Nat) (a:α) (b:β) (c:γ),l[i]? =some a→m[i]? =some b→r[i]? =some c→R a b c
 | [], [],_,_=> ⟨[],rfl,fun i a b c h=> aG⟩
 | [],_::_,h,_=> aG
 |_::_, [],h,_=> aG
 |a::l,b::m,h,hR=> by
  obtain⟨c,hc⟩:=hR 0 a b rfl rfl
  obtain⟨r,h1,h2⟩:=l6 l m (aY) (fun i a b ha hb=> hR (i+1) a b (by simpa using ha) (by simpa using hb))
  refine⟨c::r,by simp[h1],fun i a' b' c' ha hb hc'=> ?_⟩
  cases i with
  |zero=> simp at ha hb hc';subst ha;subst hb;subst hc';exact hc
  |succ i=> exact h2 i a' b' c' (by simpa using ha) (by simpa using hb) (by simpa using hc')
section
variable {H:Type}{enc:TypeId×Value→H}{W:World}
theorem ir {α:Type}(e:Enc α) {Q:α→DataW H→Prop}{t el:TypeId}{fuel:Nat}{cs:List Value}{x:DataW H×List MemPlace}(ht:Tryz.prog.underlying t=some (.slice el)) (hc:Tryz.prog.cellsOf el=e.sz)
 (hrd:∀(n:Nat) (cs':List Value) (y:DataW H×List MemPlace),DataW.trod enc Tryz.prog W 0 (fun _=> true) true n el cs'=some y→∃a:α,cs'=e.f a∧Q a y.1)
 (h:DataW.trod enc Tryz.prog W 0 (fun _=> true) true fuel t cs=some x):
 ∃(s:SV) (xs:List α),cs= [s.val]∧SlL s e xs (gX W)∧xs.length+1≤Rows.uptoBulk x.1∧(xs= []∨∃ds sp,x.1= .slice ds sp∧ds.length=xs.length∧∀(i:Nat) (a:α) (d:DataW H),xs[i]? =some a→ds[i]? =some d→Q a d):=by
 rcases Deep.open_slice ht h with⟨rfl,rfl⟩|⟨a,len,cap,m,n,D,Pl,rfl,_,hl,hm,hmm,rfl,hx⟩
 ·exact⟨SV.nil, [],rfl,⟨rfl,Nat.le_refl _, .inl ⟨rfl,rfl⟩⟩,by simp[Rows.uptoBulk], .inl rfl⟩
 ·simp only[if_true]at hmm
  subst hmm
  rw[hc]at hx
  have hbulk:∀k,k=len→k+1≤Rows.uptoBulk (DataW.slice ((List.range len).map D) ((List.range (m - len)).map fun j=> D (len+j))):=by
   intro k hk
   have:=Hz ((List.range len).map D)
   simp only[Yh,List.length_range]at this
   simp only[Rows.uptoBulk];omega
  by_cases h0:m=0
  ·subst h0
   obtain rfl:len=0:=aa
   exact⟨⟨some a,0,0⟩, [],rfl,⟨rfl,Nat.le_refl _, .inl ⟨rfl,rfl⟩⟩,hbulk 0 rfl, .inl rfl⟩
  ·have hel:∀i,i<m→∃y:α,W.cells? 0 (a.add (i*e.sz)) e.sz=some (e.f y)∧Q y (D i):=by
    intro i hi
    obtain⟨cs',h1,h2⟩:=hx i hi
    obtain⟨y,rfl,hq⟩:=hrd n cs' _ h2
    exact⟨y,h1,hq⟩
   obtain⟨y0,hy0,_⟩:=hel 0 (aa)
   haveI:Inhabited α:=⟨y0⟩
   obtain⟨f,hf⟩:=Deep.choose_lt hel
   have hcell:∀i,i<m→∀k,k<e.sz→W.cell? (a.add (i*e.sz+k))=(e.f (f i))[k]? :=by
    intro i hi k hk
    have:=(World.cells?_some (hf i hi).1).2.2 k hk
    rw[Deep.add_add]at this
    exact this
   have hpos:=e.pos
   have hsome:∀i,i<m→∀k,k<e.sz→∃v,(e.f (f i))[k]? =some v:=fun i hi k hk=> ⟨_,Yi (by rw[e.len];exact hk)⟩
   obtain⟨v0,hv0⟩:=hsome 0 (aa) 0 hpos
   have hc0:=hcell 0 (aa) 0 hpos
   rw[hv0,Nat.zero_mul,Nat.zero_add,show a.add 0=a by simp[Addr.add]]at hc0
   have ha:=ve hc0
   obtain⟨b,off,sp⟩:=a
   simp only[Addr.mk.injEq,true_and]at ha
   subst ha
   have hblk:∃C E fz,W.heap[b]? =some (.cells C E fz):=by
    simp only[World.cell?]at hc0
    split at hc0
    ·rename_i C E fz he;exact⟨C,E,fz,he⟩
    ·cases hc0
   obtain⟨C,E,fz,hb⟩:=hblk
   have hC:∀i,i<m→∀k,k<e.sz→C[off+(i*e.sz+k)]? =(e.f (f i))[k]? :=by
    intro i hi k hk
    rw[←hcell i hi k hk,gN,n4 hb]
   have hsz:off+m*e.sz≤C.size:=by
    obtain⟨v,hv⟩:=hsome (m - 1) (aa) (e.sz - 1) (aa)
    have h1:=hC (m - 1) (aa) (e.sz - 1) (aa)
    rw[hv]at h1
    have h2:=(Array.getElem?_eq_some_iff.1 h1).1
    have h3:(m - 1)*e.sz+e.sz=m*e.sz:=by
     rw[show(m - 1)*e.sz+e.sz=(m - 1+1)*e.sz from bf]
     congr 1;omega
    omega
   refine⟨⟨some ⟨b,off,none⟩,len,m⟩,(List.range len).map f,rfl,⟨an,hl, .inr ⟨b,off,C,E,fz,rfl,iL.2 hb,hsz,?_⟩⟩,hbulk _ (an), .inr ⟨_,_,rfl,an,?_⟩⟩
   ·intro j v hv
    have hj:j<len*e.sz:=by
     have:=(Yk.1 hv).1
     rw[e.all_length]at this
     simpa using this
    have hi:j / e.sz<len:=(Nat.div_lt_iff_lt_mul hpos).2 hj
    have hk:j % e.sz<e.sz:=Nat.mod_lt _ hpos
    have hd:j=j / e.sz*e.sz+j % e.sz:=by
     have:=Nat.div_add_mod j e.sz
     rw[Nat.mul_comm]at this;omega
    have h1:=e.all_get ((List.range len).map f) (j / e.sz) (j % e.sz) (f (j / e.sz)) (by simp[hi]) hk
    rw[←hd,hv]at h1
    rw[hd,hC _ (aa) _ hk,←h1]
   ·intro i y d hy hd
    have hi:i<len:=by
     have:=(Yk.1 hy).1
     simpa using this
    simp[hi]at hy hd
    subst hy;subst hd
    exact(hf i (aa)).2
end
theorem lu:Tryz.prog.cellsOf 3=1:=a8
theorem xb:Tryz.prog.cellsOf 4=1:=a8
theorem Pe:Tryz.prog.cellsOf 139=5:=a8
theorem Pb:Tryz.prog.cellsOf 169=2:=a8
theorem Qr:Tryz.prog.cellsOf 57=1:=a8
theorem Pf:Tryz.prog.cellsOf 59=2:=a8
theorem QA:Tryz.prog.cellsOf 38=1:=a8
theorem zq:Tryz.prog.cellsOf 28=1:=a8
theorem Pc:Tryz.prog.cellsOf 40=2:=a8
theorem Qu:Tryz.prog.cellsOf 25=1:=a8
theorem Qz:Tryz.prog.cellsOf 22=1:=a8
theorem Qs:Tryz.prog.cellsOf 24=1:=a8
theorem Qy:Tryz.prog.cellsOf 27=2:=a8
theorem cLf:Tryz.prog.cellsOf 61=2:=a8
theorem Qx:Tryz.prog.cellsOf 29=1:=a8
theorem cNr:Tryz.prog.cellsOf 197=3:=a8
theorem Qw:Tryz.prog.cellsOf 30=1:=a8
theorem QB:Tryz.prog.cellsOf 31=1:=a8
theorem Pd:Tryz.prog.cellsOf 33=6:=a8
theorem Pg:Tryz.prog.cellsOf 35=9:=a8
section
variable {H:Type}{enc:TypeId×Value→H}{W:World}
theorem Jj (n:Nat) (cs:List Value) (y:DataW H×List MemPlace) (h:DataW.trod enc Tryz.prog W 0 (fun _=> true) true n 5 cs=some y):∃a:Nat,cs=eB.f a∧a<256:=by
 obtain⟨k,rfl,_,hw⟩:=DataW.trod_int Tryz.underlying5 h
 have:0≤k∧k≤255:=by simpa [Lit.wf,IntKind.min,IntKind.max,IntKind.signed,IntKind.bits] using hw
 refine⟨k.toNat,?_,aa⟩
 show [Value.int .u8 k]= [Value.int .u8 ((k.toNat:Nat):Int)]
 rw[Int.toNat_of_nonneg this.1]
theorem tA (n:Nat) (cs:List Value) (y:DataW H×List MemPlace) (h:DataW.trod enc Tryz.prog W 0 (fun _=> true) true n 3 cs=some y):∃a:Int,cs=eI.f a∧True:=by
 obtain⟨k,rfl,_,hw⟩:=DataW.trod_int Tryz.underlying3 h
 exact⟨k,rfl,trivial⟩
theorem Fz (n:Nat) (cs:List Value) (y:DataW H×List MemPlace) (h:DataW.trod enc Tryz.prog W 0 (fun _=> true) true n 139 cs=some y):∃a:FV,cs=eF.f a∧a.name.size+6≤Rows.uptoBulk y.1:=by
 obtain⟨xs,m,_,rfl,hl,hxl,hf⟩:=DataW.trod_struct Tryz.underlying139 h
 rw[Pe]at hl
 match cs,hl with
 | [c0,c1,c2,c3,c4],_=>
  have g0:DataW.trod enc Tryz.prog W 0 (fun _=> true) true m 9 (([c0,c1,c2,c3,c4].drop 0).take (Tryz.prog.cellsOf 9))=xs[0]? :=hf 0 _ rfl
  rw[rh]at g0
  have g1:DataW.trod enc Tryz.prog W 0 (fun _=> true) true m 3 (([c0,c1,c2,c3,c4].drop 1).take (Tryz.prog.cellsOf 3))=xs[1]? :=hf 1 _ rfl
  rw[lu]at g1
  have g2:DataW.trod enc Tryz.prog W 0 (fun _=> true) true m 4 (([c0,c1,c2,c3,c4].drop 2).take (Tryz.prog.cellsOf 4))=xs[2]? :=hf 2 _ rfl
  rw[xb]at g2
  have g3:DataW.trod enc Tryz.prog W 0 (fun _=> true) true m 4 (([c0,c1,c2,c3,c4].drop 3).take (Tryz.prog.cellsOf 4))=xs[3]? :=hf 3 _ rfl
  rw[xb]at g3
  have g4:DataW.trod enc Tryz.prog W 0 (fun _=> true) true m 4 (([c0,c1,c2,c3,c4].drop 4).take (Tryz.prog.cellsOf 4))=xs[4]? :=hf 4 _ rfl
  rw[xb]at g4
  match xs,hxl with
  | [x0,x1,x2,x3,x4],_=>
   obtain⟨s,h0,e0,_⟩:=DataW.trod_string Tryz.underlying9 (show _=some x0 from g0)
   obtain⟨k,h1,_,_⟩:=DataW.trod_int Tryz.underlying3 (show _=some x1 from g1)
   obtain⟨b2,h2,_⟩:=DataW.trod_bool Tryz.underlying4 (show _=some x2 from g2)
   obtain⟨b3,h3,_⟩:=DataW.trod_bool Tryz.underlying4 (show _=some x3 from g3)
   obtain⟨b4,h4,_⟩:=DataW.trod_bool Tryz.underlying4 (show _=some x4 from g4)
   simp at h0 h1 h2 h3 h4
   subst h0;subst h1;subst h2;subst h3;subst h4
   refine⟨⟨s,k,b2,b3,b4⟩,rfl,?_⟩
   subst e0
   simp only[List.map_cons,List.map_nil,Rows.uptoBulk,Rows.uptoBulkAll]
   have h5:s.data.toList.length=s.size:=an
   have q1:=kO x1.1
   have q2:=kO x2.1
   have q3:=kO x3.1
   have q4:=kO x4.1
   omega
theorem Ji (n:Nat) (cs:List Value) (y:DataW H×List MemPlace) (h:DataW.trod enc Tryz.prog W 0 (fun _=> true) true n 61 cs=some y):∃a:Int×ByteArray,cs=eLf.f a∧a.2.size≤Rows.uptoBulk y.1:=by
 obtain⟨xs,m,_,rfl,hl,hxl,hf⟩:=DataW.trod_struct Tryz.underlying61 h
 rw[cLf]at hl
 match cs,hl with
 | [c0,c1],_=>
  have g0:DataW.trod enc Tryz.prog W 0 (fun _=> true) true m 3 (([c0,c1].drop 0).take (Tryz.prog.cellsOf 3))=xs[0]? :=hf 0 _ rfl
  rw[lu]at g0
  have g1:DataW.trod enc Tryz.prog W 0 (fun _=> true) true m 9 (([c0,c1].drop 1).take (Tryz.prog.cellsOf 9))=xs[1]? :=hf 1 _ rfl
  rw[rh]at g1
  match xs,hxl with
  | [x0,x1],_=>
   obtain⟨k,h0,_,_⟩:=DataW.trod_int Tryz.underlying3 (show _=some x0 from g0)
   obtain⟨s,h1,e1,_⟩:=DataW.trod_string Tryz.underlying9 (show _=some x1 from g1)
   simp at h0 h1
   subst h0;subst h1
   refine⟨(k,s),rfl,?_⟩
   subst e1
   simp only[List.map_cons,List.map_nil,Rows.uptoBulk,Rows.uptoBulkAll]
   have h5:s.data.toList.length=s.size:=an
   omega
theorem Mx (n:Nat) (cs:List Value) (y:DataW H×List MemPlace) (h:DataW.trod enc Tryz.prog W 0 (fun _=> true) true n 169 cs=some y):∃a:Val,cs=eVl.f a∧a.2.size+1≤Rows.uptoBulk y.1:=by
 obtain⟨xs,m,_,rfl,hl,hxl,hf⟩:=DataW.trod_struct Tryz.underlying169 h
 rw[Pb]at hl
 match cs,hl with
 | [c0,c1],_=>
  have g0:DataW.trod enc Tryz.prog W 0 (fun _=> true) true m 9 (([c0,c1].drop 0).take (Tryz.prog.cellsOf 9))=xs[0]? :=hf 0 _ rfl
  rw[rh]at g0
  have g1:DataW.trod enc Tryz.prog W 0 (fun _=> true) true m 9 (([c0,c1].drop 1).take (Tryz.prog.cellsOf 9))=xs[1]? :=hf 1 _ rfl
  rw[rh]at g1
  match xs,hxl with
  | [x0,x1],_=>
   obtain⟨k,h0,_,_⟩:=DataW.trod_string Tryz.underlying9 (show _=some x0 from g0)
   obtain⟨s,h1,e1,_⟩:=DataW.trod_string Tryz.underlying9 (show _=some x1 from g1)
   simp at h0 h1
   subst h0;subst h1
   refine⟨(k,s),rfl,?_⟩
   subst e1
   simp only[List.map_cons,List.map_nil,Rows.uptoBulk,Rows.uptoBulkAll]
   have h5:s.data.toList.length=s.size:=an
   omega
theorem pJ {α:Type}{f:α→Nat}:∀(xs:List α) (ds:List (DataW H)),ds.length=xs.length→(∀(i:Nat) (a:α) (d:DataW H),xs[i]? =some a→ds[i]? =some d→f a≤Rows.uptoBulk d)→(xs.map f).sum≤Rows.uptoBulkAll ds
 | [],_,_,_=> Yl _
 |a::xs, [],h,_=> aG
 |a::xs,d::ds,h,hq=> by
  have h1:=pJ xs ds (aY) fun i a d ha hd=> hq (i+1) a d (by simpa using ha) (by simpa using hd)
  have h2:=hq 0 a d rfl rfl
  simp only[List.map_cons,List.sum_cons,Rows.uptoBulkAll]
  omega
theorem My (n:Nat) (cs:List Value) (y:DataW H×List MemPlace) (h:DataW.trod enc Tryz.prog W 0 (fun _=> true) true n 59 cs=some y):∃a:Int×SV,cs=eD.f a∧∃vs:List Val,SlL a.2 eVl vs (gX W)∧(vs.map fun v=> v.2.size+1).sum+1≤Rows.uptoBulk y.1:=by
 obtain⟨xs,m,_,rfl,hl,hxl,hf⟩:=DataW.trod_struct Tryz.underlying59 h
 rw[Pf]at hl
 match cs,hl with
 | [c0,c1],_=>
  have g0:DataW.trod enc Tryz.prog W 0 (fun _=> true) true m 3 (([c0,c1].drop 0).take (Tryz.prog.cellsOf 3))=xs[0]? :=hf 0 _ rfl
  rw[lu]at g0
  have g1:DataW.trod enc Tryz.prog W 0 (fun _=> true) true m 57 (([c0,c1].drop 1).take (Tryz.prog.cellsOf 57))=xs[1]? :=hf 1 _ rfl
  rw[Qr]at g1
  match xs,hxl with
  | [x0,x1],_=>
   obtain⟨k,h0,_,_⟩:=DataW.trod_int Tryz.underlying3 (show _=some x0 from g0)
   obtain⟨s,vs,h1,a1,b1,r1⟩:=ir eVl (Q:=fun a d=> a.2.size+1≤Rows.uptoBulk d) Tryz.underlying57 Pb (fun n cs y h=> Mx n cs y h) (show _=some x1 from g1)
   simp at h0 h1
   subst h0;subst h1
   refine⟨(k,s),rfl,vs,a1,?_⟩
   simp only[List.map_cons,List.map_nil,Rows.uptoBulk,Rows.uptoBulkAll]
   rcases r1 with rfl|⟨ds,sp,he,hdl,hq⟩
   ·have:=kO x1.1;simp;all_goals omega
   ·have:=pJ (f:=fun v:Val=> v.2.size+1) vs ds hdl hq
    rw[he]
    simp only[Rows.uptoBulk]
    omega
def PtQ (W:World) (a:SV×SV) (d:DataW H) (q:ja):Prop:=(∃l:List (Int×SV),SlL a.1 eD l (gX W)∧l.length=q.1.length∧∀(i:Nat) (p:Int×SV) (x:Doc),l[i]? =some p→q.1[i]? =some x→p.1=x.1∧SlL p.2 eVl x.2 (gX W))∧SlL a.2 eI q.2 (gX W)∧(q.1.map fun x=> (x.2.map fun v=> v.2.size+1).sum+1).sum+q.2.length+1≤Rows.uptoBulk d
theorem Jg (n:Nat) (cs:List Value) (y:DataW H×List MemPlace) (h:DataW.trod enc Tryz.prog W 0 (fun _=> true) true n 40 cs=some y):∃a:SV×SV,cs=eP.f a∧∃q,PtQ W a y.1 q:=by
 obtain⟨xs,m,_,rfl,hl,hxl,hf⟩:=DataW.trod_struct Tryz.underlying40 h
 rw[Pc]at hl
 match cs,hl with
 | [c0,c1],_=>
  have g0:DataW.trod enc Tryz.prog W 0 (fun _=> true) true m 38 (([c0,c1].drop 0).take (Tryz.prog.cellsOf 38))=xs[0]? :=hf 0 _ rfl
  rw[QA]at g0
  have g1:DataW.trod enc Tryz.prog W 0 (fun _=> true) true m 28 (([c0,c1].drop 1).take (Tryz.prog.cellsOf 28))=xs[1]? :=hf 1 _ rfl
  rw[zq]at g1
  match xs,hxl with
  | [x0,x1],_=>
   obtain⟨s0,l0,h0,a0,b0,r0⟩:=ir eD (Q:=fun a d=> ∃vs:List Val,SlL a.2 eVl vs (gX W)∧(vs.map fun v=> v.2.size+1).sum+1≤Rows.uptoBulk d) Tryz.underlying38 Pf (fun n cs y h=> My n cs y h) (show _=some x0 from g0)
   obtain⟨s1,l1,h1,a1,b1,r1⟩:=ir eI (Q:=fun a _=> True) Tryz.underlying28 lu (fun n cs y h=> tA n cs y h) (show _=some x1 from g1)
   simp at h0 h1
   subst h0;subst h1
   have hds:∃ds:List Doc,(l0.length=ds.length∧∀(i:Nat) (p:Int×SV) (x:Doc),l0[i]? =some p→ds[i]? =some x→p.1=x.1∧SlL p.2 eVl x.2 (gX W))∧(ds.map fun x=> (x.2.map fun v=> v.2.size+1).sum+1).sum+1≤Rows.uptoBulk x0.1:=by
    rcases r0 with rfl|⟨ds,sp,he,hdl,hq⟩
    ·exact⟨[],⟨rfl,fun i p x hp=> by simp at hp⟩,by have:=kO x0.1;simpa using this⟩
    ·obtain⟨vss,q1,q2⟩:=l6 (R:=fun(a:Int×SV) (d:DataW H) (vs:List Val)=> SlL a.2 eVl vs (gX W)∧(vs.map fun v=> v.2.size+1).sum+1≤Rows.uptoBulk d) l0 ds hdl.symm hq
     have get:∀(i:Nat) (x:Doc),(l0.zipWith (fun p vs=> (p.1,vs)) vss)[i]? =some x→∃p vs d,l0[i]? =some p∧vss[i]? =some vs∧ds[i]? =some d∧x=(p.1,vs)∧SlL p.2 eVl vs (gX W)∧(vs.map fun v=> v.2.size+1).sum+1≤Rows.uptoBulk d:=by
            intro i x hx
            rw[List.getElem?_zipWith]at hx
            cases hp:l0[i]? with
            |none=> rw[hp]at hx;simp at hx
            |some p=>
           cases hv:vss[i]? with
           |none=> rw[hp,hv]at hx;simp at hx
           |some vs=>
            rw[hp,hv]at hx
            obtain⟨d,hd⟩:∃d,ds[i]? =some d:=⟨_,Yi (by have:=(Yk.1 hp).1;omega)⟩
            obtain⟨k1,k2⟩:=q2 i p d vs hp hd hv
            exact⟨p,vs,d,rfl,rfl,hd,(Option.some.inj hx).symm,k1,k2⟩
     have hlz:(l0.zipWith (fun p vs=> (p.1,vs)) vss).length=l0.length:=by rw[List.length_zipWith,q1,Nat.min_self]
     refine⟨l0.zipWith (fun p vs=> (p.1,vs)) vss,⟨hlz.symm,fun i p x hp hx=> ?_⟩,?_⟩
     ·obtain⟨p',vs,d,hp',_,_,rfl,k1,_⟩:=get i x hx
      rw[hp]at hp';cases hp'
      exact⟨rfl,k1⟩
     ·have:=pJ (f:=fun x:Doc=> (x.2.map fun v=> v.2.size+1).sum+1) (l0.zipWith (fun p vs=> (p.1,vs)) vss) ds (by rw[hlz];exact hdl) (fun i x d hx hd=> by
           obtain⟨p',vs,d',_,_,hd',rfl,_,k2⟩:=get i x hx
           rw[hd]at hd';cases hd'
           exact k2)
      rw[he]
      simp only[Rows.uptoBulk]
      omega
   obtain⟨ds,⟨d1,d2⟩,d3⟩:=hds
   refine⟨(s0,s1),rfl,(ds,l1),⟨l0,a0,d1,d2⟩,a1,?_⟩
   simp only[List.map_cons,List.map_nil,Rows.uptoBulk,Rows.uptoBulkAll]
   try simp only at b1
   omega
def NrQ (W:World) (a:NrV) (d:DataW H) (n:jT):Prop:=SlL a.1 eI n.cs (gX W)∧SlL a.2.1 eI n.offs (gX W)∧a.2.2=n.slop∧n.cs.length+n.offs.length+1≤Rows.uptoBulk d
theorem Jh (n:Nat) (cs:List Value) (y:DataW H×List MemPlace) (h:DataW.trod enc Tryz.prog W 0 (fun _=> true) true n 197 cs=some y):∃a:NrV,cs=eNr.f a∧∃q,NrQ W a y.1 q:=by
 obtain⟨xs,m,_,rfl,hl,hxl,hf⟩:=DataW.trod_struct Tryz.underlying197 h
 rw[cNr]at hl
 match cs,hl with
 | [c0,c1,c2],_=>
  have g0:DataW.trod enc Tryz.prog W 0 (fun _=> true) true m 28 (([c0,c1,c2].drop 0).take (Tryz.prog.cellsOf 28))=xs[0]? :=hf 0 _ rfl
  rw[zq]at g0
  have g1:DataW.trod enc Tryz.prog W 0 (fun _=> true) true m 28 (([c0,c1,c2].drop 1).take (Tryz.prog.cellsOf 28))=xs[1]? :=hf 1 _ rfl
  rw[zq]at g1
  have g2:DataW.trod enc Tryz.prog W 0 (fun _=> true) true m 3 (([c0,c1,c2].drop 2).take (Tryz.prog.cellsOf 3))=xs[2]? :=hf 2 _ rfl
  rw[lu]at g2
  match xs,hxl with
  | [x0,x1,x2],_=>
   obtain⟨s0,l0,h0,a0,b0,r0⟩:=ir eI (Q:=fun a _=> True) Tryz.underlying28 lu (fun n cs y h=> tA n cs y h) (show _=some x0 from g0)
   obtain⟨s1,l1,h1,a1,b1,r1⟩:=ir eI (Q:=fun a _=> True) Tryz.underlying28 lu (fun n cs y h=> tA n cs y h) (show _=some x1 from g1)
   obtain⟨k,h2,_,_⟩:=DataW.trod_int Tryz.underlying3 (show _=some x2 from g2)
   simp at h0 h1 h2
   subst h0;subst h1;subst h2
   refine⟨(s0,s1,k),rfl,⟨l0,l1,k⟩,a0,a1,rfl,?_⟩
   simp only[List.map_cons,List.map_nil,Rows.uptoBulk,Rows.uptoBulkAll]
   try simp only at b0 b1
   omega
theorem NG {α:Type}{xs:List α}{β:Type}{g:DataW β}{Q:α→Prop}(h:xs= []∨∃(ds sp:List (DataW β)),g= .slice ds sp∧ds.length=xs.length∧∀(i:Nat) (a:α) (d:DataW β),xs[i]? =some a→ds[i]? =some d→Q a):∀x∈xs,Q x:=by
 rcases h with rfl|⟨ds,sp,_,hl,hq⟩
 ·intro x hx;cases hx
 ·intro x hx
  obtain⟨i,hi⟩:=List.mem_iff_getElem?.1 hx
  have:=(Yk.1 hi).1
  exact hq i x _ hi (Yi (aa))
theorem zB {α:Type}{xs:List α}{g:DataW H}{f:α→Nat}(h:xs= []∨∃(ds sp:List (DataW H)),g= .slice ds sp∧ds.length=xs.length∧∀(i:Nat) (a:α) (d:DataW H),xs[i]? =some a→ds[i]? =some d→f a≤Rows.uptoBulk d):∀x∈xs,f x≤Rows.uptoBulk g:=by
 rcases h with rfl|⟨ds,sp,he,hl,hq⟩
 ·intro x hx;cases hx
 ·intro x hx
  obtain⟨i,hi⟩:=List.mem_iff_getElem?.1 hx
  have hil:=(Yk.1 hi).1
  obtain⟨d,hd⟩:∃d,ds[i]? =some d:=⟨_,Yi (aa)⟩
  have h1:=hq i x d hi hd
  have h2:=oz (Yj hd)
  rw[he]
  simp only[Rows.uptoBulk];omega
theorem J8 {α:Type}{xs:List α}{g:DataW H}{f:α→Nat}(h:xs= []∨∃(ds sp:List (DataW H)),g= .slice ds sp∧ds.length=xs.length∧∀(i:Nat) (a:α) (d:DataW H),xs[i]? =some a→ds[i]? =some d→f a≤Rows.uptoBulk d) (h6:∀a,6≤f a):6*xs.length≤Rows.uptoBulk g:=by
 rcases h with rfl|⟨ds,sp,he,hl,hq⟩
 ·exact Yl _
 ·have h1:=pJ xs ds hl hq
  have h2:∀l:List α,6*l.length≤(l.map f).sum:=fun l=> by
   induction l with
   |nil=> simp
   |cons a r ih=> have:=h6 a;simp only[List.map_cons,List.sum_cons,Yb];omega
  have h3:=h2 xs
  rw[he];simp only[Rows.uptoBulk];omega
theorem jJ {s:SV}{α:Type}{e:Enc α}{xs:List α}(h:SlL s e xs (gX W)):Sl [Old W] s e xs:=⟨fun L hL=> by rw[mA hL];exact h⟩
structure NJ (p:PrG) (B:Nat):Prop where
 av:p.avgs.length≤B
 cu:p.curs.length≤B
 ne:p.nears.length≤B
 dr:p.drive.length≤B
 co:p.code.length≤B
 ct:∀c∈p.curs,c.2.size≤B
 ns:∀n∈p.nears,n.cs.length≤B∧n.offs.length≤B
 cb:∀x∈p.code,x<256
 cc:p.code.length+p.curs.length≤B
theorem Jf (n:Nat) (cs:List Value) (y:DataW H×List MemPlace) (h:DataW.trod enc Tryz.prog W 0 (fun _=> true) true n 33 cs=some y):∃(a:PrA) (p:PrG),cs=prV a p.all∧gE [Old W] a p∧qA [Old W] a p∧NJ p (Rows.uptoBulk y.1):=by
 obtain⟨xs,m,_,rfl,hl,hxl,hf⟩:=DataW.trod_struct Tryz.underlying33 h
 rw[Pd]at hl
 match cs,hl with
 | [c0,c1,c2,c3,c4,c5],_=>
  have g0:DataW.trod enc Tryz.prog W 0 (fun _=> true) true m 28 (([c0,c1,c2,c3,c4,c5].drop 0).take (Tryz.prog.cellsOf 28))=xs[0]? :=hf 0 _ rfl
  rw[zq]at g0
  have g1:DataW.trod enc Tryz.prog W 0 (fun _=> true) true m 29 (([c0,c1,c2,c3,c4,c5].drop 1).take (Tryz.prog.cellsOf 29))=xs[1]? :=hf 1 _ rfl
  rw[Qx]at g1
  have g2:DataW.trod enc Tryz.prog W 0 (fun _=> true) true m 30 (([c0,c1,c2,c3,c4,c5].drop 2).take (Tryz.prog.cellsOf 30))=xs[2]? :=hf 2 _ rfl
  rw[Qw]at g2
  have g3:DataW.trod enc Tryz.prog W 0 (fun _=> true) true m 4 (([c0,c1,c2,c3,c4,c5].drop 3).take (Tryz.prog.cellsOf 4))=xs[3]? :=hf 3 _ rfl
  rw[xb]at g3
  have g4:DataW.trod enc Tryz.prog W 0 (fun _=> true) true m 28 (([c0,c1,c2,c3,c4,c5].drop 4).take (Tryz.prog.cellsOf 28))=xs[4]? :=hf 4 _ rfl
  rw[zq]at g4
  have g5:DataW.trod enc Tryz.prog W 0 (fun _=> true) true m 31 (([c0,c1,c2,c3,c4,c5].drop 5).take (Tryz.prog.cellsOf 31))=xs[5]? :=hf 5 _ rfl
  rw[QB]at g5
  match xs,hxl with
  | [x0,x1,x2,x3,x4,x5],_=>
   obtain⟨s0,l0,h0,a0,b0,r0⟩:=ir eI (Q:=fun a _=> True) Tryz.underlying28 lu (fun n cs y h=> tA n cs y h) (show _=some x0 from g0)
   obtain⟨s1,l1,h1,a1,b1,r1⟩:=ir eLf (Q:=fun a d=> a.2.size≤Rows.uptoBulk d) Tryz.underlying29 cLf (fun n cs y h=> Ji n cs y h) (show _=some x1 from g1)
   obtain⟨s2,l2,h2,a2,b2,r2⟩:=ir eNr (Q:=fun a d=> ∃q,NrQ W a d q) Tryz.underlying30 cNr (fun n cs y h=> Jh n cs y h) (show _=some x2 from g2)
   obtain⟨b,h3,_⟩:=DataW.trod_bool Tryz.underlying4 (show _=some x3 from g3)
   obtain⟨s4,l4,h4,a4,b4,r4⟩:=ir eI (Q:=fun a _=> True) Tryz.underlying28 lu (fun n cs y h=> tA n cs y h) (show _=some x4 from g4)
   obtain⟨s5,l5,h5,a5,b5,r5⟩:=ir eB (Q:=fun a _=> a<256) Tryz.underlying31 Hx (fun n cs y h=> Jj n cs y h) (show _=some x5 from g5)
   simp at h0 h1 h2 h3 h4 h5
   subst h0;subst h1;subst h2;subst h3;subst h4;subst h5
   have hB:Rows.uptoBulk x0.1+Rows.uptoBulk x1.1+Rows.uptoBulk x2.1+Rows.uptoBulk x4.1+Rows.uptoBulk x5.1≤Rows.uptoBulk (DataW.agg ([x0,x1,x2,x3,x4,x5].map (·.1))):=by
    simp only[List.map_cons,List.map_nil,Rows.uptoBulk,Rows.uptoBulkAll]
    omega
   have hn:∃ns:List jT,zH [Old W] l2 ns∧ns.length≤Rows.uptoBulk x2.1∧∀n∈ns,n.cs.length+n.offs.length≤Rows.uptoBulk x2.1:=by
    rcases r2 with rfl|⟨ds,sp',he,hdl,hq⟩
    ·exact⟨[],⟨rfl,fun i z n hz=> by simp at hz⟩,Yl _,fun n hn=> by cases hn⟩
    ·obtain⟨ns,q1,q2⟩:=l6 (R:=fun a d q=> NrQ W a d q) l2 ds hdl.symm hq
     refine⟨ns,⟨q1.symm,fun i z n hz hn=> ?_⟩,aa,fun n hn=> ?_⟩
     ·obtain⟨d,hd⟩:∃d,ds[i]? =some d:=⟨_,Yi (by have:=(Yk.1 hz).1;omega)⟩
      obtain⟨k1,k2,k3,_⟩:=q2 i z d n hz hd hn
      exact⟨jJ k1,jJ k2,k3⟩
     ·obtain⟨i,hi⟩:=List.mem_iff_getElem?.1 hn
      have hil:=(Yk.1 hi).1
      obtain⟨z,hz⟩:∃z,l2[i]? =some z:=⟨_,Yi (aa)⟩
      obtain⟨d,hd⟩:∃d,ds[i]? =some d:=⟨_,Yi (aa)⟩
      have h9:=(q2 i z d n hz hd hi).2.2.2
      have h8:=oz (Yj hd)
      rw[he]
      simp only[Rows.uptoBulk]
      omega
   obtain⟨ns,n1,n2,n3⟩:=hn
   have hct:=zB (f:=fun a:Int×ByteArray=> a.2.size) r1
   have hcb:=NG r5
   obtain⟨B,hBe⟩:∃B,B=Rows.uptoBulk (DataW.agg ([x0,x1,x2,x3,x4,x5].map (·.1))):=⟨_,rfl⟩
   rw[←hBe]at hB⊢
   try simp only at b0 b1 b4 b5
   exact⟨⟨s0,s1,s2,s4,s5,l2⟩,⟨l0,l1,ns,b,l4,l5⟩,rfl,⟨jJ a0,jJ a1,jJ a2,n1,jJ a4⟩,⟨jJ a5⟩,⟨by show l0.length≤B;omega,by show l1.length≤B;omega,by show ns.length≤B;omega,by show l4.length≤B;omega,by show l5.length≤B;omega,fun c hc=> by have:=hct c hc;omega,fun n hn=> by have:=n3 n hn;omega,hcb,by show l5.length+l1.length≤B;omega⟩⟩
def D9 (q:ja):Nat:=(q.1.map fun x=> (x.2.map fun v=> v.2.size+1).sum+1).sum+q.2.length
theorem rd_case (fuel:Nat) (l:List Value) (d:DataW H×List MemPlace) (hf:DataW.trod enc Tryz.prog W 0 (fun _=> true) true fuel 35 l=some d):
 ∃(fv pv:SV) (kp:Int) (a:PrA) (g:PrG) (fs:List FV) (lp:List (SV×SV)) (ps:List ja) (B1 B2 B3:Nat),l= [fv.val,pv.val, .int .i64 kp,a.av.val,a.cu.val,a.ne.val, .bool g.all,a.dr.val,a.co.val]∧Sl [Old W] fv eF fs∧Sl [Old W] pv eP lp∧oS [Old W] lp ps∧gE [Old W] a g∧qA [Old W] a g∧
  B1+B2+B3≤Rows.uptoBulk d.1∧6*fs.length≤B1∧(∀f∈fs,f.name.size+6≤B1)∧ps.length≤B2∧(∀q∈ps,D9 q≤B2)∧NJ g B3:=by
 obtain⟨xs,m,_,rfl,hl,hxl,hff⟩:=DataW.trod_struct Tryz.underlying35 hf
 rw[Pg]at hl
 match l,hl with
 | [c0,c1,c2,c3,c4,c5,c6,c7,c8],_=>
  have g0:DataW.trod enc Tryz.prog W 0 (fun _=> true) true m 27 (([c0,c1,c2,c3,c4,c5,c6,c7,c8].drop 0).take (Tryz.prog.cellsOf 27))=xs[0]? :=hff 0 _ rfl
  rw[Qy]at g0
  have g1:DataW.trod enc Tryz.prog W 0 (fun _=> true) true m 3 (([c0,c1,c2,c3,c4,c5,c6,c7,c8].drop 2).take (Tryz.prog.cellsOf 3))=xs[1]? :=hff 1 _ rfl
  rw[lu]at g1
  have g2:DataW.trod enc Tryz.prog W 0 (fun _=> true) true m 33 (([c0,c1,c2,c3,c4,c5,c6,c7,c8].drop 3).take (Tryz.prog.cellsOf 33))=xs[2]? :=hff 2 _ rfl
  rw[Pd]at g2
  match xs,hxl with
  | [x0,x1,x2],_=>
   obtain⟨ys,m',_,e0,hl0,hyl,hg⟩:=DataW.trod_struct Tryz.underlying27 (show _=some x0 from g0)
   have k0:DataW.trod enc Tryz.prog W 0 (fun _=> true) true m' 24 (([c0,c1].drop 0).take (Tryz.prog.cellsOf 24))=ys[0]? :=hg 0 _ rfl
   rw[Qs]at k0
   have k1:DataW.trod enc Tryz.prog W 0 (fun _=> true) true m' 25 (([c0,c1].drop 1).take (Tryz.prog.cellsOf 25))=ys[1]? :=hg 1 _ rfl
   rw[Qu]at k1
   match ys,hyl with
   | [y0,y1],_=>
    obtain⟨zs,m2,_,e2,_,hzl,hz⟩:=DataW.trod_struct Tryz.underlying24 (show _=some y0 from k0)
    have j0:DataW.trod enc Tryz.prog W 0 (fun _=> true) true m2 22 (([c0].drop 0).take (Tryz.prog.cellsOf 22))=zs[0]? :=hz 0 _ rfl
    rw[Qz]at j0
    match zs,hzl with
    | [z0],_=>
     obtain⟨sf,fs,h0,a0,b0,r0⟩:=ir eF (Q:=fun a d=> a.name.size+6≤Rows.uptoBulk d) Tryz.underlying22 Pe (fun n cs y h=> Fz n cs y h) (show _=some z0 from j0)
     obtain⟨sp,lp,h1,a1,b1,r1⟩:=ir eP (Q:=fun a d=> ∃q,PtQ W a d q) Tryz.underlying25 Pc (fun n cs y h=> Jg n cs y h) (show _=some y1 from k1)
     obtain⟨kp,h2,_,_⟩:=DataW.trod_int Tryz.underlying3 (show _=some x1 from g1)
     obtain⟨a,g,h3,p1,p2,p3⟩:=Jf _ _ x2 (show _=some x2 from g2)
     simp at h0 h1 h2 h3
     subst h0;subst h1;subst h2
     obtain⟨rfl,rfl,rfl,rfl,rfl,rfl⟩:=h3
     have hB:Rows.uptoBulk z0.1+Rows.uptoBulk y1.1+Rows.uptoBulk x2.1≤Rows.uptoBulk (DataW.agg ([x0,x1,x2].map (·.1))):=by
      have e3:x0.1= .agg ([y0,y1].map (·.1)):=congrArg Prod.fst e0
      have e4:y0.1= .agg ([z0].map (·.1)):=congrArg Prod.fst e2
      simp only[List.map_cons,List.map_nil,Rows.uptoBulk,Rows.uptoBulkAll,e3,e4]
      omega
     have hfn:=zB (f:=fun a:FV=> a.name.size+6) r0
     have hfl:=J8 r0 fun a=> Nat.le_add_left 6 _
     have hps:∃ps:List ja,oS [Old W] lp ps∧ps.length≤Rows.uptoBulk y1.1∧∀q∈ps,D9 q≤Rows.uptoBulk y1.1:=by
      rcases r1 with rfl|⟨ds,sp',he,hdl,hq⟩
      ·exact⟨[],⟨rfl,fun i p d hp=> by simp at hp⟩,Yl _,fun q hq=> by cases hq⟩
      ·obtain⟨ps,q1,q2⟩:=l6 (R:=fun a d q=> PtQ W a d q) lp ds hdl.symm hq
       refine⟨ps,⟨q1.symm,fun i p x hp hx=> ?_⟩,aa,fun q hq=> ?_⟩
       ·obtain⟨d,hd⟩:∃d,ds[i]? =some d:=⟨_,Yi (by have:=(Yk.1 hp).1;omega)⟩
        obtain⟨⟨l,k1,k2,k3⟩,k4,_⟩:=q2 i p d x hp hd hx
        exact⟨⟨l,jJ k1,k2,fun j u w hu hw=> ⟨(k3 j u w hu hw).1,jJ (k3 j u w hu hw).2⟩⟩,jJ k4⟩
       ·obtain⟨i,hi⟩:=List.mem_iff_getElem?.1 hq
        have hil:=(Yk.1 hi).1
        obtain⟨z,hz⟩:∃z,lp[i]? =some z:=⟨_,Yi (aa)⟩
        obtain⟨d,hd⟩:∃d,ds[i]? =some d:=⟨_,Yi (aa)⟩
        have h9:=(q2 i z d q hz hd hi).2.2
        have h8:=oz (Yj hd)
        rw[he]
        simp only[Rows.uptoBulk,D9]
        omega
     obtain⟨ps,q1,q2,q3⟩:=hps
     try simp only at b0
     exact⟨sf,sp,kp,a,g,fs,lp,ps,Rows.uptoBulk z0.1,Rows.uptoBulk y1.1,Rows.uptoBulk x2.1,rfl,jJ a0,jJ a1,q1,p1,p2,hB,hfl,hfn,q2,q3,p3⟩
end
theorem NR (vs:List Val):vs.length≤(vs.map fun v=> v.2.size+1).sum∧(∀v∈vs,v.2.size≤(vs.map fun v=> v.2.size+1).sum)∧vsz vs≤20*(vs.map fun v=> v.2.size+1).sum:=by
 induction vs with
 |nil=> simp[vsz]
 |cons v r ih=>
  obtain⟨h1,h2,h3⟩:=ih
  simp only[vsz]at h3⊢
  simp only[List.map_cons,List.sum_cons,Yb]
  refine⟨aa,fun w hw=> ?_,aa⟩
  rcases List.mem_cons.1 hw with rfl|hw
  ·omega
  ·have:=h2 w hw;omega
theorem KL (ds:List Doc) {B:Nat}(h:(ds.map fun x=> (x.2.map fun v=> v.2.size+1).sum+1).sum≤B):ds.length≤B∧(∀d∈ds,d.2.length≤B∧∀v∈d.2,v.2.size≤B)∧dsz ds≤20*B∧tsz ds≤B:=by
 induction ds generalizing B with
 |nil=> simp[dsz,tsz]
 |cons d r ih=>
  simp only[List.map_cons,List.sum_cons]at h
  obtain⟨h1,h2,h3,h4⟩:=ih (B:=B - ((d.2.map fun v=> v.2.size+1).sum+1)) (aa)
  obtain⟨k1,k2,k3⟩:=NR d.2
  simp only[dsz,tsz]at h3 h4⊢
  simp only[List.map_cons,List.sum_cons,Yb]
  refine⟨aa,fun e he=> ?_,aa,aa⟩
  rcases List.mem_cons.1 he with rfl|he
  ·exact⟨aa,fun v hv=> by have:=k2 v hv;omega⟩
  ·obtain⟨i1,i2⟩:=h2 e he
   exact⟨aa,fun v hv=> by have:=i2 v hv;omega⟩
theorem yu {a b:Nat}(h:a+b≤1048576):a*b≤1000000000000:=by
 rcases Nat.le_total a b with h1|h1
 ·have:a*b≤524288*1048576:=Nat.mul_le_mul (aa) (aa)
  omega
 ·have:a*b≤1048576*524288:=Nat.mul_le_mul (aa) (aa)
  omega
theorem case_sm {g:PrG}{fs:List FV}{ps:List ja}{B1 B2 B3:Nat}(hB:B1+B2+B3≤1048576) (h1:6*fs.length≤B1) (h2:∀f∈fs,f.name.size+6≤B1) (h3:ps.length≤B2) (h4:∀q∈ps,D9 q≤B2) (h5:NJ g B3):∀d∈ps,SmP fs d:=fun d hd=> by
 have h6:=h4 d hd
 unfold D9 at h6
 obtain⟨t1,t2,t3,t4⟩:=KL d.1 (B:=B2) (aa)
 refine⟨⟨aa,fun f hf=> by have:=h2 f hf;omega,aa,fun x hx=> ?_⟩,aa,fun hc=> ?_,aa⟩
 ·obtain⟨i1,i2⟩:=t2 x hx
  exact⟨aa,fun v hv=> by have:=i2 v hv;omega⟩
 ·have hc2:fI fs=true:=by
   rw[oF]at hc
   split at hc
   ·cases hc
   ·rename_i h9;simpa using h9
  have:=zC hc2 d.1
  omega
theorem case_pq {g:PrG}{fs:List FV}{ps:List ja}{B1 B2 B3:Nat}(hB:B1+B2+B3≤1048576) (h1:6*fs.length≤B1) (h2:∀f∈fs,f.name.size+6≤B1) (h3:ps.length≤B2) (h4:∀q∈ps,D9 q≤B2) (h5:NJ g B3):∀d∈ps,∀ws,rX fs ps=true→Ba d.1.length d.2 ws→xj g ⟨fs,d.1,ws⟩ B2:=by
 intro d hm ws hfx hdo
 have hck:=Cg hfx hm
 have hs:=case_sm hB h1 h2 h3 h4 h5 d hm
 have hok:=mZ hck hs.z (hs.t hck)
 have h6:=h4 d hm
 unfold D9 at h6
 obtain⟨t1,t2,t3,t4⟩:=KL d.1 (B:=B2) (aa)
 obtain⟨p1,p2,p3,p4,p5,p6,p7,p8,_⟩:=h5
 obtain⟨c1,_⟩:=il hok.chk
 have hfew:=hok.few
 refine⟨⟨aa,aa,aa,aa,aa,fun n hn=> by have:=p7 n hn;omega,fun c hc=> by have:=p6 c hc;omega,p8⟩,hok,⟨by show d.1.length≤_;omega,by show 1≤fs.length∧fs.length≤_;omega,hdo.1,hdo.2.1⟩,fun l hl=> ?_,fun n hn=> ⟨yu (by have:=p7 n hn;omega),by have:=p7 n hn;omega⟩,aa,fun n hn=> by have:=p7 n hn;omega⟩
 obtain⟨c,_,rfl⟩:=List.mem_map.1 hl
 obtain⟨_,_,k3⟩:=lU (k:=c.1.toNat % 256::cF c.2) hok.goodT
 have:=zC hok.chk d.1
 exact Xi k3 (aa)
theorem Kv {g:PrG}{fs:List FV}{ps:List ja}{B1 B2 B3:Nat}(hB:B1+B2+B3≤1048576) (h1:6*fs.length≤B1) (h2:∀f∈fs,f.name.size+6≤B1) (h3:ps.length≤B2) (h4:∀q∈ps,D9 q≤B2) (h5:NJ g B3):I0 g fs ps:=⟨aa,case_sm hB h1 h2 h3 h4 h5,aa,fun f hf=> by have:=h2 f hf;omega,fun d hm ws hfx hdo=> ⟨B2,case_pq hB h1 h2 h3 h4 h5 d hm ws hfx hdo⟩⟩
open Go Go.Sx Go.ChangeShapes Go.WideShapes Go.ChangeAt Go.RowKit
def oD (W W':World):Prop:=W'.os=W.os∧W'.output=W.output∧∀(i:Nat) (o:Obj),W.heap[i]? =some o→W'.heap[i]? =some o
theorem DR {f:FuncId}{args:List Value}{W:World}{g:Nat→Nat×Nat}(h:SC (kR W g) Tryz.prog f args [Old W] (fun v H'=> v= .bool true∧H'= [Old W])):
 Calls Tryz.prog f args.toArray W fun e W'=> e= .returned (.bool true)∧oD W W':=
 (h.call W (Jt (D4 W g))).mono fun e W' he=> by
   cases e with
   |returned v=>
    obtain⟨H',hs,rfl,rfl⟩:=he
    exact⟨rfl,hs.1.os,hs.1.output,fun i o ho=> FP hs ho⟩
   |_=> exact he.elim
theorem oD.keptBut {W W':World}(h:oD W W') (may:MemPlace→Prop):W.keptBut W' may:=by
 refine⟨h.1,h.2.1,fun i hi=> ?_⟩
 obtain⟨o,ho⟩:∃o,W.heap[i]? =some o:=⟨_,Array.getElem?_eq_getElem hi⟩
 rw[ho,h.2.2 i o ho]
 cases o with
 |cells c t fr=> exact⟨rfl,rfl,rfl,fun _ _=> rfl⟩
 |map es clock=> exact Or.inr ⟨rfl,rfl⟩
 |_=> rfl
theorem oD.sameAt {W W':World}(h:oD W W') {p:MemPlace}(hp:p.block<W.heap.size):W.sameAt W' p:=by
 obtain⟨o,ho⟩:∃o,W.heap[p.block]? =some o:=⟨_,Array.getElem?_eq_getElem hp⟩
 have h2:=h.2.2 _ _ ho
 cases p with
 |cell b off=>
  have e:W'.heap[b]? =W.heap[b]? :=h2.trans ho.symm
  show W'.cell? ⟨b,off,none⟩=W.cell? ⟨b,off,none⟩
  simp only[World.cell?,e]
 |map b=> exact h2.trans ho.symm
section
variable {H:Type}{enc:TypeId×Value→H}
theorem oJ {P:Program}{W W':World}{base:Nat}{sp:Nat→Bool}{held:Bool}:∀{ts:List TypeId}{vs:List Value}{ds:List (DataW H)}{ps:List MemPlace},DataW.TrodAll enc P W base sp held ts vs ds ps→(∀p∈ps,W.sameAt W' p)→DataW.TrodAll enc P W' base sp held ts vs ds ps
 | [], [], [],_,h,_=> h
 |_::_,_::_,_::_,_,⟨p,q,⟨n,h1⟩,h2,e⟩,hs=> ⟨p,q,⟨n,DataW.trod_carry n _ _ _ h1 fun x hx=> hs x (by rw[e];exact Yy _ hx)⟩,oJ h2 fun x hx=> hs x (by rw[e];exact Yx _ hx),e⟩
theorem Gl:laidOutB Tryz.prog=true:=a8
theorem Aw:mapsRowed Tryz.prog=true:=a8
theorem xW:∀t e,t<Tryz.prog.types.size→Tryz.prog.underlying t=some (.slice e)→0<Tryz.prog.cellsOf e:=slices_full_of Tryz.prog (a8)
theorem FH {f:Func}{s:ChangeSpec}{apart fresh handsOn:Bool}{W W':World}{args:Array Value}{ds gs:List (DataW H)}{before:List MemPlace}
 (hW:DataW.Whole enc Tryz.prog f.params.toList s.vars apart W args.toList ds gs before) (hvars:s.vars= []) (hr:f.resultTypes= #[4])
 (hfn:s.fn H (ds++gs)={results:= [.lit (.bool true)],args:=ds}) (hT:∀t∈f.params.toList,t<Tryz.prog.types.size) (hk:oD W W'):
 s.post enc Tryz.prog f apart fresh handsOn false W args (.bool true) W':=by
 have hlt:=hW.lt
 have hW0:=hW
 obtain⟨p,q,hA,hV,rfl,hfz,hnd⟩:=hW
 rw[hvars]at hV
 have hq:gs= []∧q= []:=by
  cases gs with
  |nil=> exact⟨rfl,hV⟩
  |cons a b=> exact hV.elim
 obtain⟨rfl,rfl⟩:=hq
 rw[Ym]at hlt hfn
 have hA':=oJ (W':=W') hA fun x hx=> hk.sameAt (hlt x hx)
 refine⟨ds, [],p++ [], [],p, [],hW0,?_,?_,?_,hk.keptBut _,fun h=> aW⟩
 ·rw[Ym,hfn,hr]
  exact trodAll_cons_mk (shut_bool Tryz.underlying4 _) trodAll_mk0
 ·rw[Ym,hfn]
  exact DataW.TrodAll.respare (T:=(· <Tryz.prog.types.size)) (kids_rows Gl Aw) xW hT hA' fun x hx=> Ys (hlt x hx)
 ·rw[hvars,Ym,hfn]
  rfl
end
theorem G8 {t:Nat}(h:t<300):t<Tryz.prog.types.size:=by
 have h2:300<Tryz.prog.types.size:=Yt (a8)
 omega
theorem Aa {H:Type}{l:List (DataW H)}(hk:Rows.uptoSmall H l=true):Rows.uptoBulkAll l≤1048576:=by
 unfold Rows.uptoSmall at hk
 exact Yt hk
theorem cMix:Tryz.prog.cellsOf 71=11:=a8
theorem cU64:Tryz.prog.cellsOf 54=1:=a8
theorem open_mix {H:Type}{enc:TypeId×Value→H}{W:World}{v:Value}{d:DataW H}{p:List MemPlace}(hval:∃base,Value.okWide Tryz.prog W .any base 71 v) (h:DataW.Trod enc Tryz.prog W 0 (fun _=> true) true 71 v d p):
 ∃(fv pv kv:SV) (kp:Int) (nn:Nat) (k2:List Nat) (a:PrA) (g:PrG) (fs:List FV) (lp:List (SV×SV)) (ps:List ja) (B1 B2 B3 B4:Nat),v= .agg [fv.val,pv.val, .int .i64 kp,a.av.val,a.cu.val,a.ne.val, .bool g.all,a.dr.val,a.co.val,kv.val, .int .u64 ((nn:Nat):Int)].toArray∧Sl [Old W] fv eF fs∧Sl [Old W] pv eP lp∧oS [Old W] lp ps∧gE [Old W] a g∧qA [Old W] a g∧Sl [Old W] kv eB k2∧
  B1+B2+B3+B4≤Rows.uptoBulk d∧6*fs.length≤B1∧(∀f∈fs,f.name.size+6≤B1)∧ps.length≤B2∧(∀q∈ps,D9 q≤B2)∧NJ g B3∧k2.length≤B4∧(∀x∈k2,x<256)∧nn<18446744073709551616:=by
 obtain⟨fuel,hf⟩:=h
 have hv:∃cs,v= .agg cs:=by
  obtain⟨_,hv⟩:=hval
  unfold Value.okWide at hv
  rw[Tryz.underlying71]at hv
  obtain⟨cs,rfl,_⟩:=hv
  exact⟨cs,rfl⟩
 obtain⟨cs,rfl⟩:=hv
 obtain⟨xs,m,_,hd,hl,hxl,hff⟩:=DataW.trod_struct Tryz.underlying71 hf
 simp only[Prod.mk.injEq]at hd
 obtain⟨rfl,rfl⟩:=hd
 rw[cMix]at hl
 obtain⟨l⟩:=cs
 simp only[Value.cells]at hl hff
 match l,hl with
 | [c0,c1,c2,c3,c4,c5,c6,c7,c8,c9,c10],_=>
  have g0:DataW.trod enc Tryz.prog W 0 (fun _=> true) true m 35 (([c0,c1,c2,c3,c4,c5,c6,c7,c8,c9,c10].drop 0).take (Tryz.prog.cellsOf 35))=xs[0]? :=hff 0 _ rfl
  rw[Pg]at g0
  have g1:DataW.trod enc Tryz.prog W 0 (fun _=> true) true m 31 (([c0,c1,c2,c3,c4,c5,c6,c7,c8,c9,c10].drop 9).take (Tryz.prog.cellsOf 31))=xs[1]? :=hff 1 _ rfl
  rw[QB]at g1
  have g2:DataW.trod enc Tryz.prog W 0 (fun _=> true) true m 54 (([c0,c1,c2,c3,c4,c5,c6,c7,c8,c9,c10].drop 10).take (Tryz.prog.cellsOf 54))=xs[2]? :=hff 2 _ rfl
  rw[cU64]at g2
  match xs,hxl with
  | [x0,x1,x2],_=>
   obtain⟨fv,pv,kp,a,g,fs,lp,ps,B1,B2,B3,hc,r1,r2,r3,r4,r5,r6,r7,r8,r9,r10,r11⟩:=rd_case _ _ x0 (show _=some x0 from g0)
   obtain⟨kv,k2,h1,a1,b1,q1⟩:=ir eB (Q:=fun a _=> a<256) Tryz.underlying31 Hx (fun n cs y h=> Jj n cs y h) (show _=some x1 from g1)
   obtain⟨k,h2,_,hw⟩:=DataW.trod_int Tryz.underlying54 (show _=some x2 from g2)
   have hwb:0≤k∧k≤18446744073709551615:=by simpa [Lit.wf,IntKind.min,IntKind.max,IntKind.signed,IntKind.bits] using hw
   simp at h1 h2 hc
   subst h1;subst h2
   obtain⟨rfl,rfl,rfl,rfl,rfl,rfl,rfl,rfl,rfl⟩:=hc
   have hB:Rows.uptoBulk x0.1+Rows.uptoBulk x1.1≤Rows.uptoBulk (DataW.agg ([x0,x1,x2].map (·.1))):=by
    simp only[List.map_cons,List.map_nil,Rows.uptoBulk,Rows.uptoBulkAll]
    omega
   try simp only at b1
   exact⟨fv,pv,kv,kp,k.toNat,k2,a,g,fs,lp,ps,B1,B2,B3,Rows.uptoBulk x1.1,by rw[Int.toNat_of_nonneg hwb.1],r1,r2,r3,r4,r5,jJ a1,aa,r7,r8,r9,r10,r11,aa,NG q1,aa⟩
theorem va_contract {H:Type}{enc:TypeId×Value→H}(W:World) (base:Nat) (args:Array Value) (ds gs:List (DataW H)) (before:List MemPlace)
 (hval:∀(j:Nat) t v,Tryz.f4.params[j]? =some t→args[j]? =some v→Value.okWide Tryz.prog W .any base t v)
 (hW:DataW.Whole enc Tryz.prog Tryz.f4.params.toList Rows.vmAlgebraSpec.vars false W args.toList ds gs before) (hk:Rows.uptoSmall H (ds++gs)=true) (hL:laidMetH Tryz.prog nh W):
 Calls Tryz.prog 4 args W fun e W'=> ∃v,e= .returned v∧Rows.vmAlgebraSpec.post enc Tryz.prog Tryz.f4 false true false false W args v W':=by
 have hW':=hW
 obtain⟨p,q,hA0,hV,rfl,hfz,hnd⟩:=hW
 have hA:DataW.TrodAll enc Tryz.prog W 0 (fun _=> true) true Tryz.f4.params.toList args.toList ds p:=hA0
 rw[Tryz.params4]at hA hval
 obtain⟨v0,vs0,d0,ds0,p0,q0,hargs,rfl,rfl,h0,r0⟩:=trodAll_cons hA
 obtain⟨rfl,rfl,rfl⟩:=trodAll_nil r0
 obtain rfl:args= #[v0]:=by cases args;simp_all
 have hb:=Aa hk
 have hd0:=oz (d:=d0) (l:= [d0]++gs) (an)
 obtain⟨fv,pv,kv,kp,nn,k2,a,g,fs,lp,ps,B1,B2,B3,B4,rfl,c1,c2,c3,c4,c5,ck,c6,c7,c8,c9,c10,c11,c12,c13,c14⟩:=open_mix ⟨base,hval 0 71 v0 rfl rfl⟩ h0
 obtain⟨f,hf,ht1,ht2,ht3,ht4⟩:=AA hL
 haveI:=Nn hf
 have hco:CaseA g fs ps k2 nn:=⟨Kv (B1:=B1) (B2:=B2) (B3:=B3) (aa) c7 c8 c9 c10 c11,by have:=c11.co;omega,c11.cb,aa,c13,c14⟩
 have hsc:=lawAlgebra (G:=kR W f) (H:= [Old W]) (fv:=fv) (pv:=pv) (a:=a) (p:=g) (fs:=fs) (lp:=lp) (ps:=ps) (kp:=kp) (kv:=kv) (n:=nn) (k2:=k2) IS Fk J0 Bd c3 hco
 refine(DR hsc).mono fun e W' ⟨he,hkept⟩=> ⟨_,he,?_⟩
 exact FH hW' rfl rfl (by
  obtain⟨rfl,rfl⟩:=trodVars_none hV
  rfl) (by
  intro t ht
  rw[Tryz.params4]at ht
  have:t=71:=by simpa using ht
  subst this;exact G8 (ag)) hkept
def va0:Array Value:= #[.agg #[.slice none 0 0, .slice none 0 0, .int .i64 0, .slice none 0 0, .slice none 0 0, .slice none 0 0, .bool false, .slice none 0 0, .slice none 0 0, .slice none 0 0, .int .u64 0]]
theorem va_reads (os:Os) {H:Type}(enc:TypeId×Value→H):DataW.whole enc Tryz.prog ((World.doorLaid Tryz.prog 521 os).forCall (fun _ _=> 0) ⟨#[],va0, []⟩).memory Tryz.f4.params.toList Rows.vmAlgebraSpec.vars false va0.toList 8=some ([.agg [.agg [.agg [.agg [.nil], .nil], .lit (.int .i64 0), .agg [.nil, .nil, .nil, .lit (.bool false), .nil, .nil]], .nil, .lit (.int .u64 0)]], [], []):=a8
theorem va_ok (os:Os):Input.okWideB Tryz.prog ((World.doorLaid Tryz.prog 521 os).forCall (fun _ _=> 0) ⟨#[],va0, []⟩) 4 ⟨#[],va0, []⟩=true:=a8
theorem va_sized (os:Os) {H:Type}(enc:TypeId×Value→H):(Rows.OpenSpec.upto Rows.vmAlgebraSpec).bare.sizedB enc Tryz.prog Tryz.f4 false ((World.doorLaid Tryz.prog 521 os).forCall (fun _ _=> 0) ⟨#[],va0, []⟩).memory va0 8=true:=a8
theorem va_lifted (os:Os) (started:os.Started) (H:Type) (enc:TypeId×Value→H) (F:Stop.Interp):
 ReturnsInHanded {} Tryz.checked os 4 .any ((Rows.OpenSpec.upto Rows.vmAlgebraSpec).preRow enc Tryz.prog Tryz.f4 Rows.vmAlgebraUptoRow.domain false Rows.vmAlgebraUptoRow.laid) (((Rows.OpenSpec.upto Rows.vmAlgebraSpec).at F).post enc Tryz.prog Tryz.f4 false true false false):=by
 refine returnsInHanded_of_row (C:=Tryz.checked) (s:=Rows.OpenSpec.upto Rows.vmAlgebraSpec) ym started (a8) Tryz.func4
  (witness_row_atRef (enc:=enc) (C:=Tryz.checked) false (World.doorLaid Tryz.prog 521 os) va0 rfl (Hn os _) (Ho os _) (va_ok os)
    (OpenSpec.preRow_of_cond 8 (va_reads os enc) (a8) (fun k hk=> by cases hk;kernel_rfl) (va_sized os enc) (Kl os _))) ?_
 intro W base args ds gs before hval hW _ hcond _ hL _ _
 exact va_contract W base args ds gs before hval hW (hcond _ rfl) hL
end Go.Proofs.YtefgpomabdplbaaGreatDoor
