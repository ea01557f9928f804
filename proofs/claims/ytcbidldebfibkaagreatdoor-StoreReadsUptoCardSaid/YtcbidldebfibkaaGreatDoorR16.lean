import Derived.Test.YtcbidldebfibkaaGreatDoorQ40
import Derived.LaidLaws
import Derived.Lib.LaidTab
import Derived.Deep.Slices
import Derived.ChangeArms
import Derived.Test.YtcbidldebfibkaaGreatDoorR4
import Derived.Test.YtcbidldebfibkaaGreatDoorR5
import Derived.Test.YtcbidldebfibkaaGreatDoorR6
import Derived.ReadAgain
import Derived.ChangeBears
import Derived.ChangeReads
import Derived.WalkKit
import Derived.ProofKit
import Derived.OpenShut
import Derived.Deep.DeepHandedRow
import Derived.Deep.DeepWitnessRowRef
import Derived.Test.YtcbidldebfibkaaGreatDoorCards
set_option linter.unusedVariables false
set_option linter.unusedSimpArgs false
set_option linter.unusedSectionVars false
set_option linter.unnecessarySimpa false
set_option maxHeartbeats 0
namespace Go.Proofs.YtcbidldebfibkaaGreatDoor
open Go.Sx
open Go Go.Sx
set_option maxRecDepth 100000
def FX:List (List UInt8):= [[99,111,110,99,111,114,100,58,32,115,99,104,101,109,97], [99,111,110,99,111,114,100,58,32,114,97,110,103,101], [99,111,110,99,111,114,100,58,32,116,111,111,32,115,104,111,114,116], [99,111,110,99,111,114,100,58,32,118,97,114,105,110,116], [99,111,110,99,111,114,100,58,32,108,105,109,105,116], [99,111,110,99,111,114,100,58,32,111,114,100,101,114], [99,111,110,99,111,114,100,58,32,116,97,105,108], [99,111,110,99,111,114,100,58,32,116,97,103], [99,111,110,99,111,114,100,58,32,115,117,109], [99,111,110,99,111,114,100,58,32,115,105,122,101], [99,111,110,99,111,114,100,58,32,99,111,114,114,117,112,116], [99,111,110,99,111,114,100,58,32,102,105,101,108,100], [99,111,110,99,111,114,100,58,32,118,97,108,117,101], [99,111,110,99,111,114,100,58,32,112,97,116,116,101,114,110], [99,111,110,99,111,114,100,58,32,115,116,97,116,101,115], [99,111,110,99,111,114,100,58,32,115,121,110,116,97,120], [99,111,110,99,111,114,100,58,32,116,111,111,32,100,101,101,112], [99,111,110,99,111,114,100,58,32,110,111,100,101], [99,111,110,99,111,114,100,58,32,116,111,111,32,109,97,110,121,32,116,101,114,109,115], [99,111,110,99,111,114,100,58,32,115,99,111,114,101,32,111,118,101,114,102,108,111,119], [99,111,110,99,111,114,100,58,32,99,111,100,101], [99,111,110,99,111,114,100,58,32,102,117,101,108], [99,111,110,99,111,114,100,58,32,100,111,99,117,109,101,110,116], [99,111,110,99,111,114,100,58,32,99,111,109,109,97,110,100]]
def td (i:Nat):List UInt8:=FX.getD i []
theorem yI:∀a b:Fin 24,td a.val=td b.val→a=b:=an
theorem ug {P:Program}{W:World}:∀{l:List (String×DataW Unit)}{ps:List MemPlace},DataW.LaidVars P W l ps→∀{n:String}{d:DataW Unit},(n,d)∈l→
 ∃g t cs fuel p,P.globalNamed n=some g∧(P.globals[g]?).map (·.type)=some t∧W.var? P n=some cs∧DataW.trod (fun _=> ()) P W 0 (fun _=> true) false fuel t cs.toList=some (d,p)∧(∀x∈MemPlace.row ⟨g,0,none⟩ cs.size,x∈ps)∧∀x∈p,x∈ps
 | [],_,_,n,d,hm=> by cases hm
 |(n',d')::r,ps,h,n,d,hm=> by
  obtain⟨g,t,cs,fuel,p,q,h1,h2,h3,h4,h5,rfl⟩:=h
  rcases List.mem_cons.1 hm with e|hm
  ·cases e
   exact⟨g,t,cs,fuel,p,h1,h2,h3,h4,fun x hx=> by simp[hx],fun x hx=> by simp[hx]⟩
  ·obtain⟨g',t',cs',fuel',p',k1,k2,k3,k4,k5,k6⟩:=ug h5 hm
   exact⟨g',t',cs',fuel',p',k1,k2,k3,k4,fun x hx=> Yx _ (k5 x hx),fun x hx=> Yx _ (k6 x hx)⟩
def Ly (W:World) (ps:List MemPlace):Prop:=∀b off,MemPlace.cell b off∈ps→(∃c t,W.heap[b]? =some (.cells c t (0,0)))∧∀u v,W.cell? ⟨b,off,none⟩=some (.iface u v)→Value.okWide Tryz.prog W .any 0 u v
def zf (W:World) (i:Nat) (q:Nat×Nat):Prop:=∃E c t s,W.heap[i]? =some (.cells #[.iface 368 (.pointer (some ⟨q.1,q.2,none⟩))] E (0,0))∧W.heap[q.1]? =some (.cells c t (0,0))∧W.cell? ⟨q.1,q.2,none⟩=some (.string s)∧s.data.toList=td i
theorem Jf: "*" ++ "errors.errorString" = "*errors.errorString" :=ag
theorem K5 (u:TypeId) (h:Tryz.prog.typeName? 3 u=some "*errors.errorString"):u=368:=
 typeName_ptr_named (nm:= "errors.errorString") (by rw[Jf];kernel_rfl) (aa) (ag) u (by rw[Jf];exact h)
theorem vf {W:World}{a:Addr}{v:Value}(h:W.cell? a=some v):a=⟨a.block,a.off,none⟩:=by
 obtain⟨b,o,s⟩:=a
 cases s with
 |none=> rfl
 |some x=>
  simp only[World.cell?,Option.isSome_some,if_true]at h
  split at h <;> cases h
theorem Gc:Tryz.prog.cellsOf 394=1:=aa
theorem Lo:Tryz.prog.cellsOf 9=1:=aa
theorem AP {P:Program}{W:World}{n:String}{g:Nat}{cs:Array Value}(hg:P.globalNamed n=some g) (h:W.var? P n=some cs):∃E fz,W.heap[g]? =some (.cells cs E fz):=by
 simp only[World.var?,hg,Option.bind_some]at h
 split at h
 ·rename_i cs' E fz he
  simp only[Option.some.injEq]at h
  subst h
  exact⟨E,fz,he⟩
 ·cases h
theorem dU {W:World}{l:List (String×DataW Unit)}{ps:List MemPlace}(hv:DataW.LaidVars Tryz.prog W l ps) (hc:Ly W ps) {n:String}{i:Nat}(hm:(n, .iface "*errors.errorString" (.ptr (.agg [.lit (.string (td i))])))∈l) (hg:Tryz.prog.globalNamed n=some i) (ht:(Tryz.prog.globals[i]?).map (·.type)=some 34):∃q,zf W i q:=by
 obtain⟨g,t,cs,fuel,p,h1,h2,h3,h4,h5,h6⟩:=ug hv hm
 obtain rfl:=Option.some.inj (hg.symm.trans h1)
 obtain rfl:=Option.some.inj (ht.symm.trans h2)
 obtain⟨E,fz,hb⟩:=AP hg h3
 have hok:∀u v,cs.toList= [.iface u v]→Value.okWide Tryz.prog W .any 0 u v:=by
  intro u v hcs
  have hsz:cs.size=1:=by rw[←Array.length_toList,hcs];rfl
  have hmem:MemPlace.cell i 0∈ps:=h5 _ (by rw[hsz];simp[MemPlace.row])
  refine(hc i 0 hmem).2 u v ?_
  rw[World.var?_cell hg h3 0,←Array.getElem?_toList,hcs];rfl
 obtain⟨a,s,hcs,hcell,htext,_,rfl⟩:=errorString_of_trod Tryz.underlying34 K5 Tryz.underlying368 Tryz.underlying394 rfl rfl Tryz.underlying9 Gc Lo h4 hok
 have hsz:cs.size=1:=by rw[←Array.length_toList,hcs];rfl
 obtain⟨c0,t0,hc0⟩:=(hc i 0 (h5 _ (by rw[hsz];simp[MemPlace.row]))).1
 obtain⟨c1,t1,hc1⟩:=(hc a.block a.off (h6 _ (by simp[MemPlace.row]))).1
 have ha:=vf hcell
 refine⟨(a.block,a.off),t0,c1,t1,s,?_,hc1,by rw[←ha];exact hcell,htext⟩
 rw[hc0]at hb
 cases hb
 rw[hc0,←ha]
 congr 2
 apply Array.ext'
 rw[hcs]
theorem gn0:Tryz.prog.globalNamed "concord/api.ErrSchema" =some 0:=aa
theorem gn1:Tryz.prog.globalNamed "concord/api.ErrRange" =some 1:=aa
theorem gn2:Tryz.prog.globalNamed "concord/api.ErrShort" =some 2:=aa
theorem gn3:Tryz.prog.globalNamed "concord/api.ErrVarint" =some 3:=aa
theorem gn4:Tryz.prog.globalNamed "concord/api.ErrLimit" =some 4:=aa
theorem gn5:Tryz.prog.globalNamed "concord/api.ErrOrder" =some 5:=aa
theorem gn6:Tryz.prog.globalNamed "concord/api.ErrTail" =some 6:=aa
theorem gn7:Tryz.prog.globalNamed "concord/api.ErrTag" =some 7:=aa
theorem gn8:Tryz.prog.globalNamed "concord/api.ErrSum" =some 8:=aa
theorem gn9:Tryz.prog.globalNamed "concord/api.ErrSize" =some 9:=aa
theorem NI:Tryz.prog.globalNamed "concord/api.ErrCorrupt" =some 10:=aa
theorem NH:Tryz.prog.globalNamed "concord/api.ErrField" =some 11:=aa
theorem NG:Tryz.prog.globalNamed "concord/api.ErrValue" =some 12:=aa
theorem NF:Tryz.prog.globalNamed "concord/api.ErrPattern" =some 13:=aa
theorem ND:Tryz.prog.globalNamed "concord/api.ErrStates" =some 14:=aa
theorem NC:Tryz.prog.globalNamed "concord/api.ErrSyntax" =some 15:=aa
theorem NB:Tryz.prog.globalNamed "concord/api.ErrDeep" =some 16:=aa
theorem NA:Tryz.prog.globalNamed "concord/api.ErrNode" =some 17:=aa
theorem Nz:Tryz.prog.globalNamed "concord/api.ErrTerms" =some 18:=aa
theorem Ny:Tryz.prog.globalNamed "concord/api.ErrScore" =some 19:=aa
theorem Nx:Tryz.prog.globalNamed "concord/api.ErrCode" =some 20:=aa
theorem Nw:Tryz.prog.globalNamed "concord/api.ErrFuel" =some 21:=aa
theorem Nv:Tryz.prog.globalNamed "concord/api.ErrDoc" =some 22:=aa
theorem Nu:Tryz.prog.globalNamed "concord/api.ErrCommand" =some 23:=aa
theorem kR:∀i:Fin 24,(Tryz.prog.globals[i.val]?).map (·.type)=some 34:=by
 have h:((List.range 24).all fun i=> decide ((Tryz.prog.globals[i]?).map (·.type)=some 34))=true:=aa
 intro i
 exact Yt (List.all_eq_true.1 h i.val (List.mem_range.2 i.isLt))
theorem NN {W:World}{ps:List MemPlace}(hv:DataW.LaidVars Tryz.prog W nS ps) (hc:Ly W ps):∀i,i<24→∃q,zf W i q
 | 0,_=> dU hv hc (Yj (i:=0) rfl) gn0 (kR 0)
 | 1,_=> dU hv hc (Yj (i:=1) rfl) gn1 (kR 1)
 | 2,_=> dU hv hc (Yj (i:=7) rfl) gn2 (kR 2)
 | 3,_=> dU hv hc (Yj (i:=10) rfl) gn3 (kR 3)
 | 4,_=> dU hv hc (Yj (i:=11) rfl) gn4 (kR 4)
 | 5,_=> dU hv hc (Yj (i:=2) rfl) gn5 (kR 5)
 | 6,_=> dU hv hc (Yj (i:=9) rfl) gn6 (kR 6)
 | 7,_=> dU hv hc (Yj (i:=3) rfl) gn7 (kR 7)
 | 8,_=> dU hv hc (Yj (i:=8) rfl) gn8 (kR 8)
 | 9,_=> dU hv hc (Yj (i:=12) rfl) gn9 (kR 9)
 | 10,_=> dU hv hc (Yj (i:=6) rfl) NI (kR 10)
 | 11,_=> dU hv hc (Yj (i:=13) rfl) NH (kR 11)
 | 12,_=> dU hv hc (Yj (i:=14) rfl) NG (kR 12)
 | 13,_=> dU hv hc (Yj (i:=15) rfl) NF (kR 13)
 | 14,_=> dU hv hc (Yj (i:=16) rfl) ND (kR 14)
 | 15,_=> dU hv hc (Yj (i:=17) rfl) NC (kR 15)
 | 16,_=> dU hv hc (Yj (i:=18) rfl) NB (kR 16)
 | 17,_=> dU hv hc (Yj (i:=19) rfl) NA (kR 17)
 | 18,_=> dU hv hc (Yj (i:=20) rfl) Nz (kR 18)
 | 19,_=> dU hv hc (Yj (i:=21) rfl) Ny (kR 19)
 | 20,_=> dU hv hc (Yj (i:=22) rfl) Nx (kR 20)
 | 21,_=> dU hv hc (Yj (i:=23) rfl) Nw (kR 21)
 | 22,_=> dU hv hc (Yj (i:=24) rfl) Nv (kR 22)
 | 23,_=> dU hv hc (Yj (i:=25) rfl) Nu (kR 23)
 |n+24,h=> absurd h (a8)
theorem MD:Tryz.prog.globalNamed "concord/frame.zipTable" =some 26:=aa
theorem L0:Tryz.prog.globalNamed "concord/frame.sealTable" =some 24:=aa
theorem MB:(Tryz.prog.globals[26]?).map (·.type)=some 215:=aa
theorem Nt:Tryz.prog.globalNamed "math/bits.deBruijn64tab" =some 25:=aa
theorem ME:Tryz.prog.globalNamed "strings.asciiSpace" =some 27:=aa
theorem Ns:(Tryz.prog.globals[25]?).map (·.type)=some 271:=aa
theorem MC:(Tryz.prog.globals[27]?).map (·.type)=some 345:=aa
theorem KZ:(Tryz.prog.globals[24]?).map (·.type)=some 215:=aa
theorem yX:Tryz.prog.cellsOf 146=1:=aa
theorem Ay:Tryz.prog.cellsOf 5=1:=aa
theorem Ge:Tryz.prog.cellsOf 271=64:=aa
theorem Gd:Tryz.prog.cellsOf 345=256:=aa
theorem yW:Tryz.prog.cellsOf 215=16:=aa
theorem sL {T e:TypeId}{z:Nat}{k:IntKind}(uT:Tryz.prog.underlying T=some (.array z e)) (ue:Tryz.prog.underlying e=some (.int k)) (ce:Tryz.prog.cellsOf e=1) (cT:Tryz.prog.cellsOf T=z) {W:World}{l:List (String×DataW Unit)}{ps:List MemPlace}(hv:DataW.LaidVars Tryz.prog W l ps) (hc:Ly W ps) {n:String}{i:Nat}{zs:List Int}(hm:(n,Lib.tabData k zs)∈l) (hg:Tryz.prog.globalNamed n=some i) (ht:(Tryz.prog.globals[i]?).map (·.type)=some T):∃E fz,W.heap[i]? =some (.cells (zs.map fun z=> Value.int k z).toArray E fz):=by
 obtain⟨g,t,cs,fuel,p,h1,h2,h3,h4,h5,h6⟩:=ug hv hm
 obtain rfl:=Option.some.inj (hg.symm.trans h1)
 obtain rfl:=Option.some.inj (ht.symm.trans h2)
 obtain⟨E,fz,hb⟩:=AP hg h3
 have:=Lib.cells_of_tab uT ue ce cT h4
 refine⟨E,fz,?_⟩
 rw[hb,←this]
def mf (W:World):nD:=W.heap.toList.zipIdx.map fun p=> (p.2,p.1)
theorem jj {W:World}{i:Nat}{o:Obj}:(i,o)∈mf W↔W.heap[i]? =some o:=by
 simp only[mf,List.mem_map,Prod.mk.injEq,Prod.exists]
 constructor
 ·rintro⟨o',j,hm,rfl,rfl⟩
  have:=List.mem_zipIdx_iff_getElem?.1 hm
  simpa using this
 ·intro h
  exact⟨o,i,List.mem_zipIdx_iff_getElem?.2 (bY),rfl,rfl⟩
theorem xj (W:World):((mf W).map (·.1)).Nodup:=by
 have:(mf W).map (·.1)=W.heap.toList.zipIdx.map (·.2):=by
  simp only[mf,List.map_map];rfl
 rw[this,List.zipIdx_map_snd]
 exact List.nodup_range'
def Old (W:World):Hp:=fun L=> L=mf W
theorem I2 {G:cM}{W:World}(hS:AD G W):Sat G W [Old W]:=
 ⟨hS,mf W,⟨mf W, [],aj,rfl,rfl⟩,xj W,fun x hx=> jj.1 hx⟩
theorem mV {W:World}{L:nD}(h:Sep [Old W] L):L=mf W:=by
 obtain⟨L1,L2,rfl,h1,h2⟩:=h
 have h1':L1=mf W:=h1
 have h2':L2= []:=h2
 rw[h1',h2',Ym]
theorem EJ {G:cM}{W W':World}(h:Sat G W' [Old W]) {i:Nat}{o:Obj}(ho:W.heap[i]? =some o):W'.heap[i]? =some o:=by
 obtain⟨_,L,hL,hl⟩:=h
 exact hl.at_ (i,o) (by rw[mV hL];exact jj.2 ho)
noncomputable def lH (W:World) (f:Nat→Nat×Nat):cM:=
 {os:=W.os,tape:=W.tape,output:=W.output,eT:=368,eb:=fun i=> if i<24 then(f i).1 else W.heap.size+i,eo:=fun i=> if i<24 then(f i).2 else 0}
instance {W:World}{f:Nat→Nat×Nat}:sI (lH W f):=⟨rfl⟩
theorem Cf (W:World) (f:Nat→Nat×Nat):AD (lH W f) W:=⟨rfl,rfl,rfl⟩
theorem L7 {W:World}{f:Nat→Nat×Nat}(hf:∀i,i<24→zf W i (f i)):Glb (lH W f) [Old W] where
 err:=by
  intro i hi L hL
  obtain⟨E,c,t,s,h1,_⟩:=hf i hi
  refine⟨E,(0,0),?_⟩
  rw[mV hL]
  refine jj.2 ?_
  rw[h1]
  simp only[cM.err,lH,hi,if_true]
 blk:=by
  intro i hi L hL
  obtain⟨E,c,t,s,_,h2,_⟩:=hf i hi
  refine⟨c,t,?_⟩
  rw[mV hL]
  refine jj.2 ?_
  simp only[lH,hi,if_true]
  exact h2
 inj:=by
  intro a b h1 h2
  have lt:∀i,i<24→(f i).1<W.heap.size:=fun i hi=> by
   obtain⟨E,c,t,s,_,h2,_⟩:=hf i hi
   exact(Array.getElem?_eq_some_iff.1 h2).1
  by_cases ha:a<24 <;> by_cases hb:b<24
  ·simp only[lH,ha,hb,if_true]at h1 h2
   obtain⟨_,_,_,s,_,_,q1,q2⟩:=hf a ha
   obtain⟨_,_,_,s',_,_,q3,q4⟩:=hf b hb
   rw[h1,h2,q3]at q1
   have e:s'=s:=by simpa using q1
   have:=yI ⟨a,ha⟩ ⟨b,hb⟩ (by rw[←q2,←q4,e])
   simpa using this
  ·simp only[lH,ha,hb,if_true,if_false]at h1
   have:=lt a ha;omega
  ·simp only[lH,ha,hb,if_true,if_false]at h1
   have:=lt b hb;omega
  ·simp only[lH,ha,hb,if_false]at h1
   omega
theorem Dt {W:World}{i:Nat}{l:List Nat}(h:∃E fz,W.heap[i]? =some (.cells (l.map fun n=> Value.int .u32 ((n:Nat):Int)).toArray E fz)):Tab [Old W] i l where
 out:=by
  intro L hL
  obtain⟨E,fz,h⟩:=h
  exact⟨E,fz,by rw[mV hL];exact jj.2 h⟩
theorem GQ {W:World}{i:Nat}{l:List Nat}(h:∃E fz,W.heap[i]? =some (.cells (l.map fun n=> Value.int .u8 ((n:Nat):Int)).toArray E fz)):qO [Old W] i l where
 out:=by
  intro L hL
  obtain⟨E,fz,h⟩:=h
  exact⟨E,fz,by rw[mV hL];exact jj.2 h⟩
theorem DL:(Lib.asciiSpaceTab.map fun z=> Value.int .u8 z).toArray=((List.range 256).map fun i=> Value.int .u8 (if i=9∨i=10∨i=11∨i=12∨i=13∨i=32 then 1 else 0)).toArray:=by
 have e:Lib.asciiSpaceTab=(List.range 256).map fun i=> (if i=9∨i=10∨i=11∨i=12∨i=13∨i=32 then(1:Int)else 0):=an
 rw[e,List.map_map];rfl
theorem JW {W:World}(h:∃E fz,W.heap[27]? =some (.cells ((Lib.asciiSpaceTab).map fun z=> Value.int .u8 z).toArray E fz)):Spc [Old W] where
 out:=by
  intro L hL
  obtain⟨E,fz,h⟩:=h
  rw[DL]at h
  exact⟨E,fz,by rw[mV hL];exact jj.2 h⟩
theorem A3 {W:World}(h:laidMetH Tryz.prog nS W):∃f:Nat→Nat×Nat,(∀i,i<24→zf W i (f i))∧Tab [Old W] 26 ig∧Tab [Old W] 24 fF∧qO [Old W] 25 tzT∧Spc [Old W]:=by
 have hno:(nS.filter fun x=> x.2.handleName?.isSome)= []:=aa
 rw[laidMetH,hno]at h
 obtain⟨ps,hv,_,hc⟩:=h
 obtain⟨f,hf⟩:=Deep.choose_lt (α:=Nat×Nat) (p:=fun i q=> zf W i q) (NN hv hc)
 refine⟨f,hf,Dt ?_,Dt ?_,GQ ?_,JW ?_⟩
 ·exact sL Tryz.underlying215 Tryz.underlying146 yX yW hv hc (zs:=ig.map fun n=> ((n:Nat):Int)) (Yj (i:=4) rfl) MD MB
 ·exact sL Tryz.underlying215 Tryz.underlying146 yX yW hv hc (zs:=fF.map fun n=> ((n:Nat):Int)) (Yj (i:=5) rfl) L0 KZ
 ·exact sL Tryz.underlying271 Tryz.underlying5 Ay Ge hv hc (zs:=tzT.map fun n=> ((n:Nat):Int)) (Yj (i:=28) rfl) Nt Ns
 ·exact sL Tryz.underlying345 Tryz.underlying5 Ay Gd hv hc (zs:=Lib.asciiSpaceTab) (Yj (i:=26) rfl) ME MC
theorem Gf {H:Type}(d:DataW H):1≤Rows.uptoBulk d:=by
 cases d with
 |lit l=> cases l <;> simp[Rows.uptoBulk]
 |nil=> simp[Rows.uptoBulk]
 |ptr d=> simp[Rows.uptoBulk]
 |slice elems spare=> simp[Rows.uptoBulk]
 |agg parts=> simp[Rows.uptoBulk]
 |iface t d=> simp[Rows.uptoBulk]
 |map entries=> simp[Rows.uptoBulk]
 |held h=> simp[Rows.uptoBulk]
theorem D2 {H:Type}{d:DataW H}{l:List (DataW H)}(h:d∈l):Rows.uptoBulk d≤Rows.uptoBulkAll l:=by
 induction l with
 |nil=> cases h
 |cons x r ih=>
  simp only[Rows.uptoBulkAll]
  rcases List.mem_cons.1 h with e|e
  ·subst e;omega
  ·have:=ih e;omega
theorem Gg {H:Type}(l:List (DataW H)):l.length≤Rows.uptoBulkAll l:=by
 induction l with
 |nil=> simp[Rows.uptoBulkAll]
 |cons x r ih=> have:=Gf x;simp only[Rows.uptoBulkAll,Yb];omega
section
variable {H:Type}{enc:TypeId×Value→H}{W:World}
theorem Hj {α:Type}(e:Enc α) {Q:α→DataW H→Prop}{t el:TypeId}{fuel:Nat}{cs:List Value}{x:DataW H×List MemPlace}(ht:Tryz.prog.underlying t=some (.slice el)) (hc:Tryz.prog.cellsOf el=e.sz)
 (hrd:∀(n:Nat) (cs':List Value) (y:DataW H×List MemPlace),DataW.trod enc Tryz.prog W 0 (fun _=> true) true n el cs'=some y→∃a:α,cs'=e.f a∧Q a y.1)
 (h:DataW.trod enc Tryz.prog W 0 (fun _=> true) true fuel t cs=some x):
 ∃(s:SV) (xs:List α),cs= [s.val]∧SlL s e xs (mf W)∧xs.length+1≤Rows.uptoBulk x.1∧(xs= []∨∃ds sp,x.1= .slice ds sp∧ds.length=xs.length∧∀(i:Nat) (a:α) (d:DataW H),xs[i]? =some a→ds[i]? =some d→Q a d):=by
 rcases Deep.open_slice ht h with⟨rfl,rfl⟩|⟨a,len,cap,m,n,D,Pl,rfl,_,hl,hm,hmm,rfl,hx⟩
 ·exact⟨SV.nil, [],rfl,⟨rfl,Nat.le_refl _, .inl ⟨rfl,rfl⟩⟩,by simp[Rows.uptoBulk], .inl rfl⟩
 ·simp only[if_true]at hmm
  subst hmm
  rw[hc]at hx
  have hbulk:∀k,k=len→k+1≤Rows.uptoBulk (DataW.slice ((List.range len).map D) ((List.range (m - len)).map fun j=> D (len+j))):=by
   intro k hk
   have:=Gg ((List.range len).map D)
   simp only[Yh,List.length_range]at this
   simp only[Rows.uptoBulk];omega
  by_cases h0:m=0
  ·subst h0
   obtain rfl:len=0:=a8
   exact⟨⟨some a,0,0⟩, [],rfl,⟨rfl,Nat.le_refl _, .inl ⟨rfl,rfl⟩⟩,hbulk 0 rfl, .inl rfl⟩
  ·have hel:∀i,i<m→∃y:α,W.cells? 0 (a.add (i*e.sz)) e.sz=some (e.f y)∧Q y (D i):=by
    intro i hi
    obtain⟨cs',h1,h2⟩:=hx i hi
    obtain⟨y,rfl,hq⟩:=hrd n cs' _ h2
    exact⟨y,h1,hq⟩
   obtain⟨y0,hy0,_⟩:=hel 0 (a8)
   haveI:Inhabited α:=⟨y0⟩
   obtain⟨f,hf⟩:=Deep.choose_lt hel
   have hcell:∀i,i<m→∀k,k<e.sz→W.cell? (a.add (i*e.sz+k))=(e.f (f i))[k]? :=by
    intro i hi k hk
    have:=(World.cells?_some (hf i hi).1).2.2 k hk
    rw[Deep.add_add]at this
    exact this
   have hpos:=e.pos
   have hsome:∀i,i<m→∀k,k<e.sz→∃v,(e.f (f i))[k]? =some v:=fun i hi k hk=> ⟨_,Yi (by rw[e.len];exact hk)⟩
   obtain⟨v0,hv0⟩:=hsome 0 (a8) 0 hpos
   have hc0:=hcell 0 (a8) 0 hpos
   rw[hv0,Nat.zero_mul,Nat.zero_add,show a.add 0=a by simp[Addr.add]]at hc0
   have ha:=vf hc0
   obtain⟨b,off,sp⟩:=a
   simp only[Addr.mk.injEq,true_and]at ha
   subst ha
   have hblk:∃C E fz,W.heap[b]? =some (.cells C E fz):=by
    simp only[World.cell?]at hc0
    split at hc0
    ·rename_i C E fz he;exact⟨C,E,fz,he⟩
    ·cases hc0
   obtain⟨C,E,fz,hb⟩:=hblk
   have hC:∀i,i<m→∀k,k<e.sz→C[off+(i*e.sz+k)]? =(e.f (f i))[k]? :=by
    intro i hi k hk
    rw[←hcell i hi k hk,iK,nn hb]
   have hsz:off+m*e.sz≤C.size:=by
    obtain⟨v,hv⟩:=hsome (m - 1) (a8) (e.sz - 1) (a8)
    have h1:=hC (m - 1) (a8) (e.sz - 1) (a8)
    rw[hv]at h1
    have h2:=(Array.getElem?_eq_some_iff.1 h1).1
    have h3:(m - 1)*e.sz+e.sz=m*e.sz:=by
     rw[show(m - 1)*e.sz+e.sz=(m - 1+1)*e.sz from bE]
     congr 1;omega
    omega
   refine⟨⟨some ⟨b,off,none⟩,len,m⟩,(List.range len).map f,rfl,⟨aj,hl, .inr ⟨b,off,C,E,fz,rfl,jj.2 hb,hsz,?_⟩⟩,hbulk _ (aj), .inr ⟨_,_,rfl,aj,?_⟩⟩
   ·intro j v hv
    have hj:j<len*e.sz:=by
     have:=(Yk.1 hv).1
     rw[e.all_length]at this
     simpa using this
    have hi:j / e.sz<len:=(Nat.div_lt_iff_lt_mul hpos).2 hj
    have hk:j % e.sz<e.sz:=Nat.mod_lt _ hpos
    have hd:j=j / e.sz*e.sz+j % e.sz:=by
     have:=Nat.div_add_mod j e.sz
     rw[Nat.mul_comm]at this;omega
    have h1:=e.all_get ((List.range len).map f) (j / e.sz) (j % e.sz) (f (j / e.sz)) (by simp[hi]) hk
    rw[←hd,hv]at h1
    rw[hd,hC _ (a8) _ hk,←h1]
   ·intro i y d hy hd
    have hi:i<len:=by
     have:=(Yk.1 hy).1
     simpa using this
    simp[hi]at hy hd
    subst hy;subst hd
    exact(hf i (a8)).2
end
section
variable {H:Type}{enc:TypeId×Value→H}{W:World}
theorem HA (n:Nat) (cs:List Value) (y:DataW H×List MemPlace) (h:DataW.trod enc Tryz.prog W 0 (fun _=> true) true n 5 cs=some y):∃a:Nat,cs=eB.f a∧a<256:=by
 obtain⟨k,rfl,_,hw⟩:=DataW.trod_int Tryz.underlying5 h
 have:0≤k∧k≤255:=by simpa [Lit.wf,IntKind.min,IntKind.max,IntKind.signed,IntKind.bits] using hw
 refine⟨k.toNat,?_,a8⟩
 show [Value.int .u8 k]= [Value.int .u8 ((k.toNat:Nat):Int)]
 rw[Int.toNat_of_nonneg this.1]
theorem Lw {α:Type}{xs:List α}{β:Type}{g:DataW β}{Q:α→Prop}(h:xs= []∨∃(ds sp:List (DataW β)),g= .slice ds sp∧ds.length=xs.length∧∀(i:Nat) (a:α) (d:DataW β),xs[i]? =some a→ds[i]? =some d→Q a):∀x∈xs,Q x:=by
 rcases h with rfl|⟨ds,sp,_,hl,hq⟩
 ·intro x hx;cases hx
 ·intro x hx
  obtain⟨i,hi⟩:=List.mem_iff_getElem?.1 hx
  have:=(Yk.1 hi).1
  exact hq i x _ hi (Yi (a8))
theorem JX {s:SV}{α:Type}{e:Enc α}{xs:List α}(h:SlL s e xs (mf W)):Sl [Old W] s e xs:=⟨fun L hL=> by rw[mV hL];exact h⟩
theorem I0 {v:Value}{d:DataW H}{p:List MemPlace}(hval:∃base,Value.okWide Tryz.prog W .any base 29 v) (h:DataW.Trod enc Tryz.prog W 0 (fun _=> true) true 29 v d p):
 ∃(s:SV) (xs:List Nat),v=s.val∧SlL s eB xs (mf W)∧(∀x∈xs,x<256)∧xs.length≤Rows.uptoBulk d:=by
 obtain⟨fuel,hf⟩:=h
 obtain⟨s,xs,h0,a0,b0,r0⟩:=Hj eB (Q:=fun a _=> a<256) Tryz.underlying29 Ay (fun n cs y h=> HA n cs y h) hf
 refine⟨s,xs,?_,a0,Lw r0,by simp only at b0;omega⟩
 obtain⟨base,hv⟩:=hval
 unfold Value.okWide at hv
 rw[Tryz.underlying29]at hv
 simp only at hv
 unfold Cell.okWide at hv
 rw[Tryz.underlying29]at hv
 unfold SV.val at h0⊢
 cases v <;> simp[Value.cells,Cell.ok,Tryz.underlying29]at h0 hv⊢
 exact h0
end
open Go Go.Sx Go.ChangeShapes Go.WideShapes Go.ChangeAt Go.RowKit
def oL (W W':World):Prop:=W'.os=W.os∧W'.output=W.output∧∀(i:Nat) (o:Obj),W.heap[i]? =some o→W'.heap[i]? =some o
theorem D1 {f:FuncId}{args:List Value}{W:World}{g:Nat→Nat×Nat}(h:SC (lH W g) Tryz.prog f args [Old W] (fun v H'=> v= .bool true∧H'= [Old W])):
 Calls Tryz.prog f args.toArray W fun e W'=> e= .returned (.bool true)∧oL W W':=
 (h.call W (I2 (Cf W g))).mono fun e W' he=> by
   cases e with
   |returned v=>
    obtain⟨H',hs,rfl,rfl⟩:=he
    exact⟨rfl,hs.1.os,hs.1.output,fun i o ho=> EJ hs ho⟩
   |_=> exact he.elim
theorem oL.keptBut {W W':World}(h:oL W W') (may:MemPlace→Prop):W.keptBut W' may:=by
 refine⟨h.1,h.2.1,fun i hi=> ?_⟩
 obtain⟨o,ho⟩:∃o,W.heap[i]? =some o:=⟨_,Array.getElem?_eq_getElem hi⟩
 rw[ho,h.2.2 i o ho]
 cases o with
 |cells c t fr=> exact⟨rfl,rfl,rfl,fun _ _=> rfl⟩
 |map es clock=> exact Or.inr ⟨rfl,rfl⟩
 |_=> rfl
theorem oL.sameAt {W W':World}(h:oL W W') {p:MemPlace}(hp:p.block<W.heap.size):W.sameAt W' p:=by
 obtain⟨o,ho⟩:∃o,W.heap[p.block]? =some o:=⟨_,Array.getElem?_eq_getElem hp⟩
 have h2:=h.2.2 _ _ ho
 cases p with
 |cell b off=>
  have e:W'.heap[b]? =W.heap[b]? :=h2.trans ho.symm
  show W'.cell? ⟨b,off,none⟩=W.cell? ⟨b,off,none⟩
  simp only[World.cell?,e]
 |map b=> exact h2.trans ho.symm
section
variable {H:Type}{enc:TypeId×Value→H}
theorem oS {P:Program}{W W':World}{base:Nat}{sp:Nat→Bool}{held:Bool}:∀{ts:List TypeId}{vs:List Value}{ds:List (DataW H)}{ps:List MemPlace},DataW.TrodAll enc P W base sp held ts vs ds ps→(∀p∈ps,W.sameAt W' p)→DataW.TrodAll enc P W' base sp held ts vs ds ps
 | [], [], [],_,h,_=> h
 |_::_,_::_,_::_,_,⟨p,q,⟨n,h1⟩,h2,e⟩,hs=> ⟨p,q,⟨n,DataW.trod_carry n _ _ _ h1 fun x hx=> hs x (by rw[e];exact Yy _ hx)⟩,oS h2 fun x hx=> hs x (by rw[e];exact Yx _ hx),e⟩
theorem Fk:laidOutB Tryz.prog=true:=aa
theorem zZ:mapsRowed Tryz.prog=true:=aa
theorem xJ:∀t e,t<Tryz.prog.types.size→Tryz.prog.underlying t=some (.slice e)→0<Tryz.prog.cellsOf e:=slices_full_of Tryz.prog (aa)
theorem Ey {f:Func}{s:ChangeSpec}{apart fresh handsOn:Bool}{W W':World}{args:Array Value}{ds gs:List (DataW H)}{before:List MemPlace}
 (hW:DataW.Whole enc Tryz.prog f.params.toList s.vars apart W args.toList ds gs before) (hvars:s.vars= []) (hr:f.resultTypes= #[4])
 (hfn:s.fn H (ds++gs)={results:= [.lit (.bool true)],args:=ds}) (hT:∀t∈f.params.toList,t<Tryz.prog.types.size) (hk:oL W W'):
 s.post enc Tryz.prog f apart fresh handsOn false W args (.bool true) W':=by
 have hlt:=hW.lt
 have hW0:=hW
 obtain⟨p,q,hA,hV,rfl,hfz,hnd⟩:=hW
 rw[hvars]at hV
 have hq:gs= []∧q= []:=by
  cases gs with
  |nil=> exact⟨rfl,hV⟩
  |cons a b=> exact hV.elim
 obtain⟨rfl,rfl⟩:=hq
 rw[Ym]at hlt hfn
 have hA':=oS (W':=W') hA fun x hx=> hk.sameAt (hlt x hx)
 refine⟨ds, [],p++ [], [],p, [],hW0,?_,?_,?_,hk.keptBut _,fun h=> bC⟩
 ·rw[Ym,hfn,hr]
  exact trodAll_cons_mk (shut_bool Tryz.underlying4 _) trodAll_mk0
 ·rw[Ym,hfn]
  exact DataW.TrodAll.respare (T:=(· <Tryz.prog.types.size)) (kids_rows Fk zZ) xJ hT hA' fun x hx=> Ys (hlt x hx)
 ·rw[hvars,Ym,hfn]
  rfl
end
theorem EY {t:Nat}(h:t<300):t<Tryz.prog.types.size:=by
 have h2:300<Tryz.prog.types.size:=Yt (aa)
 omega
theorem zA {H:Type}{l:List (DataW H)}(hk:Rows.uptoSmall H l=true):Rows.uptoBulkAll l≤1048576:=by
 unfold Rows.uptoSmall at hk
 exact Yt hk
theorem wB {H:Type}{enc:TypeId×Value→H}(W:World) (base:Nat) (args:Array Value) (ds gs:List (DataW H)) (before:List MemPlace)
 (hval:∀(j:Nat) t v,Tryz.f7.params[j]? =some t→args[j]? =some v→Value.okWide Tryz.prog W .any base t v)
 (hW:DataW.Whole enc Tryz.prog Tryz.f7.params.toList Rows.storeReadsSpec.vars false W args.toList ds gs before) (hk:Rows.uptoSmall H (ds++gs)=true) (hL:laidMetH Tryz.prog nS W):
 Calls Tryz.prog 7 args W fun e W'=> ∃v,e= .returned v∧Rows.storeReadsSpec.post enc Tryz.prog Tryz.f7 false true false false W args v W':=by
 have hW':=hW
 obtain⟨p,q,hA0,hV,rfl,hfz,hnd⟩:=hW
 have hA:DataW.TrodAll enc Tryz.prog W 0 (fun _=> true) true Tryz.f7.params.toList args.toList ds p:=hA0
 rw[Tryz.params7]at hA hval
 obtain⟨v0,vs0,d0,ds0,p0,q0,hargs,rfl,rfl,h0,r0⟩:=trodAll_cons hA
 obtain⟨rfl,rfl,rfl⟩:=trodAll_nil r0
 obtain rfl:args= #[v0]:=by cases args;simp_all
 have hb:=zA hk
 have hd0:=D2 (d:=d0) (l:= [d0]++gs) (aj)
 obtain⟨s,xs,rfl,hS,hx,hl⟩:=I0 ⟨base,hval 0 29 v0 rfl rfl⟩ h0
 obtain⟨g,hg,ht1,ht2,ht3,ht4⟩:=A3 hL
 haveI:=L7 hg
 haveI:=JX hS
 have hsc:=Ff (G:=lH W g) (H:= [Old W]) (s:=s) (xs:=xs) Hd DM (a8) hx
 refine(D1 hsc).mono fun e W' ⟨he,hkept⟩=> ⟨_,he,?_⟩
 exact Ey hW' rfl rfl (by
  obtain⟨rfl,rfl⟩:=trodVars_none hV
  rfl) (by
  intro t ht
  rw[Tryz.params7]at ht
  have:t=29:=by simpa using ht
  subst this;exact EY (ag)) hkept
theorem Cq (os:Os) {H:Type}(enc:TypeId×Value→H):DataW.whole enc Tryz.prog ((World.doorLaid Tryz.prog 2000 os).forCall (fun _ _=> 0) ⟨#[], #[.slice none 0 0], []⟩).memory Tryz.f7.params.toList Rows.storeReadsSpec.vars false #[Value.slice none 0 0].toList 8=some ([.nil], [], []):=aa
theorem Kb (os:Os):Input.okWideB Tryz.prog ((World.doorLaid Tryz.prog 2000 os).forCall (fun _ _=> 0) ⟨#[], #[.slice none 0 0], []⟩) 7 ⟨#[], #[.slice none 0 0], []⟩=true:=aa
theorem Cp (os:Os) {H:Type}(enc:TypeId×Value→H):(Rows.OpenSpec.upto Rows.storeReadsSpec).bare.sizedB enc Tryz.prog Tryz.f7 false ((World.doorLaid Tryz.prog 2000 os).forCall (fun _ _=> 0) ⟨#[], #[.slice none 0 0], []⟩).memory #[.slice none 0 0] 8=true:=aa
theorem zO (os:Os) (started:os.Started) (H:Type) (enc:TypeId×Value→H) (F:Stop.Interp):
 ReturnsInHanded {} Tryz.checked os 7 .any ((Rows.OpenSpec.upto Rows.storeReadsSpec).preRow enc Tryz.prog Tryz.f7 Rows.storeReadsUptoRow.domain false Rows.storeReadsUptoRow.laid) (((Rows.OpenSpec.upto Rows.storeReadsSpec).at F).post enc Tryz.prog Tryz.f7 false true false false):=by
 refine returnsInHanded_of_row (C:=Tryz.checked) (s:=Rows.OpenSpec.upto Rows.storeReadsSpec) yg started (aa) Tryz.func7
  (witness_row_atRef (enc:=enc) (C:=Tryz.checked) false (World.doorLaid Tryz.prog 2000 os) #[.slice none 0 0] rfl (G2 os _) (G3 os _) (Kb os)
    (OpenSpec.preRow_of_cond 8 (Cq os enc) (aa) (fun k hk=> by cases hk;kernel_rfl) (Cp os enc) (IT os _))) ?_
 intro W base args ds gs before hval hW _ hcond _ hL _ _
 exact wB W base args ds gs before hval hW (hcond _ rfl) hL
end Go.Proofs.YtcbidldebfibkaaGreatDoor
