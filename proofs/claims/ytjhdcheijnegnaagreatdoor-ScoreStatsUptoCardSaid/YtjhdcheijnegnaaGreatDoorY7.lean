import Derived.Test.YtjhdcheijnegnaaGreatDoorQ35
import Derived.Test.YtjhdcheijnegnaaGreatDoorY1
import Derived.LaidLaws
import Derived.Lib.LaidTab
import Derived.Deep.Slices
set_option linter.all false
set_option maxHeartbeats 0
namespace Go.Proofs.YtjhdcheijnegnaaGreatDoor
open Go.Sx
open Go
set_option maxRecDepth 100000
def Gs:List (List UInt8):= [[99,111,110,99,111,114,100,58,32,115,99,104,101,109,97], [99,111,110,99,111,114,100,58,32,114,97,110,103,101], [99,111,110,99,111,114,100,58,32,116,111,111,32,115,104,111,114,116], [99,111,110,99,111,114,100,58,32,118,97,114,105,110,116], [99,111,110,99,111,114,100,58,32,108,105,109,105,116], [99,111,110,99,111,114,100,58,32,111,114,100,101,114], [99,111,110,99,111,114,100,58,32,116,97,105,108], [99,111,110,99,111,114,100,58,32,116,97,103], [99,111,110,99,111,114,100,58,32,115,117,109], [99,111,110,99,111,114,100,58,32,115,105,122,101], [99,111,110,99,111,114,100,58,32,99,111,114,114,117,112,116], [99,111,110,99,111,114,100,58,32,102,105,101,108,100], [99,111,110,99,111,114,100,58,32,118,97,108,117,101], [99,111,110,99,111,114,100,58,32,112,97,116,116,101,114,110], [99,111,110,99,111,114,100,58,32,115,116,97,116,101,115], [99,111,110,99,111,114,100,58,32,115,121,110,116,97,120], [99,111,110,99,111,114,100,58,32,116,111,111,32,100,101,101,112], [99,111,110,99,111,114,100,58,32,110,111,100,101], [99,111,110,99,111,114,100,58,32,116,111,111,32,109,97,110,121,32,116,101,114,109,115], [99,111,110,99,111,114,100,58,32,115,99,111,114,101,32,111,118,101,114,102,108,111,119], [99,111,110,99,111,114,100,58,32,99,111,100,101], [99,111,110,99,111,114,100,58,32,102,117,101,108], [99,111,110,99,111,114,100,58,32,100,111,99,117,109,101,110,116], [99,111,110,99,111,114,100,58,32,99,111,109,109,97,110,100]]
def rO (i:Nat):List UInt8:=Gs.getD i []
theorem yp:∀a b:Fin 24,rO a.val=rO b.val→a=b:=ao
theorem pK {P:Program}{W:World}:∀{l:List (String×DataW Unit)}{ps:List MemPlace},DataW.LaidVars P W l ps→∀{n:String}{d:DataW Unit},(n,d)∈l→
 ∃g t cs fuel p,P.globalNamed n=some g∧(P.globals[g]?).map (·.type)=some t∧W.var? P n=some cs∧DataW.trod (λ_=>()) P W 0 (λ_=>true) false fuel t cs.toList=some (d,p)∧(∀x∈MemPlace.row ⟨g,0,none⟩ cs.size,x∈ps)∧∀x∈p,x∈ps
 | [],_,_,n,d,hm=>by cases hm
 |(n',d')::r,ps,h,n,d,hm=>by
  obtain⟨g,t,cs,fuel,p,q,h1,h2,h3,h4,h5,rfl⟩:=h
  rcases Xr.1 hm with e|hm
  ·cases e
   exact⟨g,t,cs,fuel,p,h1,h2,h3,h4,λx hx=>by simp[hx],λx hx=>by simp[hx]⟩
  ·obtain⟨g',t',cs',fuel',p',k1,k2,k3,k4,k5,k6⟩:=pK h5 hm
   exact⟨g',t',cs',fuel',p',k1,k2,k3,k4,λx hx=>Yx _ (k5 x hx),λx hx=>Yx _ (k6 x hx)⟩
def ML (W:World) (ps:List MemPlace):Prop:=∀b off,MemPlace.cell b off∈ps→(∃c t,W.heap[b]? =some (.cells c t (0,0)))∧∀u v,W.cell? ⟨b,off,none⟩=some (.iface u v)→Value.okWide Tryz.prog W .any 0 u v
def vH (W:World) (i:Nat) (q:Nat×Nat):Prop:=∃E c t s,W.heap[gix i]? =some (.cells #[.iface 326 (.pointer (some ⟨q.1,q.2,none⟩))] E (0,0))∧W.heap[q.1]? =some (.cells c t (0,0))∧W.cell? ⟨q.1,q.2,none⟩=some (.string s)∧s.data.toList=rO i
theorem JQ: "*" ++ "errors.errorString" = "*errors.errorString" :=ae
theorem Lt (u:TypeId) (h:Tryz.prog.typeName? 3 u=some "*errors.errorString"):u=326:=
 typeName_ptr_named (nm:= "errors.errorString") (by rw[JQ];kernel_rfl) (aa) (ae) u (by rw[JQ];exact h)
theorem uD {W:World}{a:Addr}{v:Value}(h:W.cell? a=some v):a=⟨a.block,a.off,none⟩:=by
 obtain⟨b,o,s⟩:=a
 cases s with
 |none=>rfl
 |some x=>
  simp only[World.cell?,Option.isSome_some,if_true]at h
  split at h <;> cases h
theorem GK:Tryz.prog.cellsOf 328=1:=aa
theorem tR:Tryz.prog.cellsOf 9=1:=aa
theorem vK {P:Program}{W:World}{n:String}{g:Nat}{cs:Array Value}(hg:P.globalNamed n=some g) (h:W.var? P n=some cs):∃E fz,W.heap[g]? =some (.cells cs E fz):=by
 simp only[World.var?,hg,Option.bind_some]at h
 split at h
 ·rename_i cs' E fz he
  simp only[Option.some.injEq]at h
  subst h
  exact⟨E,fz,he⟩
 ·cases h
theorem dY {W:World}{l:List (String×DataW Unit)}{ps:List MemPlace}(hv:DataW.LaidVars Tryz.prog W l ps) (hc:ML W ps) {n:String}{i:Nat}(hm:(n,.iface "*errors.errorString" (.ptr (.agg [.lit (.string (rO i))])))∈l) (hg:Tryz.prog.globalNamed n=some (gix i)) (ht:(Tryz.prog.globals[gix i]?).map (·.type)=some 47):∃q,vH W i q:=by
 obtain⟨g,t,cs,fuel,p,h1,h2,h3,h4,h5,h6⟩:=pK hv hm
 obtain rfl:=Xo (hg.symm.trans h1)
 obtain rfl:=Xo (ht.symm.trans h2)
 obtain⟨E,fz,hb⟩:=vK hg h3
 have hok:∀u v,cs.toList= [.iface u v]→Value.okWide Tryz.prog W .any 0 u v:=by
  intro u v hcs
  have hsz:cs.size=1:=by rw[←Array.length_toList,hcs];rfl
  have hmem:MemPlace.cell (gix i) 0∈ps:=h5 _ (by rw[hsz];simp[MemPlace.row])
  refine(hc (gix i) 0 hmem).2 u v ?_
  rw[World.var?_cell hg h3 0,←U7,hcs];rfl
 obtain⟨a,s,hcs,hcell,htext,_,rfl⟩:=errorString_of_trod Tryz.underlying47 Lt Tryz.underlying326 Tryz.underlying328 rfl rfl Tryz.underlying9 GK tR h4 hok
 have hsz:cs.size=1:=by rw[←Array.length_toList,hcs];rfl
 obtain⟨c0,t0,hc0⟩:=(hc (gix i) 0 (h5 _ (by rw[hsz];simp[MemPlace.row]))).1
 obtain⟨c1,t1,hc1⟩:=(hc a.block a.off (h6 _ (by simp[MemPlace.row]))).1
 have ha:=uD hcell
 refine⟨(a.block,a.off),t0,c1,t1,s,?_,hc1,by rw[←ha];exact hcell,htext⟩
 rw[hc0]at hb
 cases hb
 rw[hc0,←ha]
 congr 2
 apply Array.ext'
 rw[hcs]
theorem gn0:Tryz.prog.globalNamed "concord/api.ErrSchema" =some 11:=aa
theorem gn1:Tryz.prog.globalNamed "concord/api.ErrRange" =some 8:=aa
theorem gn2:Tryz.prog.globalNamed "concord/api.ErrShort" =some 1:=aa
theorem gn3:Tryz.prog.globalNamed "concord/api.ErrVarint" =some 2:=aa
theorem gn4:Tryz.prog.globalNamed "concord/api.ErrLimit" =some 3:=aa
theorem gn5:Tryz.prog.globalNamed "concord/api.ErrOrder" =some 4:=aa
theorem gn6:Tryz.prog.globalNamed "concord/api.ErrTail" =some 5:=aa
theorem gn7:Tryz.prog.globalNamed "concord/api.ErrTag" =some 6:=aa
theorem gn8:Tryz.prog.globalNamed "concord/api.ErrSum" =some 7:=aa
theorem gn9:Tryz.prog.globalNamed "concord/api.ErrSize" =some 9:=aa
theorem Qk:Tryz.prog.globalNamed "concord/api.ErrCorrupt" =some 10:=aa
theorem Qj:Tryz.prog.globalNamed "concord/api.ErrField" =some 12:=aa
theorem Qi:Tryz.prog.globalNamed "concord/api.ErrValue" =some 0:=aa
theorem Qh:Tryz.prog.globalNamed "concord/api.ErrPattern" =some 13:=aa
theorem Qg:Tryz.prog.globalNamed "concord/api.ErrStates" =some 14:=aa
theorem Qf:Tryz.prog.globalNamed "concord/api.ErrSyntax" =some 15:=aa
theorem Qe:Tryz.prog.globalNamed "concord/api.ErrDeep" =some 16:=aa
theorem Qd:Tryz.prog.globalNamed "concord/api.ErrNode" =some 17:=aa
theorem Qc:Tryz.prog.globalNamed "concord/api.ErrTerms" =some 18:=aa
theorem Qb:Tryz.prog.globalNamed "concord/api.ErrScore" =some 19:=aa
theorem Qa:Tryz.prog.globalNamed "concord/api.ErrCode" =some 20:=aa
theorem PY:Tryz.prog.globalNamed "concord/api.ErrFuel" =some 21:=aa
theorem PX:Tryz.prog.globalNamed "concord/api.ErrDoc" =some 22:=aa
theorem PW:Tryz.prog.globalNamed "concord/api.ErrCommand" =some 23:=aa
theorem kj:∀i:Fin 24,(Tryz.prog.globals[gix i.val]?).map (·.type)=some 47:=by
 have h:((List.range 24).all λi=>decide ((Tryz.prog.globals[gix i]?).map (·.type)=some 47))=true:=aa
 intro i
 exact Yt (V5.1 h i.val (List.mem_range.2 i.isLt))
theorem Qw {W:World}{ps:List MemPlace}(hv:DataW.LaidVars Tryz.prog W lO ps) (hc:ML W ps):∀i,og i=true→∃q,vH W i q
 | 0,_=>dY hv hc (Yj (i:=21) rfl) gn0 (kj 0)
 | 1,_=>dY hv hc (Yj (i:=18) rfl) gn1 (kj 1)
 | 2,_=>dY hv hc (Yj (i:=11) rfl) gn2 (kj 2)
 | 3,_=>dY hv hc (Yj (i:=12) rfl) gn3 (kj 3)
 | 4,_=>dY hv hc (Yj (i:=13) rfl) gn4 (kj 4)
 | 5,_=>dY hv hc (Yj (i:=14) rfl) gn5 (kj 5)
 | 6,_=>dY hv hc (Yj (i:=15) rfl) gn6 (kj 6)
 | 7,_=>dY hv hc (Yj (i:=16) rfl) gn7 (kj 7)
 | 8,_=>dY hv hc (Yj (i:=17) rfl) gn8 (kj 8)
 | 9,_=>dY hv hc (Yj (i:=19) rfl) gn9 (kj 9)
 | 10,_=>dY hv hc (Yj (i:=20) rfl) Qk (kj 10)
 | 11,_=>dY hv hc (Yj (i:=22) rfl) Qj (kj 11)
 | 12,_=>dY hv hc (Yj (i:=0) rfl) Qi (kj 12)
 | 13,_=>dY hv hc (Yj (i:=23) rfl) Qh (kj 13)
 | 14,_=>dY hv hc (Yj (i:=24) rfl) Qg (kj 14)
 | 15,_=>dY hv hc (Yj (i:=25) rfl) Qf (kj 15)
 | 16,_=>dY hv hc (Yj (i:=26) rfl) Qe (kj 16)
 | 17,_=>dY hv hc (Yj (i:=27) rfl) Qd (kj 17)
 | 18,_=>dY hv hc (Yj (i:=28) rfl) Qc (kj 18)
 | 19,_=>dY hv hc (Yj (i:=29) rfl) Qb (kj 19)
 | 20,_=>dY hv hc (Yj (i:=30) rfl) Qa (kj 20)
 | 21,_=>dY hv hc (Yj (i:=31) rfl) PY (kj 21)
 | 22,_=>dY hv hc (Yj (i:=32) rfl) PX (kj 22)
 | 23,_=>dY hv hc (Yj (i:=33) rfl) PW (kj 23)
 |n+24,h=>absurd (wk h) (a8)
theorem Ov:Tryz.prog.globalNamed "concord/frame.zipTable" =some 43:=aa
theorem Oo:(Tryz.prog.globals[43]?).map (·.type)=some 315:=aa
theorem Mg:Tryz.prog.globalNamed "concord/frame.sealTable" =some 33:=aa
theorem Mf:(Tryz.prog.globals[33]?).map (·.type)=some 315:=aa
theorem Ow:Tryz.prog.globalNamed "strings.asciiSpace" =some 42:=aa
theorem Oq:(Tryz.prog.globals[42]?).map (·.type)=some 466:=aa
theorem Oy:Tryz.prog.globalNamed "math/big.basicSqrThreshold" =some 27:=aa
theorem Ou:(Tryz.prog.globals[27]?).map (·.type)=some 3:=aa
theorem Ox:Tryz.prog.globalNamed "math/big.karatsubaSqrThreshold" =some 28:=aa
theorem Ot:(Tryz.prog.globals[28]?).map (·.type)=some 3:=aa
end Go.Proofs.YtjhdcheijnegnaaGreatDoor
