import Derived.LaidLaws
import Derived.Lib.LaidTab
import Derived.Deep.Slices
import Derived.Test.YtcokhbglfaakjaaGreatDoorY1
import Derived.OpenShut
import Derived.ChangeArms
import Derived.Test.YtcokhbglfaakjaaGreatDoorQ22
import Derived.ReadAgain
import Derived.ChangeBears
import Derived.ChangeReads
import Derived.WalkKit
import Derived.ProofKit
import Derived.Deep.DeepHandedRow
import Derived.Deep.DeepWitnessRowRef
set_option linter.all false
set_option maxHeartbeats 0
namespace Go.Proofs.YtcokhbglfaakjaaGreatDoor
open Go.Sx
open Go
set_option maxRecDepth 100000
section
variable {P:Program}{n:String}{ps:List MemPlace}
def My:List (List UInt8):= [[99,111,110,99,111,114,100,58,32,115,99,104,101,109,97], [99,111,110,99,111,114,100,58,32,114,97,110,103,101], [99,111,110,99,111,114,100,58,32,116,111,111,32,115,104,111,114,116], [99,111,110,99,111,114,100,58,32,118,97,114,105,110,116], [99,111,110,99,111,114,100,58,32,108,105,109,105,116], [99,111,110,99,111,114,100,58,32,111,114,100,101,114], [99,111,110,99,111,114,100,58,32,116,97,105,108], [99,111,110,99,111,114,100,58,32,116,97,103], [99,111,110,99,111,114,100,58,32,115,117,109], [99,111,110,99,111,114,100,58,32,115,105,122,101], [99,111,110,99,111,114,100,58,32,99,111,114,114,117,112,116], [99,111,110,99,111,114,100,58,32,102,105,101,108,100], [99,111,110,99,111,114,100,58,32,118,97,108,117,101], [99,111,110,99,111,114,100,58,32,112,97,116,116,101,114,110], [99,111,110,99,111,114,100,58,32,115,116,97,116,101,115], [99,111,110,99,111,114,100,58,32,115,121,110,116,97,120], [99,111,110,99,111,114,100,58,32,116,111,111,32,100,101,101,112], [99,111,110,99,111,114,100,58,32,110,111,100,101], [99,111,110,99,111,114,100,58,32,116,111,111,32,109,97,110,121,32,116,101,114,109,115], [99,111,110,99,111,114,100,58,32,115,99,111,114,101,32,111,118,101,114,102,108,111,119], [99,111,110,99,111,114,100,58,32,99,111,100,101], [99,111,110,99,111,114,100,58,32,102,117,101,108], [99,111,110,99,111,114,100,58,32,100,111,99,117,109,101,110,116], [99,111,110,99,111,114,100,58,32,99,111,109,109,97,110,100]]
def wC (i:Nat):List UInt8:=My.getD i []
theorem De:∀a b:Fin 24,wC a.val=wC b.val→a=b:=ax
theorem tY {W:World}:∀{l:List (String×DataW Unit)}{ps:List MemPlace},DataW.LaidVars P W l ps→∀{n:String}{d:DataW Unit},(n,d)∈l→
 ∃g t c a p,P.globalNamed n=some g∧(P.globals[g]?).map (·.type)=some t∧W.var? P n=some c∧DataW.trod (λ_=>()) P W 0 (λ_=>true) false a t c.toList=some (d,p)∧(∀x∈MemPlace.row ⟨g,0,none⟩ c.size,x∈ps)∧∀x∈p,x∈ps
 | [],_,_,n,d,hm=>by cases hm
 |(n',d')::r,ps,h,n,d,hm=>by
  obtain⟨g,t,c,a,p,q,h1,h2,h3,h4,h5,rfl⟩:=h;rcases Xo.1 hm with e|hm
  ·cases e;exact⟨g,t,c,a,p,h1,h2,h3,h4,λx hx=>by simp[hx],λx hx=>by simp[hx]⟩
  ·obtain⟨y,i,f,b,j,w,v,u,s,m,k⟩:=tY h5 hm;exact⟨y,i,f,b,j,w,v,u,s,λx hx=>Yx _ (m x hx),λx hx=>Yx _ (k x hx)⟩
def UR (W:World) (ps:List MemPlace):Prop:=∀b off,MemPlace.cell b off∈ps→(∃c t,W.heap[b]? =some (.cells c t (0,0)))∧∀u v,W.cell? ⟨b,off,none⟩=some (.iface u v)→Value.okWide Tryz.prog W .any 0 u v
def Ai (W:World) (i:Nat) (q:Nat×Nat):Prop:=∃E c t s,W.heap[gix i]? =some (.cells #[.iface 437 (.pointer (some ⟨q.1,q.2,none⟩))] E (0,0))∧W.heap[q.1]? =some (.cells c t (0,0))∧W.cell? ⟨q.1,q.2,none⟩=some (.string s)∧s.data.toList=wC i
theorem QO: "*" ++ "errors.errorString" = "*errors.errorString" :=ae
theorem SD (u:TypeId) (h:Tryz.prog.typeName? 3 u=some "*errors.errorString"):u=437:=
 typeName_ptr_named (nm:= "errors.errorString") (by rw[QO];kernel_rfl) aa ae u (by rw[QO];exact h)
theorem zc {W:World}{a:Addr}{v:Value}(h:W.cell? a=some v):a=⟨a.block,a.off,none⟩:=by
 obtain⟨b,o,s⟩:=a;cases s with
 |none=>rfl
 |some x=>
  simp only[World.cell?,Option.isSome_some,if_true]at h
  split at h <;> cases h
theorem MM:Tryz.prog.cellsOf 462=1:=aa
theorem vA:Tryz.prog.cellsOf 9=1:=aa
theorem Am {W:World}{g:Nat}{cs:Array Value}(a:P.globalNamed n=some g) (h:W.var? P n=some cs):∃E fz,W.heap[g]? =some (.cells cs E fz):=by
 simp only[World.var?,a,Option.bind_some]at h
 split at h
 ·rename_i cs' E fz he;simp only[Option.some.injEq]at h;subst h;exact⟨E,fz,he⟩
 ·cases h
theorem fA {W:World}{l:List (String×DataW Unit)}(hv:DataW.LaidVars Tryz.prog W l ps) (hc:UR W ps){i:Nat}(hm:(n,.iface "*errors.errorString" (.ptr (.agg [.lit (.string (wC i))])))∈l) (k:Tryz.prog.globalNamed n=some (gix i)) (z:(Tryz.prog.globals[gix i]?).map (·.type)=some 47):∃q,Ai W i q:=by
 obtain⟨g,t,r,fuel,p,h1,h2,h3,h4,h5,h6⟩:=tY hv hm;obtain rfl:=Xk (k.symm.trans h1);obtain rfl:=Xk (z.symm.trans h2);obtain⟨E,fz,w⟩:=Am k h3;have j:∀u v,r.toList= [.iface u v]→Value.okWide Tryz.prog W .any 0 u v:=by
  intro u v b;have e:r.size=1:=by rw[←Array.length_toList,b];rfl
  have f:MemPlace.cell (gix i) 0∈ps:=h5 _ (by rw[e];simp[MemPlace.row]);refine(hc (gix i) 0 f).2 u v ?_;rw[World.var?_cell k h3 0,←R5,b];rfl
 obtain⟨a,s,b,c,d,_,rfl⟩:=errorString_of_trod Tryz.underlying47 SD Tryz.underlying437 Tryz.underlying462 rfl rfl Tryz.underlying9 MM vA h4 j;have e:r.size=1:=by rw[←Array.length_toList,b];rfl
 obtain⟨c0,y,h⟩:=(hc (gix i) 0 (h5 _ (by rw[e];simp[MemPlace.row]))).1;obtain⟨A,x,m⟩:=(hc a.block a.off (h6 _ (by simp[MemPlace.row]))).1;have ha:=zc c;refine⟨(a.block,a.off),y,A,x,s,?_,m,by rw[←ha];exact c,d⟩;rw[h]at w;cases w;rw[h,←ha];congr 2;apply Array.ext';rw[b]
theorem gn0:Tryz.prog.globalNamed "concord/api.ErrSchema" =some 11:=aa
theorem gn1:Tryz.prog.globalNamed "concord/api.ErrRange" =some 8:=aa
theorem gn2:Tryz.prog.globalNamed "concord/api.ErrShort" =some 1:=aa
theorem gn3:Tryz.prog.globalNamed "concord/api.ErrVarint" =some 2:=aa
theorem gn4:Tryz.prog.globalNamed "concord/api.ErrLimit" =some 3:=aa
theorem gn5:Tryz.prog.globalNamed "concord/api.ErrOrder" =some 4:=aa
theorem gn6:Tryz.prog.globalNamed "concord/api.ErrTail" =some 5:=aa
theorem gn7:Tryz.prog.globalNamed "concord/api.ErrTag" =some 6:=aa
theorem gn8:Tryz.prog.globalNamed "concord/api.ErrSum" =some 7:=aa
theorem gn9:Tryz.prog.globalNamed "concord/api.ErrSize" =some 9:=aa
theorem ZT:Tryz.prog.globalNamed "concord/api.ErrCorrupt" =some 10:=aa
theorem ZS:Tryz.prog.globalNamed "concord/api.ErrField" =some 12:=aa
theorem ZR:Tryz.prog.globalNamed "concord/api.ErrValue" =some 13:=aa
theorem ZQ:Tryz.prog.globalNamed "concord/api.ErrPattern" =some 14:=aa
theorem ZP:Tryz.prog.globalNamed "concord/api.ErrStates" =some 15:=aa
theorem ZO:Tryz.prog.globalNamed "concord/api.ErrSyntax" =some 17:=aa
theorem ZN:Tryz.prog.globalNamed "concord/api.ErrDeep" =some 18:=aa
theorem ZM:Tryz.prog.globalNamed "concord/api.ErrNode" =some 19:=aa
theorem ZL:Tryz.prog.globalNamed "concord/api.ErrTerms" =some 20:=aa
theorem ZK:Tryz.prog.globalNamed "concord/api.ErrScore" =some 21:=aa
theorem ZJ:Tryz.prog.globalNamed "concord/api.ErrCode" =some 16:=aa
theorem ZI:Tryz.prog.globalNamed "concord/api.ErrFuel" =some 0:=aa
theorem ZH:Tryz.prog.globalNamed "concord/api.ErrDoc" =some 22:=aa
theorem ZG:Tryz.prog.globalNamed "concord/api.ErrCommand" =some 23:=aa
theorem mH:∀i:Fin 24,(Tryz.prog.globals[gix i.val]?).map (·.type)=some 47:=by
 have h:((List.range 24).all λi=>decide ((Tryz.prog.globals[gix i]?).map (·.type)=some 47))=true:=aa;intro i;exact Yt (X5.1 h i.val (List.mem_range.2 i.isLt))
theorem a0h {W:World}(hv:DataW.LaidVars Tryz.prog W qp ps) (hc:UR W ps):∀i,rZ i=true→∃q,Ai W i q
 | 0,_=>fA hv hc (Yj (i:=3) rfl) gn0 (mH 0)
 | 1,_=>fA hv hc (Yj (i:=1) rfl) gn1 (mH 1)
 | 2,_=>fA hv hc (Yj (i:=12) rfl) gn2 (mH 2)
 | 3,_=>fA hv hc (Yj (i:=15) rfl) gn3 (mH 3)
 | 4,_=>fA hv hc (Yj (i:=0) rfl) gn4 (mH 4)
 | 5,_=>fA hv hc (Yj (i:=2) rfl) gn5 (mH 5)
 | 6,_=>fA hv hc (Yj (i:=14) rfl) gn6 (mH 6)
 | 7,_=>fA hv hc (Yj (i:=8) rfl) gn7 (mH 7)
 | 8,_=>fA hv hc (Yj (i:=13) rfl) gn8 (mH 8)
 | 9,_=>fA hv hc (Yj (i:=16) rfl) gn9 (mH 9)
 | 10,_=>fA hv hc (Yj (i:=11) rfl) ZT (mH 10)
 | 11,_=>fA hv hc (Yj (i:=4) rfl) ZS (mH 11)
 | 12,_=>fA hv hc (Yj (i:=5) rfl) ZR (mH 12)
 | 13,_=>fA hv hc (Yj (i:=20) rfl) ZQ (mH 13)
 | 14,_=>fA hv hc (Yj (i:=21) rfl) ZP (mH 14)
 | 15,_=>fA hv hc (Yj (i:=22) rfl) ZO (mH 15)
 | 16,_=>fA hv hc (Yj (i:=23) rfl) ZN (mH 16)
 | 17,_=>fA hv hc (Yj (i:=24) rfl) ZM (mH 17)
 | 18,_=>fA hv hc (Yj (i:=25) rfl) ZL (mH 18)
 | 19,_=>fA hv hc (Yj (i:=26) rfl) ZK (mH 19)
 | 20,_=>fA hv hc (Yj (i:=17) rfl) ZJ (mH 20)
 | 21,_=>fA hv hc (Yj (i:=19) rfl) ZI (mH 21)
 | 22,_=>fA hv hc (Yj (i:=27) rfl) ZH (mH 22)
 | 23,_=>fA hv hc (Yj (i:=28) rfl) ZG (mH 23)
 |n+24,h=>absurd (y8 h) a8
theorem YA:Tryz.prog.globalNamed "concord/frame.zipTable" =some 27:=aa
theorem Y5:(Tryz.prog.globals[27]?).map (·.type)=some 346:=aa
theorem TS:Tryz.prog.globalNamed "concord/frame.sealTable" =some 25:=aa
theorem TR:(Tryz.prog.globals[25]?).map (·.type)=some 346:=aa
theorem YB:Tryz.prog.globalNamed "strings.asciiSpace" =some 26:=aa
theorem Y8:(Tryz.prog.globals[26]?).map (·.type)=some 415:=aa
theorem Rl:Tryz.prog.globalNamed "concord/isa.table" =some 24:=aa
theorem Yn:(Tryz.prog.globals[24]?).map (·.type)=some 258:=aa
end
section
variable {G:dJ}{i:Nat}{o:Obj}{ps:List MemPlace}
theorem DE:Tryz.prog.cellsOf 297=1:=aa
theorem ML:Tryz.prog.cellsOf 5=1:=aa
theorem DF:Tryz.prog.cellsOf 346=16:=aa
theorem IY:Tryz.prog.cellsOf 415=256:=aa
theorem Au {T e:TypeId}{z:Nat}{k:IntKind}(c:Tryz.prog.underlying T=some (.array z e)) (b:Tryz.prog.underlying e=some (.int k)) (h:Tryz.prog.cellsOf e=1) (j:Tryz.prog.cellsOf T=z){W:World}{l:List (String×DataW Unit)}(hv:DataW.LaidVars Tryz.prog W l ps) (hc:UR W ps){n:String}{zs:List Int}(hm:(n,Lib.tabData k zs)∈l) (a:Tryz.prog.globalNamed n=some i) (d:(Tryz.prog.globals[i]?).map (·.type)=some T):∃E fz,W.heap[i]? =some (.cells (zs.map λz=>Value.int k z).toArray E fz):=by
 obtain⟨g,t,cs,fuel,p,h1,h2,h3,h4,h5,h6⟩:=tY hv hm;obtain rfl:=Xk (a.symm.trans h1);obtain rfl:=Xk (d.symm.trans h2);obtain⟨E,fz,f⟩:=Am a h3;have:=Lib.cells_of_tab c b h j h4;refine⟨E,fz,?_⟩;rw[f,←this]
def kj (W:World):pw:=W.heap.toList.zipIdx.map λp=>(p.2,p.1)
theorem kW {W:World}:(i,o)∈kj W↔W.heap[i]? =some o:=by
 simp only[kj,Xt,Prod.mk.injEq,Prod.exists]
 constructor
 ·rintro⟨o',j,hm,rfl,rfl⟩;have:=List.mem_zipIdx_iff_getElem?.1 hm
  simpa using this
 ·intro h;exact⟨o,i,List.mem_zipIdx_iff_getElem?.2 bA,rfl,rfl⟩
theorem BJ (W:World):((kj W).map (·.1)).Nodup:=by
 have:(kj W).map (·.1)=W.heap.toList.zipIdx.map (·.2):=by
  simp only[kj,Uo];rfl
 rw[this,List.zipIdx_map_snd];exact List.nodup_range'
def Old (W:World):Hp:=λL=>L=kj W
theorem OX {W:World}(a:FI G W):Sat G W [Old W]:=
 ⟨a,kj W,⟨kj W, [],aq,rfl,rfl⟩,BJ W,λx hx=>kW.1 hx⟩
theorem pN {W:World}{L:pw}(h:Sep [Old W] L):L=kj W:=by
 obtain⟨L1,L2,rfl,h1,h2⟩:=h;have h1':L1=kj W:=h1;have h2':L2= []:=h2;rw[h1',h2',Ym]
theorem KV {W W':World}(h:Sat G W' [Old W]) (a:W.heap[i]? =some o):W'.heap[i]? =some o:=by
 obtain⟨_,L,hL,hl⟩:=h;exact hl.at_ (i,o) (by rw[pN hL];exact kW.2 a)
noncomputable def nH (W:World) (f:Nat→Nat×Nat):dJ:=
 {os:=W.os,tape:=W.tape,output:=W.output,eT:=437,eb:=λi=>if rZ i=true then(f i).1 else W.heap.size+i,eo:=λi=>if rZ i=true then(f i).2 else 0}
instance {W:World}{f:Nat→Nat×Nat}:Ja (nH W f):=⟨rfl⟩
theorem I3 (W:World) (f:Nat→Nat×Nat):FI (nH W f) W:=⟨rfl,rfl,rfl⟩
theorem TT {W:World}{f:Nat→Nat×Nat}(hf:∀i,rZ i=true→Ai W i (f i)):Glb (nH W f) [Old W] where
 err:=by
  intro i hi L hL;obtain⟨E,c,t,s,h1,_⟩:=hf i hi;refine⟨E,(0,0),?_⟩;rw[pN hL];refine kW.2 ?_;rw[h1];simp only[dJ.err,nH,hi,if_true]
 blk:=by
  intro i hi L hL;obtain⟨E,c,t,s,_,h2,_⟩:=hf i hi;refine⟨c,t,?_⟩;rw[pN hL];refine kW.2 ?_;simp only[nH,hi,if_true];exact h2
 inj:=by
  intro a b h1 h2;have g:∀i,rZ i=true→(f i).1<W.heap.size:=λi hi=>by
   obtain⟨E,c,t,s,_,h2,_⟩:=hf i hi;exact(Vc.1 h2).1
  by_cases ha:rZ a=true <;> by_cases hb:rZ b=true
  ·simp only[nH,ha,hb,if_true]at h1 h2;obtain⟨_,_,_,s,_,_,d,l⟩:=hf a ha;obtain⟨_,_,_,h,_,_,k,j⟩:=hf b hb;rw[h1,h2,k]at d;have e:h=s:=by simpa using d
   have:=De ⟨a,y8 ha⟩ ⟨b,y8 hb⟩ (by rw[←l,←j,e])
   simpa using this
  ·simp only[nH,ha,hb,if_true,if_false,Xx]at h1;have:=g a ha;omega
  ·simp only[nH,ha,hb,if_true,if_false,Xx]at h1;have:=g b hb;omega
  ·simp only[nH,ha,hb,if_false,Xx]at h1;omega
theorem JG {W:World}{l:List Nat}(h:∃E fz,W.heap[i]? =some (.cells (l.map λn=>Value.int .u32 ((n:Nat):Int)).toArray E fz)):Tab [Old W] i l where
 out:=by
  intro L hL;obtain⟨E,fz,h⟩:=h;exact⟨E,fz,by rw[pN hL];exact kW.2 h⟩
theorem K8:(Lib.asciiSpaceTab.map λz=>Value.int .u8 z).toArray=((List.range 256).map λi=>Value.int .u8 (if i=9∨i=10∨i=11∨i=12∨i=13∨i=32 then 1 else 0)).toArray:=by
 have e:Lib.asciiSpaceTab=(List.range 256).map λi=>(if i=9∨i=10∨i=11∨i=12∨i=13∨i=32 then(1:Int)else 0):=ax;rw[e,Uo];rfl
theorem Su {W:World}(h:∃E fz,W.heap[26]? =some (.cells ((Lib.asciiSpaceTab).map λz=>Value.int .u8 z).toArray E fz)):Spc [Old W] where
 out:=by
  intro L hL;obtain⟨E,fz,h⟩:=h;rw[K8]at h;exact⟨E,fz,by rw[pN hL];exact kW.2 h⟩
def Pq:List (List UInt8×Int):= [([101,110,100],0),([110,111,110,101],0),([97,108,108],0),([104,97,115],1),([116,101,114,109],2),([112,104,114,97,115,101],2),([97,110,100],0),([111,114],0),([109,97,120],0),([111,112,116],0),([101,120,99,101,112,116],0),([110,111,116],0),([115,99,97,108,101],1),([102,105,120],1),([108,101,97,115,116],2),([109,105,115,115],1),([104,105,116],1)]
theorem To {W:World}(h:∃E fz,W.heap[24]? =some (.cells CX.toArray E fz)):Isa [Old W]:=⟨⟨λL hL=>by
 obtain⟨E,fz,h⟩:=h;exact⟨E,fz,by rw[pN hL];exact kW.2 h⟩⟩⟩
theorem Rb:Tryz.prog.cellsOf 257=2:=aa
theorem XT:Tryz.prog.cellsOf 258=34:=aa
theorem XS:Tryz.prog.cellsOf 3=1:=aa
theorem LB:(Rows.laid_concord_isa_table:DataW Unit)=.agg (Pq.map λz=>.agg [.lit (.string z.1),.lit (.int .i64 z.2)]):=rfl
theorem LA:CX=Pq.flatMap λz=>[.string ⟨z.1.toArray⟩,.int .i64 z.2]:=rfl
theorem Is {W:World}{n:Nat}{cs:List Value}{p:List MemPlace}{z:List UInt8×Int}(h:DataW.trod (λ_=>()) Tryz.prog W 0 (λ_=>true) false n 257 cs=some (.agg [.lit (.string z.1),.lit (.int .i64 z.2)],p)):cs= [.string ⟨z.1.toArray⟩,.int .i64 z.2]:=by
 obtain⟨a,m,_,hx,hl,b,c⟩:=DataW.trod_struct Tryz.underlying257 h;rw[Rb]at hl
 match cs,hl with
 | [c0,c1],_=>
  have e:DataW.trod (λ_=>()) Tryz.prog W 0 (λ_=>true) false m 9 (([c0,c1].drop 0).take (Tryz.prog.cellsOf 9))=a[0]? :=c 0 _ rfl;rw[vA]at e;have d:DataW.trod (λ_=>()) Tryz.prog W 0 (λ_=>true) false m 3 (([c0,c1].drop 1).take (Tryz.prog.cellsOf 3))=a[1]? :=c 1 _ rfl;rw[XS]at d
  match a,b with
  | [x0,x1],_=>
   obtain⟨s,h0,g,_⟩:=DataW.trod_string Tryz.underlying9 (show _=some x0 from e);obtain⟨k,h1,f,_⟩:=DataW.trod_int Tryz.underlying3 (show _=some x1 from d);subst g;subst f;simp at h0 h1 hx;subst h0;subst h1;obtain⟨⟨h2,h3⟩,_⟩:=hx;rw[h2,h3]
theorem xS:∀(zs:List (List UInt8×Int)) (l:List Value),l.length=zs.length*2→(∀(i:Nat) (z:List UInt8×Int),zs[i]? =some z→(l.drop (i*2)).take 2= [.string ⟨z.1.toArray⟩,.int .i64 z.2])→l=zs.flatMap λz=>[.string ⟨z.1.toArray⟩,.int .i64 z.2]
 | [],l,h,_=>Uc bA
 |z::r,l,h,hc=>by
  have h0:=hc 0 z rfl;rw[Nat.zero_mul,Va]at h0;have a:=xS r (l.drop 2) (by rw[Yo,h,Yb];omega) λi y hy=>by
   have:=hc (i+1) y hy;rw[show(i+1)*2=2+i*2 from a8,←Vt]at this;exact this
  rw[Vx,←a,←h0,Vd]
theorem Pp {W:World}(hv:DataW.LaidVars Tryz.prog W qp ps):∃E fz,W.heap[24]? =some (.cells CX.toArray E fz):=by
 obtain⟨g,t,q,fuel,p,h1,h2,h3,h4,h5,h6⟩:=tY hv (n:= "concord/isa.table") (d:=Rows.laid_concord_isa_table) (Yj (i:=18) rfl);obtain rfl:=Xk (Rl.symm.trans h1);obtain rfl:=Xk (Yn.symm.trans h2);obtain⟨E,fz,k⟩:=Am Rl h3;refine⟨E,fz,?_⟩;rw[k];have c:q.toList=CX:=by
  obtain⟨f,m,_,hx,a,hxl,j⟩:=DataW.trod_array Tryz.underlying258 h4;rw[XT]at a;rw[Rb]at j;rw[LB]at hx;have e:Pq.map (λz=>(DataW.agg [.lit (.string z.1),.lit (.int .i64 z.2)]:DataW Unit))=f.map (·.1):=DataW.agg.inj (congrArg Prod.fst hx);rw[LA];refine xS Pq _ (by rw[a];rfl) λi z h=>?_;have hi:i<17:=(Yk.1 h).1;have b:=congrArg (λl=>l[i]?) e;simp only[Xd,h,Vs]at b;cases hxi:f[i]? with
  |none=>rw[hxi]at b;cases b
  |some y=>
   rw[hxi]at b;have h8:=j i hi;rw[hxi]at h8;obtain⟨y1,y2⟩:=y;obtain rfl:=Xk b;exact Is h8
 congr 2;exact Array.ext' c
theorem ES {W:World}(h:laidMetH Tryz.prog qp W):∃f:Nat→Nat×Nat,(∀i,rZ i=true→Ai W i (f i))∧Tab [Old W] 27 oc∧Tab [Old W] 25 mA∧Spc [Old W]∧Isa [Old W]:=by
 have hno:(qp.filter λx=>x.2.handleName?.isSome)= []:=aa;rw[laidMetH,hno]at h;obtain⟨ps,hv,_,hc⟩:=h;obtain⟨f,a⟩:=Deep.choose_lt (α:=Nat×Nat) (n:=24) (p:=λi q=>rZ i=true→Ai W i q) λi _=>(by
  by_cases h:rZ i=true
  ·obtain⟨q,b⟩:=a0h hv hc i h;exact⟨q,λ_=>b⟩
  ·exact⟨(0,0),λh9=>absurd h9 h⟩)
 have c:∀i,rZ i=true→Ai W i (f i):=λi hi=>a i (y8 hi) hi;refine⟨f,c,JG ?_,JG ?_,Su ?_,To (Pp hv)⟩
 ·exact Au Tryz.underlying346 Tryz.underlying297 DE DF hv hc (zs:=oc.map λn=>((n:Nat):Int)) (Yj (i:=9) rfl) YA Y5
 ·exact Au Tryz.underlying346 Tryz.underlying297 DE DF hv hc (zs:=mA.map λn=>((n:Nat):Int)) (Yj (i:=10) rfl) TS TR
 ·exact Au Tryz.underlying415 Tryz.underlying5 ML IY hv hc (zs:=Lib.asciiSpaceTab) (Yj (i:=6) rfl) YB Y8
end
theorem nE {H:Type}(d:DataW H):1≤Rows.uptoBulk d:=by
 cases d with
 |lit l=>cases l <;> simp[Rows.uptoBulk]
 |nil=>simp[Rows.uptoBulk]
 |ptr d=>simp[Rows.uptoBulk]
 |slice elems spare=>simp[Rows.uptoBulk]
 |agg parts=>simp[Rows.uptoBulk]
 |iface t d=>simp[Rows.uptoBulk]
 |map entries=>simp[Rows.uptoBulk]
 |held h=>simp[Rows.uptoBulk]
theorem rS {H:Type}{d:DataW H}{l:List (DataW H)}(h:d∈l):Rows.uptoBulk d≤Rows.uptoBulkAll l:=by
 induction l with
 |nil=>cases h
 |cons x r ih=>
  simp only[Rows.uptoBulkAll];rcases Xo.1 h with e|e
  ·subst e;omega
  ·have:=ih e;omega
theorem MN {H:Type}(l:List (DataW H)):l.length≤Rows.uptoBulkAll l:=by
 induction l with
 |nil=>simp[Rows.uptoBulkAll]
 |cons x r ih=>have:=nE x;simp only[Rows.uptoBulkAll,Yb];omega
theorem o5 {α β γ:Type}{R:α→β→γ→Prop}:∀(l:List α) (m:List β),l.length=m.length→(∀(i:Nat) (a:α) (b:β),l[i]? =some a→m[i]? =some b→∃c,R a b c)→∃r:List γ,r.length=l.length∧∀(i:Nat) (a:α) (b:β) (c:γ),l[i]? =some a→m[i]? =some b→r[i]? =some c→R a b c
 | [], [],_,_=>⟨[],rfl,λi a b c h=>aK⟩
 | [],_::_,h,_=>aK
 |_::_, [],h,_=>aK
 |a::l,b::m,h,hR=>by
  obtain⟨c,hc⟩:=hR 0 a b rfl rfl;obtain⟨r,h1,h2⟩:=o5 l m bA (λi a b ha e=>hR (i+1) a b (by simpa using ha) (by simpa using e));refine⟨c::r,by simp[h1],λi j g f ha e d=>?_⟩;cases i with
  |zero=>simp at ha e d;subst ha;subst e;subst d;exact hc
  |succ i=>exact h2 i j g f (by simpa using ha) (by simpa using e) (by simpa using d)
section
variable {H:Type}{enc:TypeId×Value→H}{W:World}
theorem kI {α:Type}(e:Enc α) {Q:α→DataW H→Prop}{t K:TypeId}{fuel:Nat}{cs:List Value}{x:DataW H×List MemPlace}(U:Tryz.prog.underlying t=some (.slice K)) (hc:Tryz.prog.cellsOf K=e.sz)
 (J:∀(n:Nat) (u:List Value) (y:DataW H×List MemPlace),DataW.trod enc Tryz.prog W 0 (λ_=>true) true n K u=some y→∃a:α,u=e.f a∧Q a y.1)
 (h:DataW.trod enc Tryz.prog W 0 (λ_=>true) true fuel t cs=some x):
 ∃(s:SV) (xs:List α),cs= [s.val]∧SlL s e xs (kj W)∧xs.length+1≤Rows.uptoBulk x.1∧(xs= []∨∃L M,x.1=.slice L M∧L.length=xs.length∧∀(i:Nat) (a:α) (d:DataW H),xs[i]? =some a→L[i]? =some d→Q a d):=by
 rcases Deep.open_slice U h with⟨rfl,rfl⟩|⟨a,len,cap,m,n,D,Pl,rfl,_,hl,hm,w,rfl,hx⟩
 ·exact⟨SV.nil, [],rfl,⟨rfl,Xl _,.inl ⟨rfl,rfl⟩⟩,by simp[Rows.uptoBulk],.inl rfl⟩
 ·simp only[if_true]at w;subst w;rw[hc]at hx;have q:∀k,k=len→k+1≤Rows.uptoBulk (DataW.slice ((List.range len).map D) ((List.range (m-len)).map λj=>D (len+j))):=by
   intro k hk;have:=MN ((List.range len).map D);simp only[Yh,List.length_range]at this;simp only[Rows.uptoBulk];omega
  by_cases h0:m=0
  ·subst h0;obtain rfl:len=0:=a8;exact⟨⟨some a,0,0⟩, [],rfl,⟨rfl,Xl _,.inl ⟨rfl,rfl⟩⟩,q 0 rfl,.inl rfl⟩
  ·have z:∀i,i<m→∃y:α,W.cells? 0 (a.add (i*e.sz)) e.sz=some (e.f y)∧Q y (D i):=by
    intro i hi;obtain⟨u,h1,h2⟩:=hx i hi;obtain⟨y,rfl,V⟩:=J n u _ h2;exact⟨y,h1,V⟩
   obtain⟨T,hy0,_⟩:=z 0 a8;haveI:Inhabited α:=⟨T⟩;obtain⟨f,N⟩:=Deep.choose_lt z;have l:∀i,i<m→∀k,k<e.sz→W.cell? (a.add (i*e.sz+k))=(e.f (f i))[k]? :=by
    intro i hi k hk;have:=(World.cells?_some (N i hi).1).2.2 k hk;rw[Deep.add_add]at this;exact this
   have c:=e.pos;have g:∀i,i<m→∀k,k<e.sz→∃v,(e.f (f i))[k]? =some v:=λi hi k hk=>⟨_,Yi (by rw[e.len];exact hk)⟩;obtain⟨v0,B⟩:=g 0 a8 0 c;have p:=l 0 a8 0 c;rw[B,Nat.zero_mul,Vw,show a.add 0=a by simp[Addr.add]]at p;have ha:=zc p;obtain⟨b,r,M⟩:=a;simp only[Addr.mk.injEq,true_and]at ha;subst ha;have A:∃C E fz,W.heap[b]? =some (.cells C E fz):=by
    simp only[World.cell?]at p
    split at p
    ·rename_i C E fz he;exact⟨C,E,fz,he⟩
    ·cases p
   obtain⟨C,E,fz,R⟩:=A;have S:∀i,i<m→∀k,k<e.sz→C[r+(i*e.sz+k)]? =(e.f (f i))[k]? :=by
    intro i hi k hk;rw[←l i hi k hk,jT,qh R]
   have F:r+m*e.sz≤C.size:=by
    obtain⟨v,hv⟩:=g (m-1) a8 (e.sz-1) a8;have h1:=S (m-1) a8 (e.sz-1) a8;rw[hv]at h1;have h2:=(Vc.1 h1).1;have h3:(m-1)*e.sz+e.sz=m*e.sz:=by
     rw[show(m-1)*e.sz+e.sz=(m-1+1)*e.sz from bt];congr 1;omega
    omega
   refine⟨⟨some ⟨b,r,none⟩,len,m⟩,(List.range len).map f,rfl,⟨aq,hl,.inr ⟨b,r,C,E,fz,rfl,kW.2 R,F,?_⟩⟩,q _ aq,.inr ⟨_,_,rfl,aq,?_⟩⟩
   ·intro j v hv;have hj:j<len*e.sz:=by
     have:=(Yk.1 hv).1;rw[e.all_length]at this
     simpa using this
    have hi:j/e.sz<len:=(Nat.div_lt_iff_lt_mul c).2 hj;have hk:j%e.sz<e.sz:=V2 _ c;have hd:j=j/e.sz*e.sz+j%e.sz:=by
     have:=Nat.div_add_mod j e.sz;rw[V5]at this;omega
    have h1:=e.all_get ((List.range len).map f) (j/e.sz) (j%e.sz) (f (j/e.sz)) (by simp[hi]) hk;rw[←hd,hv]at h1;rw[hd,S _ a8 _ hk,←h1]
   ·intro i y d hy hd;have hi:i<len:=by
     have:=(Yk.1 hy).1
     simpa using this
    simp[hi]at hy hd;subst hy;subst hd;exact(N i a8).2
end
section
variable {B1 B2 B3:Nat}{α:Type}{f:α→Nat}{fs:List FV}{g:PrG}{ps:List km}{xs:List α}
theorem oo:Tryz.prog.cellsOf 3=1:=aa
theorem Bt:Tryz.prog.cellsOf 4=1:=aa
theorem YO:Tryz.prog.cellsOf 136=5:=aa
theorem YL:Tryz.prog.cellsOf 205=2:=aa
theorem ZU:Tryz.prog.cellsOf 122=1:=aa
theorem YP:Tryz.prog.cellsOf 124=2:=aa
theorem a0c:Tryz.prog.cellsOf 38=1:=aa
theorem DH:Tryz.prog.cellsOf 28=1:=aa
theorem YM:Tryz.prog.cellsOf 40=2:=aa
theorem ZX:Tryz.prog.cellsOf 25=1:=aa
theorem a0b:Tryz.prog.cellsOf 22=1:=aa
theorem ZV:Tryz.prog.cellsOf 24=1:=aa
theorem a0a:Tryz.prog.cellsOf 27=2:=aa
theorem cLf:Tryz.prog.cellsOf 74=2:=aa
theorem ZZ:Tryz.prog.cellsOf 29=1:=aa
theorem cNr:Tryz.prog.cellsOf 162=3:=aa
theorem ZY:Tryz.prog.cellsOf 30=1:=aa
theorem a0d:Tryz.prog.cellsOf 31=1:=aa
theorem YN:Tryz.prog.cellsOf 33=6:=aa
theorem YQ:Tryz.prog.cellsOf 35=9:=aa
section
variable {H:Type}{enc:TypeId×Value→H}{W:World}
theorem Oz (n:Nat) (cs:List Value) (y:DataW H×List MemPlace) (h:DataW.trod enc Tryz.prog W 0 (λ_=>true) true n 5 cs=some y):∃a:Nat,cs=eB.f a∧a<256:=by
 obtain⟨k,rfl,_,b⟩:=DataW.trod_int Tryz.underlying5 h;have:0≤k∧k≤255:=by simpa [Lit.wf,IntKind.min,IntKind.max,IntKind.signed,IntKind.bits] using b
 refine⟨k.toNat,?_,a8⟩;show [Value.int .u8 k]= [Value.int .u8 (k.toNat:Int)];rw[Int.toNat_of_nonneg this.1]
theorem xn (n:Nat) (cs:List Value) (y:DataW H×List MemPlace) (h:DataW.trod enc Tryz.prog W 0 (λ_=>true) true n 3 cs=some y):∃a:Int,cs=eI.f a∧True:=by
 obtain⟨k,rfl,_,hw⟩:=DataW.trod_int Tryz.underlying3 h;exact⟨k,rfl,trivial⟩
theorem Ks (n:Nat) (cs:List Value) (y:DataW H×List MemPlace) (h:DataW.trod enc Tryz.prog W 0 (λ_=>true) true n 136 cs=some y):∃a:FV,cs=eF.f a∧a.name.size+6≤Rows.uptoBulk y.1:=by
 obtain⟨xs,m,_,rfl,hl,c,b⟩:=DataW.trod_struct Tryz.underlying136 h;rw[YO]at hl
 match cs,hl with
 | [c0,c1,c2,c3,c4],_=>
  have i:DataW.trod enc Tryz.prog W 0 (λ_=>true) true m 9 (([c0,c1,c2,c3,c4].drop 0).take (Tryz.prog.cellsOf 9))=xs[0]? :=b 0 _ rfl;rw[vA]at i;have g:DataW.trod enc Tryz.prog W 0 (λ_=>true) true m 3 (([c0,c1,c2,c3,c4].drop 1).take (Tryz.prog.cellsOf 3))=xs[1]? :=b 1 _ rfl;rw[oo]at g;have f:DataW.trod enc Tryz.prog W 0 (λ_=>true) true m 4 (([c0,c1,c2,c3,c4].drop 2).take (Tryz.prog.cellsOf 4))=xs[2]? :=b 2 _ rfl;rw[Bt]at f;have e:DataW.trod enc Tryz.prog W 0 (λ_=>true) true m 4 (([c0,c1,c2,c3,c4].drop 3).take (Tryz.prog.cellsOf 4))=xs[3]? :=b 3 _ rfl;rw[Bt]at e;have d:DataW.trod enc Tryz.prog W 0 (λ_=>true) true m 4 (([c0,c1,c2,c3,c4].drop 4).take (Tryz.prog.cellsOf 4))=xs[4]? :=b 4 _ rfl;rw[Bt]at d
  match xs,c with
  | [x0,x1,x2,x3,x4],_=>
   obtain⟨s,h0,j,_⟩:=DataW.trod_string Tryz.underlying9 (show _=some x0 from i);obtain⟨k,h1,_,_⟩:=DataW.trod_int Tryz.underlying3 (show _=some x1 from g);obtain⟨q,h2,_⟩:=DataW.trod_bool Tryz.underlying4 (show _=some x2 from f);obtain⟨p,h3,_⟩:=DataW.trod_bool Tryz.underlying4 (show _=some x3 from e);obtain⟨l,h4,_⟩:=DataW.trod_bool Tryz.underlying4 (show _=some x4 from d);simp at h0 h1 h2 h3 h4;subst h0;subst h1;subst h2;subst h3;subst h4;refine⟨⟨s,k,q,p,l⟩,rfl,?_⟩;subst j;simp only[Xs,Ud,Rows.uptoBulk,Rows.uptoBulkAll];have h5:s.data.toList.length=s.size:=aq;have q1:=nE x1.1;have q2:=nE x2.1;have q3:=nE x3.1;have q4:=nE x4.1;omega
theorem Ox (n:Nat) (cs:List Value) (y:DataW H×List MemPlace) (h:DataW.trod enc Tryz.prog W 0 (λ_=>true) true n 74 cs=some y):∃a:Int×ByteArray,cs=eLf.f a∧a.2.size≤Rows.uptoBulk y.1:=by
 obtain⟨xs,m,_,rfl,hl,b,c⟩:=DataW.trod_struct Tryz.underlying74 h;rw[cLf]at hl
 match cs,hl with
 | [c0,c1],_=>
  have e:DataW.trod enc Tryz.prog W 0 (λ_=>true) true m 3 (([c0,c1].drop 0).take (Tryz.prog.cellsOf 3))=xs[0]? :=c 0 _ rfl;rw[oo]at e;have d:DataW.trod enc Tryz.prog W 0 (λ_=>true) true m 9 (([c0,c1].drop 1).take (Tryz.prog.cellsOf 9))=xs[1]? :=c 1 _ rfl;rw[vA]at d
  match xs,b with
  | [x0,x1],_=>
   obtain⟨k,h0,_,_⟩:=DataW.trod_int Tryz.underlying3 (show _=some x0 from e);obtain⟨s,h1,f,_⟩:=DataW.trod_string Tryz.underlying9 (show _=some x1 from d);simp at h0 h1;subst h0;subst h1;refine⟨(k,s),rfl,?_⟩;subst f;simp only[Xs,Ud,Rows.uptoBulk,Rows.uptoBulkAll];have h5:s.data.toList.length=s.size:=aq;omega
theorem SF (n:Nat) (cs:List Value) (y:DataW H×List MemPlace) (h:DataW.trod enc Tryz.prog W 0 (λ_=>true) true n 205 cs=some y):∃a:Val,cs=eVl.f a∧a.2.size+1≤Rows.uptoBulk y.1:=by
 obtain⟨xs,m,_,rfl,hl,b,c⟩:=DataW.trod_struct Tryz.underlying205 h;rw[YL]at hl
 match cs,hl with
 | [c0,c1],_=>
  have e:DataW.trod enc Tryz.prog W 0 (λ_=>true) true m 9 (([c0,c1].drop 0).take (Tryz.prog.cellsOf 9))=xs[0]? :=c 0 _ rfl;rw[vA]at e;have d:DataW.trod enc Tryz.prog W 0 (λ_=>true) true m 9 (([c0,c1].drop 1).take (Tryz.prog.cellsOf 9))=xs[1]? :=c 1 _ rfl;rw[vA]at d
  match xs,b with
  | [x0,x1],_=>
   obtain⟨k,h0,_,_⟩:=DataW.trod_string Tryz.underlying9 (show _=some x0 from e);obtain⟨s,h1,f,_⟩:=DataW.trod_string Tryz.underlying9 (show _=some x1 from d);simp at h0 h1;subst h0;subst h1;refine⟨(k,s),rfl,?_⟩;subst f;simp only[Xs,Ud,Rows.uptoBulk,Rows.uptoBulkAll];have h5:s.data.toList.length=s.size:=aq;omega
theorem tw:∀(xs:List α) (ds:List (DataW H)),ds.length=xs.length→(∀(i:Nat) (a:α) (d:DataW H),xs[i]? =some a→ds[i]? =some d→f a≤Rows.uptoBulk d)→(xs.map f).sum≤Rows.uptoBulkAll ds
 | [],_,_,_=>Yl _
 |a::xs, [],h,_=>aK
 |a::xs,d::ds,h,hq=>by
  have h1:=tw xs ds bA λi a d ha hd=>hq (i+1) a d (by simpa using ha) (by simpa using hd);have h2:=hq 0 a d rfl rfl;simp only[Xs,Vv,Rows.uptoBulkAll];omega
theorem SH (n:Nat) (cs:List Value) (y:DataW H×List MemPlace) (h:DataW.trod enc Tryz.prog W 0 (λ_=>true) true n 124 cs=some y):∃a:Int×SV,cs=eD.f a∧∃b:List Val,SlL a.2 eVl b (kj W)∧(b.map λv=>v.2.size+1).sum+1≤Rows.uptoBulk y.1:=by
 obtain⟨xs,m,_,rfl,hl,c,e⟩:=DataW.trod_struct Tryz.underlying124 h;rw[YP]at hl
 match cs,hl with
 | [c0,c1],_=>
  have i:DataW.trod enc Tryz.prog W 0 (λ_=>true) true m 3 (([c0,c1].drop 0).take (Tryz.prog.cellsOf 3))=xs[0]? :=e 0 _ rfl;rw[oo]at i;have g:DataW.trod enc Tryz.prog W 0 (λ_=>true) true m 122 (([c0,c1].drop 1).take (Tryz.prog.cellsOf 122))=xs[1]? :=e 1 _ rfl;rw[ZU]at g
  match xs,c with
  | [x0,x1],_=>
   obtain⟨k,h0,_,_⟩:=DataW.trod_int Tryz.underlying3 (show _=some x0 from i);obtain⟨s,b,h1,q,b1,j⟩:=kI eVl (Q:=λa d=>a.2.size+1≤Rows.uptoBulk d) Tryz.underlying122 YL (λn cs y h=>SF n cs y h) (show _=some x1 from g);simp at h0 h1;subst h0;subst h1;refine⟨(k,s),rfl,b,q,?_⟩;simp only[Xs,Ud,Rows.uptoBulk,Rows.uptoBulkAll];rcases j with rfl|⟨p,sp,he,hdl,l⟩
   ·have:=nE x1.1;simp;all_goals omega
   ·have:=tw (f:=λv:Val=>v.2.size+1) b p hdl l;rw[he];simp only[Rows.uptoBulk];omega
def PtQ (W:World) (a:SV×SV) (d:DataW H) (q:km):Prop:=(∃l:List (Int×SV),SlL a.1 eD l (kj W)∧l.length=q.1.length∧∀(i:Nat) (p:Int×SV) (x:Doc),l[i]? =some p→q.1[i]? =some x→p.1=x.1∧SlL p.2 eVl x.2 (kj W))∧SlL a.2 eI q.2 (kj W)∧(q.1.map λx=>(x.2.map λv=>v.2.size+1).sum+1).sum+q.2.length+1≤Rows.uptoBulk d
theorem Ov (n:Nat) (cs:List Value) (y:DataW H×List MemPlace) (h:DataW.trod enc Tryz.prog W 0 (λ_=>true) true n 40 cs=some y):∃a:SV×SV,cs=eP.f a∧∃q,PtQ W a y.1 q:=by
 obtain⟨xs,m,_,rfl,hl,u,z⟩:=DataW.trod_struct Tryz.underlying40 h;rw[YM]at hl
 match cs,hl with
 | [c0,c1],_=>
  have B:DataW.trod enc Tryz.prog W 0 (λ_=>true) true m 38 (([c0,c1].drop 0).take (Tryz.prog.cellsOf 38))=xs[0]? :=z 0 _ rfl;rw[a0c]at B;have A:DataW.trod enc Tryz.prog W 0 (λ_=>true) true m 28 (([c0,c1].drop 1).take (Tryz.prog.cellsOf 28))=xs[1]? :=z 1 _ rfl;rw[DH]at A
  match xs,u with
  | [x0,x1],_=>
   obtain⟨E,e,h0,X,b0,F⟩:=kI eD (Q:=λa d=>∃b:List Val,SlL a.2 eVl b (kj W)∧(b.map λv=>v.2.size+1).sum+1≤Rows.uptoBulk d) Tryz.underlying38 YP (λn cs y h=>SH n cs y h) (show _=some x0 from B);obtain⟨C,M,h1,V,U,r1⟩:=kI eI (Q:=λa _=>True) Tryz.underlying28 oo (λn cs y h=>xn n cs y h) (show _=some x1 from A);simp at h0 h1;subst h0;subst h1;have w:∃g:List Doc,(e.length=g.length∧∀(i:Nat) (p:Int×SV) (x:Doc),e[i]? =some p→g[i]? =some x→p.1=x.1∧SlL p.2 eVl x.2 (kj W))∧(g.map λx=>(x.2.map λv=>v.2.size+1).sum+1).sum+1≤Rows.uptoBulk x0.1:=by
    rcases F with rfl|⟨g,sp,he,hdl,N⟩
    ·exact⟨[],⟨rfl,λi p x hp=>by simp at hp⟩,by have:=nE x0.1;simpa using this⟩
    ·obtain⟨c,K,J⟩:=o5 (R:=fun(a:Int×SV) (d:DataW H) (b:List Val)=>SlL a.2 eVl b (kj W)∧(b.map λv=>v.2.size+1).sum+1≤Rows.uptoBulk d) e g hdl.symm N;have r:∀(i:Nat) (x:Doc),(e.zipWith (λp b=>(p.1,b)) c)[i]? =some x→∃p b d,e[i]? =some p∧c[i]? =some b∧g[i]? =some d∧x=(p.1,b)∧SlL p.2 eVl b (kj W)∧(b.map λv=>v.2.size+1).sum+1≤Rows.uptoBulk d:=by
            intro i x hx;rw[List.getElem?_zipWith]at hx;cases hp:e[i]? with
            |none=>rw[hp]at hx;simp at hx
            |some p=>
           cases hv:c[i]? with
           |none=>rw[hp,hv]at hx;simp at hx
           |some b=>
            rw[hp,hv]at hx;obtain⟨d,hd⟩:∃d,g[i]? =some d:=⟨_,Yi (by have:=(Yk.1 hp).1;omega)⟩;obtain⟨t,s⟩:=J i p d b hp hd hv;exact⟨p,b,d,rfl,rfl,hd,(Xk hx).symm,t,s⟩
     have k:(e.zipWith (λp b=>(p.1,b)) c).length=e.length:=by rw[List.length_zipWith,K,Nat.min_self]
     refine⟨e.zipWith (λp b=>(p.1,b)) c,⟨k.symm,λi p x hp hx=>?_⟩,?_⟩
     ·obtain⟨L,b,d,j,_,_,rfl,t,_⟩:=r i x hx;rw[hp]at j;cases j;exact⟨rfl,t⟩
     ·have:=tw (f:=λx:Doc=>(x.2.map λv=>v.2.size+1).sum+1) (e.zipWith (λp b=>(p.1,b)) c) g (by rw[k];exact hdl) (λi x d hx hd=>by
           obtain⟨L,b,d',_,_,l,rfl,_,s⟩:=r i x hx;rw[hd]at l;cases l;exact s)
      rw[he];simp only[Rows.uptoBulk];omega
   obtain⟨g,⟨T,S⟩,d3⟩:=w;refine⟨(E,C),rfl,(g,M),⟨e,X,T,S⟩,V,?_⟩;simp only[Xs,Ud,Rows.uptoBulk,Rows.uptoBulkAll]
   try simp only at U
   omega
def NrQ (W:World) (a:NrV) (d:DataW H) (n:lI):Prop:=SlL a.1 eI n.cs (kj W)∧SlL a.2.1 eI n.offs (kj W)∧a.2.2=n.slop∧n.cs.length+n.offs.length+1≤Rows.uptoBulk d
theorem Ow (n:Nat) (cs:List Value) (y:DataW H×List MemPlace) (h:DataW.trod enc Tryz.prog W 0 (λ_=>true) true n 162 cs=some y):∃a:NrV,cs=eNr.f a∧∃q,NrQ W a y.1 q:=by
 obtain⟨xs,m,_,rfl,hl,b,c⟩:=DataW.trod_struct Tryz.underlying162 h;rw[cNr]at hl
 match cs,hl with
 | [c0,c1,c2],_=>
  have f:DataW.trod enc Tryz.prog W 0 (λ_=>true) true m 28 (([c0,c1,c2].drop 0).take (Tryz.prog.cellsOf 28))=xs[0]? :=c 0 _ rfl;rw[DH]at f;have e:DataW.trod enc Tryz.prog W 0 (λ_=>true) true m 28 (([c0,c1,c2].drop 1).take (Tryz.prog.cellsOf 28))=xs[1]? :=c 1 _ rfl;rw[DH]at e;have d:DataW.trod enc Tryz.prog W 0 (λ_=>true) true m 3 (([c0,c1,c2].drop 2).take (Tryz.prog.cellsOf 3))=xs[2]? :=c 2 _ rfl;rw[oo]at d
  match xs,b with
  | [x0,x1,x2],_=>
   obtain⟨i,l,h0,t,r,r0⟩:=kI eI (Q:=λa _=>True) Tryz.underlying28 oo (λn cs y h=>xn n cs y h) (show _=some x0 from f);obtain⟨g,j,h1,s,p,r1⟩:=kI eI (Q:=λa _=>True) Tryz.underlying28 oo (λn cs y h=>xn n cs y h) (show _=some x1 from e);obtain⟨k,h2,_,_⟩:=DataW.trod_int Tryz.underlying3 (show _=some x2 from d);simp at h0 h1 h2;subst h0;subst h1;subst h2;refine⟨(i,g,k),rfl,⟨l,j,k⟩,t,s,rfl,?_⟩;simp only[Xs,Ud,Rows.uptoBulk,Rows.uptoBulkAll]
   try simp only at r p
   omega
theorem UN {β:Type}{g:DataW β}{Q:α→Prop}(h:xs= []∨∃(b c:List (DataW β)),g=.slice b c∧b.length=xs.length∧∀(i:Nat) (a:α) (d:DataW β),xs[i]? =some a→b[i]? =some d→Q a):∀x∈xs,Q x:=by
 rcases h with rfl|⟨b,c,_,hl,e⟩
 ·intro x hx;cases hx
 ·intro x hx;obtain⟨i,hi⟩:=Vh.1 hx;have:=(Yk.1 hi).1;exact e i x _ hi (Yi a8)
theorem DS {g:DataW H}(h:xs= []∨∃(b c:List (DataW H)),g=.slice b c∧b.length=xs.length∧∀(i:Nat) (a:α) (d:DataW H),xs[i]? =some a→b[i]? =some d→f a≤Rows.uptoBulk d):∀x∈xs,f x≤Rows.uptoBulk g:=by
 rcases h with rfl|⟨b,c,he,hl,e⟩
 ·intro x hx;cases hx
 ·intro x hx;obtain⟨i,hi⟩:=Vh.1 hx;have hil:=(Yk.1 hi).1;obtain⟨d,hd⟩:∃d,b[i]? =some d:=⟨_,Yi a8⟩;have h1:=e i x d hi hd;have h2:=rS (Yj hd);rw[he];simp only[Rows.uptoBulk];omega
theorem Oh {g:DataW H}(h:xs= []∨∃(b c:List (DataW H)),g=.slice b c∧b.length=xs.length∧∀(i:Nat) (a:α) (d:DataW H),xs[i]? =some a→b[i]? =some d→f a≤Rows.uptoBulk d) (h6:∀a,6≤f a):6*xs.length≤Rows.uptoBulk g:=by
 rcases h with rfl|⟨b,c,he,hl,e⟩
 ·exact Yl _
 ·have h1:=tw xs b hl e;have h2:∀l:List α,6*l.length≤(l.map f).sum:=λl=>by
   induction l with
   |nil=>simp
   |cons a r ih=>have:=h6 a;simp only[Xs,Vv,Yb];omega
  have h3:=h2 xs;rw[he];simp only[Rows.uptoBulk];omega
theorem mo {s:SV}{e:Enc α}(h:SlL s e xs (kj W)):Sl [Old W] s e xs:=⟨λL hL=>by rw[pN hL];exact h⟩
structure J8 (p:PrG) (B:Nat):Prop where
 av:p.avgs.length≤B
 cu:p.curs.length≤B
 ne:p.nears.length≤B
 dr:p.drive.length≤B
 co:p.code.length≤B
 ct:∀c∈p.curs,c.2.size≤B
 ns:∀n∈p.nears,n.cs.length≤B∧n.offs.length≤B
 cb:∀x∈p.code,x<256
 cc:p.code.length+p.curs.length≤B
theorem Ou (n:Nat) (cs:List Value) (y:DataW H×List MemPlace) (h:DataW.trod enc Tryz.prog W 0 (λ_=>true) true n 33 cs=some y):∃(a:PrA) (p:PrG),cs=prV a p.all∧il [Old W] a p∧pk [Old W] a p∧J8 p (Rows.uptoBulk y.1):=by
 obtain⟨xs,m,_,rfl,hl,s,j⟩:=DataW.trod_struct Tryz.underlying33 h;rw[YN]at hl
 match cs,hl with
 | [c0,c1,c2,c3,c4,c5],_=>
  have M:DataW.trod enc Tryz.prog W 0 (λ_=>true) true m 28 (([c0,c1,c2,c3,c4,c5].drop 0).take (Tryz.prog.cellsOf 28))=xs[0]? :=j 0 _ rfl;rw[DH]at M;have L:DataW.trod enc Tryz.prog W 0 (λ_=>true) true m 29 (([c0,c1,c2,c3,c4,c5].drop 1).take (Tryz.prog.cellsOf 29))=xs[1]? :=j 1 _ rfl;rw[ZZ]at L;have K:DataW.trod enc Tryz.prog W 0 (λ_=>true) true m 30 (([c0,c1,c2,c3,c4,c5].drop 2).take (Tryz.prog.cellsOf 30))=xs[2]? :=j 2 _ rfl;rw[ZY]at K;have J:DataW.trod enc Tryz.prog W 0 (λ_=>true) true m 4 (([c0,c1,c2,c3,c4,c5].drop 3).take (Tryz.prog.cellsOf 4))=xs[3]? :=j 3 _ rfl;rw[Bt]at J;have F:DataW.trod enc Tryz.prog W 0 (λ_=>true) true m 28 (([c0,c1,c2,c3,c4,c5].drop 4).take (Tryz.prog.cellsOf 28))=xs[4]? :=j 4 _ rfl;rw[DH]at F;have E:DataW.trod enc Tryz.prog W 0 (λ_=>true) true m 31 (([c0,c1,c2,c3,c4,c5].drop 5).take (Tryz.prog.cellsOf 31))=xs[5]? :=j 5 _ rfl;rw[a0d]at E
  match xs,s with
  | [x0,x1,x2,x3,x4,x5],_=>
   obtain⟨V,C,h0,a0,b0,r0⟩:=kI eI (Q:=λa _=>True) Tryz.underlying28 oo (λn cs y h=>xn n cs y h) (show _=some x0 from M);obtain⟨U,r,h1,a1,b1,Z⟩:=kI eLf (Q:=λa d=>a.2.size≤Rows.uptoBulk d) Tryz.underlying29 cLf (λn cs y h=>Ox n cs y h) (show _=some x1 from L);obtain⟨T,k,h2,a2,b2,Y⟩:=kI eNr (Q:=λa d=>∃q,NrQ W a d q) Tryz.underlying30 cNr (λn cs y h=>Ow n cs y h) (show _=some x2 from K);obtain⟨b,h3,_⟩:=DataW.trod_bool Tryz.underlying4 (show _=some x3 from J);obtain⟨S,A,h4,a4,b4,r4⟩:=kI eI (Q:=λa _=>True) Tryz.underlying28 oo (λn cs y h=>xn n cs y h) (show _=some x4 from F);obtain⟨N,l,h5,a5,b5,X⟩:=kI eB (Q:=λa _=>a<256) Tryz.underlying31 ML (λn cs y h=>Oz n cs y h) (show _=some x5 from E);simp at h0 h1 h2 h3 h4 h5;subst h0;subst h1;subst h2;subst h3;subst h4;subst h5;have hB:Rows.uptoBulk x0.1+Rows.uptoBulk x1.1+Rows.uptoBulk x2.1+Rows.uptoBulk x4.1+Rows.uptoBulk x5.1≤Rows.uptoBulk (DataW.agg ([x0,x1,x2,x3,x4,x5].map (·.1))):=by
    simp only[Xs,Ud,Rows.uptoBulk,Rows.uptoBulkAll];omega
   have hn:∃e:List lI,DY [Old W] k e∧e.length≤Rows.uptoBulk x2.1∧∀n∈e,n.cs.length+n.offs.length≤Rows.uptoBulk x2.1:=by
    rcases Y with rfl|⟨w,sp',he,hdl,hq⟩
    ·exact⟨[],⟨rfl,λi z n g=>by simp at g⟩,Yl _,λn hn=>by cases hn⟩
    ·obtain⟨e,q1,x⟩:=o5 (R:=λa d q=>NrQ W a d q) k w hdl.symm hq;refine⟨e,⟨q1.symm,λi z n g hn=>?_⟩,a8,λn hn=>?_⟩
     ·obtain⟨d,hd⟩:∃d,w[i]? =some d:=⟨_,Yi (by have:=(Yk.1 g).1;omega)⟩;obtain⟨k1,k2,k3,_⟩:=x i z d n g hd hn;exact⟨mo k1,mo k2,k3⟩
     ·obtain⟨i,hi⟩:=Vh.1 hn;have hil:=(Yk.1 hi).1;obtain⟨z,g⟩:∃z,k[i]? =some z:=⟨_,Yi a8⟩;obtain⟨d,hd⟩:∃d,w[i]? =some d:=⟨_,Yi a8⟩;have h9:=(x i z d n g hd hi).2.2.2;have h8:=rS (Yj hd);rw[he];simp only[Rows.uptoBulk];omega
   obtain⟨e,n1,n2,n3⟩:=hn;have t:=DS (f:=λa:Int×ByteArray=>a.2.size) Z;have u:=UN X;obtain⟨B,v⟩:=ex (Rows.uptoBulk (DataW.agg ([x0,x1,x2,x3,x4,x5].map (·.1))));rw[←v]at hB⊢
   try simp only at b0 b1 b4 b5
   exact⟨⟨V,U,T,S,N,k⟩,⟨C,r,e,b,A,l⟩,rfl,⟨mo a0,mo a1,mo a2,n1,mo a4⟩,⟨mo a5⟩,⟨by show C.length≤B;omega,by show r.length≤B;omega,by show e.length≤B;omega,by show A.length≤B;omega,by show l.length≤B;omega,λc hc=>by have:=t c hc;omega,λn hn=>by have:=n3 n hn;omega,u,by show l.length+r.length≤B;omega⟩⟩
def AJ (q:km):Nat:=(q.1.map λx=>(x.2.map λv=>v.2.size+1).sum+1).sum+q.2.length
theorem Oy (fuel:Nat) (l:List Value) (d:DataW H×List MemPlace) (hf:DataW.trod enc Tryz.prog W 0 (λ_=>true) true fuel 35 l=some d):
 ∃(fv pv:SV) (t:Int) (a:PrA) (g:PrG) (fs:List FV) (lp:List (SV×SV)) (ps:List km) (B1 B2 B3:Nat),l= [fv.val,pv.val,.int .i64 t,a.av.val,a.cu.val,a.ne.val,.bool g.all,a.dr.val,a.co.val]∧Sl [Old W] fv eF fs∧Sl [Old W] pv eP lp∧rm [Old W] lp ps∧il [Old W] a g∧pk [Old W] a g∧
  B1+B2+B3≤Rows.uptoBulk d.1∧6*fs.length≤B1∧(∀f∈fs,f.name.size+6≤B1)∧ps.length≤B2∧(∀q∈ps,AJ q≤B2)∧J8 g B3:=by
 obtain⟨xs,m,_,rfl,hl,B,b⟩:=DataW.trod_struct Tryz.underlying35 hf;rw[YQ]at hl
 match l,hl with
 | [c0,c1,c2,c3,c4,c5,c6,c7,c8],_=>
  have g0:DataW.trod enc Tryz.prog W 0 (λ_=>true) true m 27 (([c0,c1,c2,c3,c4,c5,c6,c7,c8].drop 0).take (Tryz.prog.cellsOf 27))=xs[0]? :=b 0 _ rfl;rw[a0a]at g0;have Z:DataW.trod enc Tryz.prog W 0 (λ_=>true) true m 3 (([c0,c1,c2,c3,c4,c5,c6,c7,c8].drop 2).take (Tryz.prog.cellsOf 3))=xs[1]? :=b 1 _ rfl;rw[oo]at Z;have Y:DataW.trod enc Tryz.prog W 0 (λ_=>true) true m 33 (([c0,c1,c2,c3,c4,c5,c6,c7,c8].drop 3).take (Tryz.prog.cellsOf 33))=xs[2]? :=b 2 _ rfl;rw[YN]at Y
  match xs,B with
  | [x0,x1,x2],_=>
   obtain⟨r,M,_,e0,hl0,A,X⟩:=DataW.trod_struct Tryz.underlying27 (show _=some x0 from g0);have S:DataW.trod enc Tryz.prog W 0 (λ_=>true) true M 24 (([c0,c1].drop 0).take (Tryz.prog.cellsOf 24))=r[0]? :=X 0 _ rfl;rw[ZV]at S;have k:DataW.trod enc Tryz.prog W 0 (λ_=>true) true M 25 (([c0,c1].drop 1).take (Tryz.prog.cellsOf 25))=r[1]? :=X 1 _ rfl;rw[ZX]at k
   match r,A with
   | [y0,y1],_=>
    obtain⟨zs,m2,_,e2,_,hzl,v⟩:=DataW.trod_struct Tryz.underlying24 (show _=some y0 from S);have T:DataW.trod enc Tryz.prog W 0 (λ_=>true) true m2 22 (([c0].drop 0).take (Tryz.prog.cellsOf 22))=zs[0]? :=v 0 _ rfl;rw[a0b]at T
    match zs,hzl with
    | [z0],_=>
     obtain⟨sf,fs,h0,a0,b0,L⟩:=kI eF (Q:=λa d=>a.name.size+6≤Rows.uptoBulk d) Tryz.underlying22 YO (λn K y h=>Ks n K y h) (show _=some z0 from T);obtain⟨sp,lp,h1,a1,b1,r1⟩:=kI eP (Q:=λa d=>∃q,PtQ W a d q) Tryz.underlying25 YM (λn K y h=>Ov n K y h) (show _=some y1 from k);obtain⟨t,h2,_,_⟩:=DataW.trod_int Tryz.underlying3 (show _=some x1 from Z);obtain⟨a,g,h3,p1,p2,p3⟩:=Ou _ _ x2 (show _=some x2 from Y);simp at h0 h1 h2 h3;subst h0;subst h1;subst h2;obtain⟨rfl,rfl,rfl,rfl,rfl,rfl⟩:=h3;have hB:Rows.uptoBulk z0.1+Rows.uptoBulk y1.1+Rows.uptoBulk x2.1≤Rows.uptoBulk (DataW.agg ([x0,x1,x2].map (·.1))):=by
            have e3:x0.1=.agg ([y0,y1].map (·.1)):=congrArg Prod.fst e0;have e4:y0.1=.agg ([z0].map (·.1)):=congrArg Prod.fst e2;simp only[Xs,Ud,Rows.uptoBulk,Rows.uptoBulkAll,e3,e4];omega
     have E:=DS (f:=λa:FV=>a.name.size+6) L;have F:=Oh L λa=>Nat.le_add_left 6 _;have C:∃ps:List km,rm [Old W] lp ps∧ps.length≤Rows.uptoBulk y1.1∧∀q∈ps,AJ q≤Rows.uptoBulk y1.1:=by
            rcases r1 with rfl|⟨J,sp',he,hdl,c⟩
            ·exact⟨[],⟨rfl,λi p d hp=>by simp at hp⟩,Yl _,λq c=>by cases c⟩
            ·obtain⟨ps,s,e⟩:=o5 (R:=λa d q=>PtQ W a d q) lp J hdl.symm c;refine⟨ps,⟨s.symm,λi p x hp hx=>?_⟩,a8,λq c=>?_⟩
             ·obtain⟨d,hd⟩:∃d,J[i]? =some d:=⟨_,Yi (by have:=(Yk.1 hp).1;omega)⟩;obtain⟨⟨l,k,k2,N⟩,k4,_⟩:=e i p d x hp hd hx;exact⟨⟨l,mo k,k2,λj u w V U=>⟨(N j u w V U).1,mo (N j u w V U).2⟩⟩,mo k4⟩
             ·obtain⟨i,hi⟩:=Vh.1 c;have hil:=(Yk.1 hi).1;obtain⟨z,v⟩:∃z,lp[i]? =some z:=⟨_,Yi a8⟩;obtain⟨d,hd⟩:∃d,J[i]? =some d:=⟨_,Yi a8⟩;have h9:=(e i z d q v hd hi).2.2;have h8:=rS (Yj hd);rw[he];simp only[Rows.uptoBulk,AJ];omega
     obtain⟨ps,s,e,q3⟩:=C
     try simp only at b0
     exact⟨sf,sp,t,a,g,fs,lp,ps,Rows.uptoBulk z0.1,Rows.uptoBulk y1.1,Rows.uptoBulk x2.1,rfl,mo a0,mo a1,s,p1,p2,hB,F,E,e,q3,p3⟩
theorem Ij {v:Value}{d:DataW H}{p:List MemPlace}(b:∃i,Value.okWide Tryz.prog W .any i 35 v) (h:DataW.Trod enc Tryz.prog W 0 (λ_=>true) true 35 v d p):
 ∃(k j:SV) (m:Int) (a:PrA) (g:PrG) (fs:List FV) (lp:List (SV×SV)) (ps:List km) (B1 B2 B3:Nat),v=.agg #[k.val,j.val,.int .i64 m,a.av.val,a.cu.val,a.ne.val,.bool g.all,a.dr.val,a.co.val]∧Sl [Old W] k eF fs∧Sl [Old W] j eP lp∧rm [Old W] lp ps∧il [Old W] a g∧pk [Old W] a g∧
  B1+B2+B3≤Rows.uptoBulk d∧6*fs.length≤B1∧(∀f∈fs,f.name.size+6≤B1)∧ps.length≤B2∧(∀q∈ps,AJ q≤B2)∧J8 g B3:=by
 obtain⟨c,n⟩:=h;have hv:∃e,v=.agg e:=by
  obtain⟨_,hv⟩:=b;unfold Value.okWide at hv;rw[Tryz.underlying35]at hv;obtain⟨e,rfl,_⟩:=hv;exact⟨e,rfl⟩
 obtain⟨e,rfl⟩:=hv;obtain⟨l⟩:=e;obtain⟨k,j,m,a,g,fs,lp,ps,B1,B2,B3,hc,r⟩:=Oy c _ _ n;obtain rfl:l=_:=hc;exact⟨k,j,m,a,g,fs,lp,ps,B1,B2,B3,rfl,r⟩
end
theorem VX (vs:List Val):vs.length≤(vs.map λv=>v.2.size+1).sum∧(∀v∈vs,v.2.size≤(vs.map λv=>v.2.size+1).sum)∧vsz vs≤20*(vs.map λv=>v.2.size+1).sum:=by
 induction vs with
 |nil=>simp[vsz]
 |cons v r ih=>
  obtain⟨h1,h2,h3⟩:=ih;simp only[vsz]at h3⊢;simp only[Xs,Vv,Yb];refine⟨a8,λw hw=>?_,a8⟩;rcases Xo.1 hw with rfl|hw
  ·omega
  ·have:=h2 w hw;omega
theorem QA (ds:List Doc) {B:Nat}(h:(ds.map λx=>(x.2.map λv=>v.2.size+1).sum+1).sum≤B):ds.length≤B∧(∀d∈ds,d.2.length≤B∧∀v∈d.2,v.2.size≤B)∧dsz ds≤20*B∧tsz ds≤B:=by
 induction ds generalizing B with
 |nil=>simp[dsz,tsz]
 |cons d r ih=>
  simp only[Xs,Vv]at h;obtain⟨h1,h2,h3,h4⟩:=ih (B:=B-((d.2.map λv=>v.2.size+1).sum+1)) a8;obtain⟨k1,a,k3⟩:=VX d.2;simp only[dsz,tsz]at h3 h4⊢;simp only[Xs,Vv,Yb];refine⟨a8,λe he=>?_,a8,a8⟩;rcases Xo.1 he with rfl|he
  ·exact⟨a8,λv hv=>by have:=a v hv;omega⟩
  ·obtain⟨i1,b⟩:=h2 e he;exact⟨a8,λv hv=>by have:=b v hv;omega⟩
theorem CQ {a b:Nat}(h:a+b≤1048576):a*b≤1000000000000:=by
 rcases Nat.le_total a b with h1|h1
 ·have:a*b≤524288*1048576:=Uv a8 a8;omega
 ·have:a*b≤1048576*524288:=Uv a8 a8;omega
theorem Hl (hB:B1+B2+B3≤1048576) (h1:6*fs.length≤B1) (h2:∀f∈fs,f.name.size+6≤B1) (h3:ps.length≤B2) (h4:∀q∈ps,AJ q≤B2) (h5:J8 g B3):∀d∈ps,SmP fs d:=λd hd=>by
 have h6:=h4 d hd;unfold AJ at h6;obtain⟨t1,b,t3,t4⟩:=QA d.1 (B:=B2) a8;refine⟨⟨a8,λf e=>by have:=h2 f e;omega,a8,λx hx=>?_⟩,a8,λhc=>?_,a8⟩
 ·obtain⟨i1,c⟩:=b x hx;exact⟨a8,λv hv=>by have:=c v hv;omega⟩
 ·have a:iK fs=true:=by
   rw[sg]at hc
   split at hc
   ·cases hc
   ·rename_i h9;simpa using h9
  have:=DT a d.1;omega
theorem Qh (s:B1+B2+B3≤1048576) (h1:6*fs.length≤B1) (h2:∀f∈fs,f.name.size+6≤B1) (h3:ps.length≤B2) (h4:∀q∈ps,AJ q≤B2) (h5:J8 g B3):∀d∈ps,∀h,vn fs ps=true→yu d.1.length d.2 h→sj g ⟨fs,d.1,h⟩ B2:=by
 intro d hm h i b;have e:=H3 i hm;have j:=Hl s h1 h2 h3 h4 h5 d hm;have a:=qg e j.z (j.t e);have h6:=h4 d hm;unfold AJ at h6;obtain⟨t1,t2,t3,t4⟩:=QA d.1 (B:=B2) a8;obtain⟨p1,p2,p3,p4,p5,p,p7,m,_⟩:=h5;obtain⟨c1,_⟩:=jx a.chk;have hfew:=a.few;refine⟨⟨a8,a8,a8,a8,a8,λn hn=>by have:=p7 n hn;omega,λc hc=>by have:=p c hc;omega,m⟩,a,⟨by show d.1.length≤_;omega,by show 1≤fs.length∧fs.length≤_;omega,b.1,b.2.1⟩,λl hl=>?_,λn hn=>⟨CQ (by have:=p7 n hn;omega),by have:=p7 n hn;omega⟩,a8,λn hn=>by have:=p7 n hn;omega⟩;obtain⟨c,_,rfl⟩:=Xt.1 hl;obtain⟨_,_,r⟩:=oP (k:=c.1.toNat%256::dC c.2) a.goodT;have:=DT a.chk d.1;exact Xi r a8
theorem Qi (c:B1+B2+B3≤1048576) (h1:6*fs.length≤B1) (h2:∀f∈fs,f.name.size+6≤B1) (h3:ps.length≤B2) (h4:∀q∈ps,AJ q≤B2) (h5:J8 g B3):Ni g fs ps:=⟨a8,Hl c h1 h2 h3 h4 h5,a8,λf h=>by have:=h2 f h;omega,λd hm e a b=>⟨B2,Qh c h1 h2 h3 h4 h5 d hm e a b⟩⟩
end
open Go.ChangeShapes Go.WideShapes Go.ChangeAt Go.RowKit
section
variable {W':World}
def rX (W W':World):Prop:=W'.os=W.os∧W'.output=W.output∧∀(i:Nat) (o:Obj),W.heap[i]? =some o→W'.heap[i]? =some o
theorem IZ {f:FuncId}{args:List Value}{W:World}{g:Nat→Nat×Nat}(h:SC (nH W g) Tryz.prog f args [Old W] (λv b=>v=.bool true∧b= [Old W])):
 Calls Tryz.prog f args.toArray W λe W'=>e=.returned (.bool true)∧rX W W':=
 (h.call W (OX (I3 W g))).mono λe W' he=>by
   cases e with
   |returned v=>
    obtain⟨b,a,rfl,rfl⟩:=he;exact⟨rfl,a.1.os,a.1.output,λi o c=>KV a c⟩
   |_=>exact he.elim
theorem rX.keptBut {W:World}(h:rX W W') (a:MemPlace→Prop):W.keptBut W' a:=by
 refine⟨h.1,h.2.1,λi hi=>?_⟩;obtain⟨o,b⟩:∃o,W.heap[i]? =some o:=⟨_,Array.getElem?_eq_getElem hi⟩;rw[b,h.2.2 i o b];cases o with
 |cells c t fr=>exact⟨rfl,rfl,rfl,λ_ _=>rfl⟩
 |map es clock=>exact Or.inr ⟨rfl,rfl⟩
 |_=>rfl
theorem rX.sameAt {W:World}(h:rX W W'){p:MemPlace}(hp:p.block<W.heap.size):W.sameAt W' p:=by
 obtain⟨o,a⟩:∃o,W.heap[p.block]? =some o:=⟨_,Array.getElem?_eq_getElem hp⟩;have h2:=h.2.2 _ _ a;cases p with
 |cell b off=>
  have e:W'.heap[b]? =W.heap[b]? :=h2.trans a.symm;show W'.cell? ⟨b,off,none⟩=W.cell? ⟨b,off,none⟩;simp only[World.cell?,e]
 |map b=>exact h2.trans a.symm
section
variable {H:Type}{enc:TypeId×Value→H}
theorem sB {P:Program}{W:World}{b:Nat}{c:Nat→Bool}{a:Bool}:∀{ts:List TypeId}{vs:List Value}{ds:List (DataW H)}{ps:List MemPlace},DataW.TrodAll enc P W b c a ts vs ds ps→(∀p∈ps,W.sameAt W' p)→DataW.TrodAll enc P W' b c a ts vs ds ps
 | [], [], [],_,h,_=>h
 |_::_,_::_,_::_,_,⟨p,q,⟨n,h1⟩,h2,e⟩,hs=>⟨p,q,⟨n,DataW.trod_carry n _ _ _ h1 λx hx=>hs x (by rw[e];exact Yy _ hx)⟩,sB h2 λx hx=>hs x (by rw[e];exact Yx _ hx),e⟩
theorem Lv:laidOutB Tryz.prog=true:=aa
theorem EN:mapsRowed Tryz.prog=true:=aa
theorem Cf:∀t e,t<Tryz.prog.types.size→Tryz.prog.underlying t=some (.slice e)→0<Tryz.prog.cellsOf e:=slices_full_of Tryz.prog aa
theorem KN {f:Func}{s:ChangeSpec}{e k d:Bool}{W:World}{args:Array Value}{ds gs:List (DataW H)}{i:List MemPlace}(m:DataW.Whole enc Tryz.prog f.params.toList s.vars e W args.toList ds gs i) (c:s.vars= []) (hr:f.resultTypes= #[4]) (g:s.fn H (ds++gs)={results:= [.lit (.bool true)],args:=ds}) (hT:∀t∈f.params.toList,t<Tryz.prog.types.size) (hk:rX W W'):
 s.post enc Tryz.prog f e k d false W args (.bool true) W':=by
 have j:=m.lt;have l:=m;obtain⟨p,q,hA,n,rfl,hfz,hnd⟩:=m;rw[c]at n;have r:gs= []∧q= []:=by
  cases gs with
  |nil=>exact⟨rfl,n⟩
  |cons a b=>exact n.elim
 obtain⟨rfl,rfl⟩:=r;rw[Ym]at j g;have hA':=sB (W':=W') hA λx hx=>hk.sameAt (j x hx);refine⟨ds, [],p++ [], [],p, [],l,?_,?_,?_,hk.keptBut _,λh=>bx⟩
 ·rw[Ym,g,hr];exact trodAll_cons_mk (shut_bool Tryz.underlying4 _) trodAll_mk0
 ·rw[Ym,g];exact DataW.TrodAll.respare (T:=(· <Tryz.prog.types.size)) (kids_rows Lv EN) Cf hT hA' λx hx=>Ys (j x hx)
 ·rw[c,Ym,g];rfl
end
theorem Lg {t:Nat}(h:t<300):t<Tryz.prog.types.size:=by
 have h2:300<Tryz.prog.types.size:=Yt aa;omega
theorem Em {H:Type}{l:List (DataW H)}(hk:Rows.uptoSmall H l=true):Rows.uptoBulkAll l≤1048576:=by
 unfold Rows.uptoSmall at hk;exact Yt hk
end
end Go.Proofs.YtcokhbglfaakjaaGreatDoor
