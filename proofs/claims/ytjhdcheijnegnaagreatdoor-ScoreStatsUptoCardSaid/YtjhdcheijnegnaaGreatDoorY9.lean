import Derived.Test.YtjhdcheijnegnaaGreatDoorY7
import Derived.OpenShut
import Derived.ChangeArms
import Derived.Deep.Slices
set_option linter.all false
set_option maxHeartbeats 0
namespace Go.Proofs.YtjhdcheijnegnaaGreatDoor
open Go.Sx
open Go
set_option maxRecDepth 100000
theorem yM:Tryz.prog.cellsOf 236=1:=aa
theorem My:Tryz.prog.cellsOf 5=1:=aa
theorem yN:Tryz.prog.cellsOf 315=16:=aa
theorem De:Tryz.prog.cellsOf 466=256:=aa
theorem vM {T e:TypeId}{z:Nat}{k:IntKind}(uT:Tryz.prog.underlying T=some (.array z e)) (ue:Tryz.prog.underlying e=some (.int k)) (ce:Tryz.prog.cellsOf e=1) (cT:Tryz.prog.cellsOf T=z) {W:World}{l:List (String×DataW Unit)}{ps:List MemPlace}(hv:DataW.LaidVars Tryz.prog W l ps) (hc:ML W ps) {n:String}{i:Nat}{zs:List Int}(hm:(n,Lib.tabData k zs)∈l) (hg:Tryz.prog.globalNamed n=some i) (ht:(Tryz.prog.globals[i]?).map (·.type)=some T):∃E fz,W.heap[i]? =some (.cells (zs.map λz=>Value.int k z).toArray E fz):=by
 obtain⟨g,t,cs,fuel,p,h1,h2,h3,h4,h5,h6⟩:=pK hv hm
 obtain rfl:=Xo (hg.symm.trans h1)
 obtain rfl:=Xo (ht.symm.trans h2)
 obtain⟨E,fz,hb⟩:=vK hg h3
 have:=Lib.cells_of_tab uT ue ce cT h4
 refine⟨E,fz,?_⟩
 rw[hb,←this]
def lz (W:World):mX:=W.heap.toList.zipIdx.map λp=>(p.2,p.1)
theorem jc {W:World}{i:Nat}{o:Obj}:(i,o)∈lz W↔W.heap[i]? =some o:=by
 simp only[lz,Xw,Prod.mk.injEq,Prod.exists]
 constructor
 ·rintro⟨o',j,hm,rfl,rfl⟩
  have:=List.mem_zipIdx_iff_getElem?.1 hm
  simpa using this
 ·intro h
  exact⟨o,i,List.mem_zipIdx_iff_getElem?.2 (bM),rfl,rfl⟩
theorem x6 (W:World):((lz W).map (·.1)).Nodup:=by
 have:(lz W).map (·.1)=W.heap.toList.zipIdx.map (·.2):=by
  simp only[lz,Ut];rfl
 rw[this,List.zipIdx_map_snd]
 exact List.nodup_range'
def Old (W:World):Hp:=λL=>L=lz W
theorem IA {G:cJ}{W:World}(hS:Ar G W):Sat G W [Old W]:=
 ⟨hS,lz W,⟨lz W, [],ak,rfl,rfl⟩,x6 W,λx hx=>jc.1 hx⟩
theorem mz {W:World}{L:mX}(h:Sep [Old W] L):L=lz W:=by
 obtain⟨L1,L2,rfl,h1,h2⟩:=h
 have h1':L1=lz W:=h1
 have h2':L2= []:=h2
 rw[h1',h2',Ym]
theorem F7 {G:cJ}{W W':World}(h:Sat G W' [Old W]) {i:Nat}{o:Obj}(ho:W.heap[i]? =some o):W'.heap[i]? =some o:=by
 obtain⟨_,L,hL,hl⟩:=h
 exact hl.at_ (i,o) (by rw[mz hL];exact jc.2 ho)
noncomputable def kW (W:World) (f:Nat→Nat×Nat):cJ:=
 {os:=W.os,tape:=W.tape,output:=W.output,eT:=326,eb:=λi=>if og i=true then(f i).1 else W.heap.size+i,eo:=λi=>if og i=true then(f i).2 else 0}
instance {W:World}{f:Nat→Nat×Nat}:He (kW W f):=⟨rfl⟩
theorem Co (W:World) (f:Nat→Nat×Nat):Ar (kW W f) W:=⟨rfl,rfl,rfl⟩
theorem Mh {W:World}{f:Nat→Nat×Nat}(hf:∀i,og i=true→vH W i (f i)):Glb (kW W f) [Old W] where
 err:=by
  intro i hi L hL
  obtain⟨E,c,t,s,h1,_⟩:=hf i hi
  refine⟨E,(0,0),?_⟩
  rw[mz hL]
  refine jc.2 ?_
  rw[h1]
  simp only[cJ.err,kW,hi,if_true]
 blk:=by
  intro i hi L hL
  obtain⟨E,c,t,s,_,h2,_⟩:=hf i hi
  refine⟨c,t,?_⟩
  rw[mz hL]
  refine jc.2 ?_
  simp only[kW,hi,if_true]
  exact h2
 inj:=by
  intro a b h1 h2
  have lt:∀i,og i=true→(f i).1<W.heap.size:=λi hi=>by
   obtain⟨E,c,t,s,_,h2,_⟩:=hf i hi
   exact(Vh.1 h2).1
  by_cases ha:og a=true <;> by_cases hb:og b=true
  ·simp only[kW,ha,hb,if_true]at h1 h2
   obtain⟨_,_,_,s,_,_,q1,q2⟩:=hf a ha
   obtain⟨_,_,_,s',_,_,q3,q4⟩:=hf b hb
   rw[h1,h2,q3]at q1
   have e:s'=s:=by simpa using q1
   have:=yp ⟨a,wk ha⟩ ⟨b,wk hb⟩ (by rw[←q2,←q4,e])
   simpa using this
  ·simp only[kW,ha,hb,if_true,if_false,Xp]at h1
   have:=lt a ha;omega
  ·simp only[kW,ha,hb,if_true,if_false,Xp]at h1
   have:=lt b hb;omega
  ·simp only[kW,ha,hb,if_false,Xp]at h1
   omega
theorem DW {W:World}{i:Nat}{l:List Nat}(h:∃E fz,W.heap[i]? =some (.cells (l.map λn=>Value.int .u32 ((n:Nat):Int)).toArray E fz)):Tab [Old W] i l where
 out:=by
  intro L hL
  obtain⟨E,fz,h⟩:=h
  exact⟨E,fz,by rw[mz hL];exact jc.2 h⟩
theorem Ez:(Lib.asciiSpaceTab.map λz=>Value.int .u8 z).toArray=((List.range 256).map λi=>Value.int .u8 (if i=9∨i=10∨i=11∨i=12∨i=13∨i=32 then 1 else 0)).toArray:=by
 have e:Lib.asciiSpaceTab=(List.range 256).map λi=>(if i=9∨i=10∨i=11∨i=12∨i=13∨i=32 then(1:Int)else 0):=ao
 rw[e,Ut];rfl
theorem Ll {W:World}(h:∃E fz,W.heap[42]? =some (.cells ((Lib.asciiSpaceTab).map λz=>Value.int .u8 z).toArray E fz)):Spc [Old W] where
 out:=by
  intro L hL
  obtain⟨E,fz,h⟩:=h
  rw[Ez]at h
  exact⟨E,fz,by rw[mz hL];exact jc.2 h⟩
theorem xA {W:World}{ps:List MemPlace}(hv:DataW.LaidVars Tryz.prog W lO ps) {n:String}{i:Nat}{k:Int}(hm:(n,(.lit (.int .i64 k):DataW Unit))∈lO) (hg:Tryz.prog.globalNamed n=some i) (ht:(Tryz.prog.globals[i]?).map (·.type)=some 3):∃E fz,W.heap[i]? =some (.cells #[.int .i64 k] E fz):=by
 obtain⟨g,t,cs,fuel,p,h1,h2,h3,h4,h5,h6⟩:=pK hv hm
 obtain rfl:=Xo (hg.symm.trans h1)
 obtain rfl:=Xo (ht.symm.trans h2)
 obtain⟨E,fz,hb⟩:=vK hg h3
 obtain⟨k',hcs,he,_⟩:=DataW.trod_int Tryz.underlying3 h4
 refine⟨E,fz,?_⟩
 rw[hb]
 congr 2
 apply Array.ext'
 rw[hcs]
 simp at he
 obtain⟨e1,_⟩:=he
 rw[e1]
theorem Bq {W:World}{i:Nat}{v:Value}(h:∃E fz,W.heap[i]? =some (.cells #[v] E fz)):cY [Old W] i [v] where
 mem:=by
  intro L hL
  obtain⟨E,fz,h⟩:=h
  exact⟨E,fz,by rw[mz hL];exact jc.2 h⟩
theorem zR {W:World}(h:laidMetH Tryz.prog lO W):∃f:Nat→Nat×Nat,(∀i,og i=true→vH W i (f i))∧Tab [Old W] 43 md∧Tab [Old W] 33 l7∧Spc [Old W]∧qi [Old W]:=by
 have hno:(lO.filter λx=>x.2.handleName?.isSome)= []:=aa
 rw[laidMetH,hno]at h
 obtain⟨ps,hv,_,hc⟩:=h
 obtain⟨f,hf0⟩:=Deep.choose_lt (α:=Nat×Nat) (n:=24) (p:=λi q=>og i=true→vH W i q) λi _=>(by
  by_cases h:og i=true
  ·obtain⟨q,hq⟩:=Qw hv hc i h
   exact⟨q,λ_=>hq⟩
  ·exact⟨(0,0),λh9=>absurd h9 h⟩)
 have hf:∀i,og i=true→vH W i (f i):=λi hi=>hf0 i (wk hi) hi
 refine⟨f,hf,DW ?_,DW ?_,Ll ?_,⟨Bq ?_,Bq ?_⟩⟩
 ·exact vM Tryz.underlying315 Tryz.underlying236 yM yN hv hc (zs:=md.map λn=>((n:Nat):Int)) (Yj (i:=36) rfl) Ov Oo
 ·exact vM Tryz.underlying315 Tryz.underlying236 yM yN hv hc (zs:=l7.map λn=>((n:Nat):Int)) (Yj (i:=37) rfl) Mg Mf
 ·exact vM Tryz.underlying466 Tryz.underlying5 My De hv hc (zs:=Lib.asciiSpaceTab) (Yj (i:=34) rfl) Ow Oq
 ·exact xA hv (Yj (i:=6) rfl) Oy Ou
 ·exact xA hv (Yj (i:=7) rfl) Ox Ot
theorem m7 {H:Type}(d:DataW H):1≤Rows.uptoBulk d:=by
 cases d with
 |lit l=>cases l <;> simp[Rows.uptoBulk]
 |nil=>simp[Rows.uptoBulk]
 |ptr d=>simp[Rows.uptoBulk]
 |slice elems spare=>simp[Rows.uptoBulk]
 |agg parts=>simp[Rows.uptoBulk]
 |iface t d=>simp[Rows.uptoBulk]
 |map entries=>simp[Rows.uptoBulk]
 |held h=>simp[Rows.uptoBulk]
theorem vA {H:Type}{d:DataW H}{l:List (DataW H)}(h:d∈l):Rows.uptoBulk d≤Rows.uptoBulkAll l:=by
 induction l with
 |nil=>cases h
 |cons x r ih=>
  simp only[Rows.uptoBulkAll]
  rcases Xr.1 h with e|e
  ·subst e;omega
  ·have:=ih e;omega
theorem GL {H:Type}(l:List (DataW H)):l.length≤Rows.uptoBulkAll l:=by
 induction l with
 |nil=>simp[Rows.uptoBulkAll]
 |cons x r ih=>have:=m7 x;simp only[Rows.uptoBulkAll,Yb];omega
theorem rm {α β γ:Type}{R:α→β→γ→Prop}:∀(l:List α) (m:List β),l.length=m.length→(∀(i:Nat) (a:α) (b:β),l[i]? =some a→m[i]? =some b→∃c,R a b c)→∃r:List γ,r.length=l.length∧∀(i:Nat) (a:α) (b:β) (c:γ),l[i]? =some a→m[i]? =some b→r[i]? =some c→R a b c
 | [], [],_,_=>⟨[],rfl,λi a b c h=>aI⟩
 | [],_::_,h,_=>aI
 |_::_, [],h,_=>aI
 |a::l,b::m,h,hR=>by
  obtain⟨c,hc⟩:=hR 0 a b rfl rfl
  obtain⟨r,h1,h2⟩:=rm l m (bM) (λi a b ha hb=>hR (i+1) a b (by simpa using ha) (by simpa using hb))
  refine⟨c::r,by simp[h1],λi a' b' c' ha hb hc'=>?_⟩
  cases i with
  |zero=>simp at ha hb hc';subst ha;subst hb;subst hc';exact hc
  |succ i=>exact h2 i a' b' c' (by simpa using ha) (by simpa using hb) (by simpa using hc')
section
variable {H:Type}{enc:TypeId×Value→H}{W:World}
theorem po {α:Type}(e:Enc α) {Q:α→DataW H→Prop}{t el:TypeId}{fuel:Nat}{cs:List Value}{x:DataW H×List MemPlace}(ht:Tryz.prog.underlying t=some (.slice el)) (hc:Tryz.prog.cellsOf el=e.sz)
 (hrd:∀(n:Nat) (cs':List Value) (y:DataW H×List MemPlace),DataW.trod enc Tryz.prog W 0 (λ_=>true) true n el cs'=some y→∃a:α,cs'=e.f a∧Q a y.1)
 (h:DataW.trod enc Tryz.prog W 0 (λ_=>true) true fuel t cs=some x):
 ∃(s:SV) (xs:List α),cs= [s.val]∧SlL s e xs (lz W)∧xs.length+1≤Rows.uptoBulk x.1∧(xs= []∨∃ds sp,x.1=.slice ds sp∧ds.length=xs.length∧∀(i:Nat) (a:α) (d:DataW H),xs[i]? =some a→ds[i]? =some d→Q a d):=by
 rcases Deep.open_slice ht h with⟨rfl,rfl⟩|⟨a,len,cap,m,n,D,Pl,rfl,_,hl,hm,hmm,rfl,hx⟩
 ·exact⟨SV.nil, [],rfl,⟨rfl,Xj _,.inl ⟨rfl,rfl⟩⟩,by simp[Rows.uptoBulk],.inl rfl⟩
 ·simp only[if_true]at hmm
  subst hmm
  rw[hc]at hx
  have hbulk:∀k,k=len→k+1≤Rows.uptoBulk (DataW.slice ((List.range len).map D) ((List.range (m-len)).map λj=>D (len+j))):=by
   intro k hk
   have:=GL ((List.range len).map D)
   simp only[Yh,T5]at this
   simp only[Rows.uptoBulk];omega
  by_cases h0:m=0
  ·subst h0
   obtain rfl:len=0:=a8
   exact⟨⟨some a,0,0⟩, [],rfl,⟨rfl,Xj _,.inl ⟨rfl,rfl⟩⟩,hbulk 0 rfl,.inl rfl⟩
  ·have hel:∀i,i<m→∃y:α,W.cells? 0 (a.add (i*e.sz)) e.sz=some (e.f y)∧Q y (D i):=by
    intro i hi
    obtain⟨cs',h1,h2⟩:=hx i hi
    obtain⟨y,rfl,hq⟩:=hrd n cs' _ h2
    exact⟨y,h1,hq⟩
   obtain⟨y0,hy0,_⟩:=hel 0 (a8)
   haveI:Inhabited α:=⟨y0⟩
   obtain⟨f,hf⟩:=Deep.choose_lt hel
   have hcell:∀i,i<m→∀k,k<e.sz→W.cell? (a.add (i*e.sz+k))=(e.f (f i))[k]? :=by
    intro i hi k hk
    have:=(World.cells?_some (hf i hi).1).2.2 k hk
    rw[Deep.add_add]at this
    exact this
   have hpos:=e.pos
   have hsome:∀i,i<m→∀k,k<e.sz→∃v,(e.f (f i))[k]? =some v:=λi hi k hk=>⟨_,Yi (by rw[e.len];exact hk)⟩
   obtain⟨v0,hv0⟩:=hsome 0 (a8) 0 hpos
   have hc0:=hcell 0 (a8) 0 hpos
   rw[hv0,Nat.zero_mul,Vf,show a.add 0=a by simp[Addr.add]]at hc0
   have ha:=uD hc0
   obtain⟨b,off,sp⟩:=a
   simp only[Addr.mk.injEq,true_and]at ha
   subst ha
   have hblk:∃C E fz,W.heap[b]? =some (.cells C E fz):=by
    simp only[World.cell?]at hc0
    split at hc0
    ·rename_i C E fz he;exact⟨C,E,fz,he⟩
    ·cases hc0
   obtain⟨C,E,fz,hb⟩:=hblk
   have hC:∀i,i<m→∀k,k<e.sz→C[off+(i*e.sz+k)]? =(e.f (f i))[k]? :=by
    intro i hi k hk
    rw[←hcell i hi k hk,gu,mT hb]
   have hsz:off+m*e.sz≤C.size:=by
    obtain⟨v,hv⟩:=hsome (m-1) (a8) (e.sz-1) (a8)
    have h1:=hC (m-1) (a8) (e.sz-1) (a8)
    rw[hv]at h1
    have h2:=(Vh.1 h1).1
    have h3:(m-1)*e.sz+e.sz=m*e.sz:=by
     rw[show(m-1)*e.sz+e.sz=(m-1+1)*e.sz from aK]
     congr 1;omega
    omega
   refine⟨⟨some ⟨b,off,none⟩,len,m⟩,(List.range len).map f,rfl,⟨ak,hl,.inr ⟨b,off,C,E,fz,rfl,jc.2 hb,hsz,?_⟩⟩,hbulk _ (ak),.inr ⟨_,_,rfl,ak,?_⟩⟩
   ·intro j v hv
    have hj:j<len*e.sz:=by
     have:=(Yk.1 hv).1
     rw[e.all_length]at this
     simpa using this
    have hi:j/e.sz<len:=(Nat.div_lt_iff_lt_mul hpos).2 hj
    have hk:j%e.sz<e.sz:=Um _ hpos
    have hd:j=j/e.sz*e.sz+j%e.sz:=by
     have:=Q8 j e.sz
     rw[Ug]at this;omega
    have h1:=e.all_get ((List.range len).map f) (j/e.sz) (j%e.sz) (f (j/e.sz)) (by simp[hi]) hk
    rw[←hd,hv]at h1
    rw[hd,hC _ (a8) _ hk,←h1]
   ·intro i y d hy hd
    have hi:i<len:=by
     have:=(Yk.1 hy).1
     simpa using this
    simp[hi]at hy hd
    subst hy;subst hd
    exact(hf i (a8)).2
end
end Go.Proofs.YtjhdcheijnegnaaGreatDoor
