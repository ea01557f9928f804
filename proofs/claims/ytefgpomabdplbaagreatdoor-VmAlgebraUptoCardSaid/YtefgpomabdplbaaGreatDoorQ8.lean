import Derived.Test.YtefgpomabdplbaaGreatDoorQ6
import Derived.MapKept
set_option linter.unusedVariables false
set_option linter.unusedSimpArgs false
set_option linter.unusedSectionVars false
set_option linter.unnecessarySimpa false
set_option maxHeartbeats 0
namespace Go.Sx
open Go
section
variable {G:cK}{P:Program}{t:Tm}{H:cG}{dst:Option Tmp}{ty:TypeId}{pos:String}{after:Array Edge}{g:Option (Nat×Bool)}
theorem pM {F:cG}{L:nf}(h:Sep (fB F::H) L):∃L1 L2,L=L1++L2∧Sep F L1∧Sep H L2:=h
instance Sl.star {F:cG}{s:SV}{α:Type}{e:Enc α}{xs:List α} [h:Sl F s e xs]:Sl (fB F::H) s e xs:=
 ⟨fun L hL=> by
  obtain⟨L1,L2,rfl,h1,_⟩:=pM hL
  exact(h.out L1 h1).mono fun x hx=> Yy _ hx⟩
class nd (H:cG) (A:Hp) (R:outParam cG):Prop where
 out:∀L,Sep H L→∃L',L'.Perm L∧Sep (A::R) L'
instance nd.head {A:Hp}:nd (A::H) A H:=⟨fun L h=> ⟨L, .refl L,h⟩⟩
instance nd.tail {A B:Hp}{R:cG} [h:nd H A R]:nd (B::H) A (B::R):=
 ⟨fun L hL=> by
  obtain⟨L1,L2,rfl,h1,h2⟩:=hL
  obtain⟨L',hp,M1,M2,rfl,h3,h4⟩:=h.out L2 h2
  refine⟨M1++(L1++M2),?_,M1,L1++M2,rfl,h3,L1,M2,rfl,h1,h4⟩
  rw[←Yf]
  refine((List.perm_append_comm.append_right M2).trans ?_)
  rw[Yf]
  exact hp.append_left L1⟩
theorem fm {A:Hp}{R H':cG}(hr:nd H A R) (h:cJ (A::R) H'):cJ H H':=fun L hL=> by
 obtain⟨L',h1,h2⟩:=hr.out L hL
 obtain⟨L'',M,h3,h4⟩:=h L' h2
 exact⟨L'',M,h3,h4.trans h1⟩
theorem Bl {A:Hp}{R H':cG} [hr:nd H A R] (h:cJ R H'):cJ H (A::H'):=fm hr h.keep
theorem qC {H':cG}(h:cJ H H'):cJ H (fB []::H'):=cJ.add rfl h
theorem xk {F R R' H':cG}{s:SV}{α:Type}{e:Enc α}{xs:List α} [hr:na H s e xs R] [hr2:nd R (fB F) R'] (h:cJ R' H'):cJ H (fB (Row s e xs::F)::H'):=by
 refine gB hr (cJ.trans (H':=Row s e xs::fB F::R') ?_ ?_)
 ·exact cJ.keep (fm hr2 cJ.refl)
 ·intro L hL
  obtain⟨L1,L2,rfl,h1,L3,L4,rfl,h3,h4⟩:=hL
  obtain⟨L',M,h5,h6⟩:=h L4 h4
  exact⟨(L1++L3)++L',M,⟨L1++L3,L',rfl,⟨L1,L3,rfl,h1,h3⟩,h5⟩,bz⟩
theorem uS {F F' R R' H':cG} [hr:nd H (fB F) R] [hr2:nd R (fB F') R'] (h:cJ R' H'):cJ H (fB (fB F::F')::H'):=by
 refine fm hr (cJ.trans (H':=fB F::fB F'::R') ?_ ?_)
 ·exact cJ.keep (fm hr2 cJ.refl)
 ·intro L hL
  obtain⟨L1,L2,rfl,h1,L3,L4,rfl,h3,h4⟩:=hL
  obtain⟨L',M,h5,h6⟩:=h L4 h4
  exact⟨(L1++L3)++L',M,⟨L1++L3,L',rfl,⟨L1,L3,rfl,h1,h3⟩,h5⟩,bz⟩
theorem yQ {T U:TypeId}{x y:Operand}{xs ys:List Nat}{c:ByteArray}(hx:evo t x=some (.string (dL xs))) (hy:evo t y=some (.string c)) (hb:∀n∈xs,n<256) (hc:cF c=ys):Ev G P ⟨dst, .binOp .neq T x y U,ty,pos,after,g⟩ t H (.bool (!decide (xs=ys))):=by
 have:=uf (G:=G) (P:=P) (H:=H) (dst:=dst) (ty:=ty) (pos:=pos) (after:=after) (g:=g) (T:=T) (U:=U) hx hy
 rwa [fa hb,hc]at this
end
section
variable {G:cK}{P:Program}{N:Nat}{Q:Post}{t:Tm}{H:cG}{ops:Array Oper}{dst:Option Tmp}{ty:TypeId}{pos:String}{after:Array Edge}{g:Option (Nat×Bool)}
def Mp (r:Nat) (ks:List (List Nat)):Hp:=fun L=> ∃(es:List MapEntry) (clock:Nat) (qs:List ByteArray),L= [(r, .map es.toArray clock)]∧es.map (·.key)=qs.map Value.string∧qs.map cF=ks
theorem nZ (k:ByteArray):∀(ks:List ByteArray) (es:List MapEntry) (i:Nat),es.map (·.key)=ks.map Value.string→
 (cF k∈ks.map cF∧∃p,Instr.findNow .string (.string k) es i=some (some p))∨(cF k ∉ ks.map cF∧Instr.findNow .string (.string k) es i=some none)
 | [],es,i,h=> by
  obtain rfl:es= []:=aY
  exact .inr ⟨an,rfl⟩
 |q::ks, [],i,h=> aW
 |q::ks,e::es,i,h=> by
  simp only[List.map_cons,List.cons.injEq]at h
  obtain⟨h1,h2⟩:=h
  have hn:Instr.findNow .string (.string k) (e::es) i=match Instr.sameNow .string (.string k) (.string q)with
   |some true=> some (some (i,e.val))
   |some false=> Instr.findNow .string (.string k) es (i+1)
   |none=> none:=by rw[←h1];rfl
  rw[hn]
  by_cases hk:k=q
  ·subst hk
   have hb:(k==k)=true:=(MapKept.bytes_beq k k).2 rfl
   left
   simp only[Instr.sameNow,hb]
   exact⟨an,_,rfl⟩
  ·have hb:(k==q)=false:=by
    cases h:(k==q)with
    |false=> rfl
    |true=> exact absurd ((MapKept.bytes_beq k q).1 h) hk
   have hbb:¬cF k=cF q:=fun h=> hk (kM.1 h)
   simp only[Instr.sameNow,hb]
   rcases nZ k ks es (i+1) h2 with⟨h3,h4⟩|⟨h3,h4⟩
   ·exact .inl ⟨Xa _ h3,h4⟩
   ·exact .inr ⟨fun h=> by
     rcases List.mem_cons.1 h with h|h
     ·exact hbb h
     ·exact h3 h,h4⟩
theorem lS (s:ByteArray):MapKept.IsKey .string (.string s):=by simp[MapKept.IsKey]
theorem A8 {T K E:TypeId}{x:Operand}{k:IntKind}{i:Int} [hT:Und P T (.map K E)] (hx:evo t x=some (.int k i)):
 St G P ⟨dst, .makeMap T (some x),ty,pos,after,g⟩ t H (fun u H'=> ∃r,u= .map (some r)∧H'=Mp r []::H):=
 fun ρ hρ w hw=> by
  have hr:(execOp ρ ⟨dst, .makeMap T (some x),ty,pos,after,g⟩).run P w= .ok (.value (.map (some w.heap.size))) {w with heap:=w.heap.push (.map #[] 0)}:=by
   simp only[execOp,Option.map_some,Instr.makeMap,hρ _ _ hx,Sem.run_bind,da (T:=T),Result.andThen_ok,asInt,asIntOf,Sem.run_pure,run_newObj]
  rw[hr]
  exact⟨_,(hw.alloc _).cons fun _ hM=> ⟨[],0, [],hM,rfl,rfl⟩,w.heap.size,rfl,rfl⟩
theorem CZ {T K E:TypeId}{x y:Operand}{r sz bb:Nat}{z:Value}{ks:List (List Nat)}{s:ByteArray}{C:Hp→cG} [hT:Und P T (.map K E)] [hK:Und P K .string] [hE:Inf P E sz bb z] (hx:evo t x=some (.map (some r))) (hy:evo t y=some (.string s)) [hf:Foc H Mp r ks C]:
 St G P ⟨dst, .lookup T x y true,ty,pos,after,g⟩ t H (fun u H'=> (∃v,u= .tuple #[v, .bool (decide (cF s∈ks))])∧H'=H):=
 fun ρ hρ w hw=> by
  obtain⟨hS,L,hL,hl⟩:=hw
  obtain⟨L1,M,L2,rfl,⟨es,clock,qs,rfl,hk,rfl⟩,hB⟩:=hf.foc _ hL
  have hb:w.heap[r]? =some (.map es.toArray clock):=hl.at_ (r, .map es.toArray clock) (an)
  have hg:=MapKept.run_getObj_map (P:=P) hb
  have hck:=MapKept.run_checkKey (P:=P) (w:=w) hK.out (lS s)
  rcases nZ s qs es 0 hk with⟨h1,⟨i,v⟩,h2⟩|⟨h1,h2⟩
  ·have h3:=MapKept.run_findKey (P:=P) (w:=w) hK.out h2
   have hr:(execOp ρ ⟨dst, .lookup T x y true,ty,pos,after,g⟩).run P w= .ok (.value (.tuple #[v, .bool true])) w:=by
    simp only[execOp,hρ _ _ hx,hρ _ _ hy,Instr.lookup,Sem.run_bind,da (T:=T),Result.andThen_ok,hg,Sem.run_pure,hck,h3,↓reduceIte]
   rw[hr]
   exact⟨H,⟨hS,_,hL,hl⟩,⟨v,by simp[h1]⟩,rfl⟩
  ·have h3:=MapKept.run_findKey (P:=P) (w:=w) hK.out h2
   have hr:(execOp ρ ⟨dst, .lookup T x y true,ty,pos,after,g⟩).run P w= .ok (.value (.tuple #[z, .bool false])) w:=by
    simp only[execOp,hρ _ _ hx,hρ _ _ hy,Instr.lookup,Sem.run_bind,da (T:=T),Result.andThen_ok,hg,Sem.run_pure,hck,h3,jA (T:=E),↓reduceIte]
   rw[hr]
   exact⟨H,⟨hS,_,hL,hl⟩,⟨z,by simp[h1]⟩,rfl⟩
theorem wh {T K E:TypeId}{x y v:Operand}{r:Nat}{u:Value}{ks:List (List Nat)}{s:ByteArray}{C:Hp→cG} [hT:Und P T (.map K E)] [hK:Und P K .string] (hx:evo t x=some (.map (some r))) (hy:evo t y=some (.string s)) (hv:evo t v=some u) [hf:Foc H Mp r ks C] (hno:cF s ∉ ks):
 St G P ⟨dst, .mapUpdate T x y v,ty,pos,after,g⟩ t H (fun u H'=> u=undef∧H'=C (Mp r (ks++ [cF s]))):=
 fun ρ hρ w hw=> by
  obtain⟨hS,L,hL,hl⟩:=hw
  obtain⟨L1,M,L2,rfl,⟨es,clock,qs,rfl,hk,rfl⟩,hB⟩:=hf.foc _ hL
  have hb:w.heap[r]? =some (.map es.toArray clock):=hl.at_ (r, .map es.toArray clock) (an)
  have hg:=MapKept.run_getObj_map (P:=P) hb
  have hck:=MapKept.run_checkKey (P:=P) (w:=w) hK.out (lS s)
  rcases nZ s qs es 0 hk with⟨h1,_⟩|⟨h1,h2⟩
  ·exact absurd h1 hno
  ·have h3:=MapKept.run_findKey (P:=P) (w:=w) hK.out h2
   have hso:=MapKept.run_setObj_map (P:=P) (.map (es.toArray.push {key:= .string s,val:=u,born:=clock}) (clock+1)) hb
   have hr:(execOp ρ ⟨dst, .mapUpdate T x y v,ty,pos,after,g⟩).run P w= .ok .skip (ec w r (.map (es.toArray.push {key:= .string s,val:=u,born:=clock}) (clock+1))):=by
    simp only[execOp,hρ _ _ hx,hρ _ _ hy,hρ _ _ hv,Instr.mapUpdate,Sem.run_bind,da (T:=T),Result.andThen_ok,hg,hck,h3,hso,Sem.run_pure]
    rfl
   rw[hr]
   refine⟨C (Mp r (qs.map cF++ [cF s])),⟨⟨hS.os,hS.tape,hS.output⟩,_,hB _ [(r, .map (es.toArray.push {key:= .string s,val:=u,born:=clock}) (clock+1))] ⟨es++ [{key:= .string s,val:=u,born:=clock}],clock+1,qs++ [s],an,by simp[hk],an⟩,?_⟩,rfl,rfl⟩
   have:=jc.change (w':=ec w r (.map (es.toArray.push {key:= .string s,val:=u,born:=clock}) (clock+1))) (L1:=L1) (L2:=L2) (b:=r) (o:= .map es.toArray clock) (o':= .map (es.toArray.push {key:= .string s,val:=u,born:=clock}) (clock+1)) (bx) (fS hb) (fun i hi _=> fh hi)
   simpa using this
theorem cJ.mp {R H':cG}{r:Nat}{ks:List (List Nat)} [hr:Rem H Mp r ks R] (h:cJ R H'):cJ H (Mp r ks::H'):=cJ.rem hr h.keep
theorem pE {o:Oper}{j d:Nat}{want:Bool}{a:Act}(ha:Fr N t a) (hg:o.guard=some (j,want)) (hj:(ops[j]?).bind (·.dst)=some d) (hb:look t d=some undef):
 Region.wanted o (yielded ops a.tmps)=false:=by
 have h1:a.tmps[d]? =some undef:=ha.look _ _ hb
 have h2:yielded ops a.tmps j=none:=by
  unfold yielded
  rw[hj]
  simp[h1,undef]
 unfold Region.wanted
 rw[hg]
 simp only[h2]
 rfl
theorem wC {l:List Oper}{op:Op}{j d:Nat}{want:Bool}(hj:(ops[j]?).bind (·.dst)=some d) (hv:look t d=some undef) (hd:fH N dst=true)
 (hk:O G P N ops l Q (put t dst undef) H):O G P N ops (⟨dst,op,ty,pos,after,some (j,want)⟩::l) Q t H:=by
 refine⟨fun a w ha hw=> ?_⟩
 unfold wpList
 rw[pE (o:=⟨dst,op,ty,pos,after,some (j,want)⟩) ha rfl hj hv]
 rw[if_neg (an)]
 exact hk.go _ _ (ha.put hd undef) hw
end
section
variable {G:cK}{P:Program}{ops:Array Oper}{N:Nat}{Q:Post}{t:Tm}{H:cG}
theorem Bf {loud:Nat→Bool}{F:Nat→cG→Prop}{fuel:Nat}{listed:Array Bool}{dst:Option Tmp}{op:Op}{ty:TypeId}{pos:String}{after:Array Edge}{R:Value→cG→Prop}{k d:Nat}{want:Bool}(i:Nat) (hi:ops[i]? =some ⟨dst,op,ty,pos,after,some (k,want)⟩) (hk:(ops[k]?).bind (·.dst)=some d) (hv:look t d=some (.bool want)) (hr:Region.ready .any ops listed= [i]) (hd:fH N dst=true)
 (hF:∀i,rj ops loud i listed→F i H) (hs:St G P ⟨dst,op,ty,pos,after,some (k,want)⟩ t H R) (h:∀v H',R v H'→An G P N ops loud F Q fuel (listed.setIfInBounds i true) (put t dst v) H'):An G P N ops loud F Q (fuel+1) listed t H:=
 ⟨fun a ha=> ⟨hF,fun h0=> (bN),fun j hj=> by
  rw[hr]at hj
  obtain rfl:j=i:=by simpa using hj
  unfold OpK
  simp only[hi]
  rw[if_pos (cx)]
  intro w hw
  have h1:=hs a.eval ha.agree w hw
  generalize (execOp a.eval _).run P w=r at*
  cases r with
  |ok n w'=>
   cases n <;> simp only[lA]at h1 <;> simp only[mc]
   case value u=> obtain⟨H',q1,q2⟩:=h1;exact⟨H',q1,(h u H' q2).go _ (ha.put hd u)⟩
   case skip=> obtain⟨H',q1,q2⟩:=h1;exact⟨H',q1,(h _ H' q2).go _ (ha.put hd _)⟩
   case enter f args=>
    exact h1.mono fun e w'' he=> by
     cases e with
     |returned u=> obtain⟨H',q1,q2⟩:=he;exact⟨H',q1,(h u H' q2).go _ (ha.put hd u)⟩
     |_=> exact he
  |halt x w'=> simp only[lA]at h1⟩⟩
theorem oQ {T E U:TypeId}{x:Operand}{s:SV}{α:Type}{e:Enc α}{xs:List α}{dst:Option Tmp}{ty:TypeId}{pos:String}{after:Array Edge}{g:Option (Nat×Bool)} [hT:Und P T (.slice E)] [hs:Sl H s e xs] (hx:evo t x=some s.val) (hne:xs≠ []):Ev G P ⟨dst, .binOp .eql T x (.const (.slice none 0 0)) U,ty,pos,after,g⟩ t H (.bool false):=
 fun ρ hρ w hw=> by
  obtain⟨_,_,h3⟩:=hs.get hw
  rcases h3 with⟨h4,_⟩|⟨b,off,C,E',fz,h4,_⟩
  ·exact absurd h4 hne
  ·have h1:=fU (P:=P) (op:= .eql) (T:=T) (x:=x) (y:= .const (.slice none 0 0)) (w:=w) (a:=s.val) (b:= .slice none 0 0) (.inr rfl) (fun c h=> aW)
   have h2:=iO (P:=P) (w:=w) (T:=T) (x:=s.val) (y:= .slice none 0 0) (r:=false) (fun d=> by simp only[SV.val,h4,Op.equalIn,Sem.run_bind,da (T:=T),Result.andThen_ok,Sem.run_pure])
   have h5:(binOp .eql T s.val (.slice none 0 0)).run P w= .ok (.bool false) w:=by
    simp only[SV.val]at h2⊢
    simp only[binOp,Sem.run_bind,h2,Result.andThen_ok,Sem.run_pure]
   simp only[execOp,hρ _ _ hx,hρ (.const (.slice none 0 0)) _ rfl,Sem.run_bind,h1,Result.andThen_ok,h5,Sem.run_pure]
end
section
variable {G:cK}{P:Program}{ops:Array Oper}{N:Nat}{Q:Post}{t:Tm}{H:cG}{dst:Option Tmp}{ty:TypeId}{pos:String}{after:Array Edge}{g:Option (Nat×Bool)}
theorem dH {T:TypeId}{x y:Operand}{s:SV}{i sz bb:Nat}{z v:Value}{α:Type}{e:Enc α}{xs:List α}{a:α}{C:Hp→cG}(hx:evo t x=some (.pointer (s.elt sz i 0))) (hy:evo t y=some v) [hT:Inf P T sz bb z] [hf:nx H s e xs C] [hv:fK e v a] (hsz:e.sz=sz) (hlt:i<xs.length):
 St G P ⟨dst, .store T x y,ty,pos,after,g⟩ t H (fun u H'=> u=undef∧H'=C (Row s e (xs.set i a))):=
 fun ρ hρ w hw=> by
  subst hsz
  obtain⟨L1,M,L2,hl,hM,hB⟩:=hf.split hw
  rcases hM with⟨rfl,rfl,rfl⟩|⟨b,C0,E0,fz,g1,g2,g3,rfl,g5,g6,g7⟩
  ·simp at hlt
  ·have hbw:w.heap[b]? =some (.cells C0 E0 fz):=hl.at_ (b, .cells C0 E0 fz) (an)
   have hle:i*e.sz+e.sz≤C0.size:=by
    rw[g5,show i*e.sz+e.sz=(i+1)*e.sz from bf]
    exact Nat.mul_le_mul_right _ (aa)
   have hst:=fw (P:=P) (o:=i*e.sz) (e.f a) 0 C0 w hbw (fun j _ h=> g6.free j (by rw[e.len]at h;omega)) (bt) (fun u hu=> e.one a u hu)
   have hcs:v.cells=(e.f a).toArray:=by rw[←hv.out,e.v_cells]
   have hn:v.cells.size=e.sz:=by rw[hcs];simp[e.len]
   have hx':=hρ _ _ hx
   simp only[SV.elt,g1,Option.map_some,Nat.add_zero,Nat.zero_add]at hx'
   have hr:(execOp ρ ⟨dst, .store T x y,ty,pos,after,g⟩).run P w= .ok .skip (ec w b (.cells (eO C0 (i*e.sz) (e.f a)) E0 fz)):=by
    simp only[execOp,hx',hρ _ _ hy,Instr.storeAt,Instr.sureAddr,storeVar,Sem.run_bind,Sem.run_pure,Result.andThen_ok,dQ (T:=T),hn]
    simp only[ne_eq,not_true_eq_false,↓reduceIte]
    rw[hcs]
    simp only[Nat.add_zero]at hst⊢
    rw[hst];rfl
   rw[hr]
   refine⟨C (Row s e (xs.set i a)),⟨⟨hw.1.os,hw.1.tape,hw.1.output⟩,_,hB _ [(b, .cells (eO C0 (i*e.sz) (e.f a)) E0 fz)] (.inr ⟨b,_,E0,fz,g1,by rw[List.length_set];exact g2,g3,rfl,by rw[fx,g5],by rw[fx];exact g6,?_⟩),?_⟩,rfl,rfl⟩
   ·intro j u hu
    rw[gh _ _ _ _ (by rw[e.len];exact hle),e.len]
    rw[List.set_eq_take_append_cons_drop,if_pos hlt,e.all_append,e.all_cons]at hu
    have hla:(e.all (xs.take i)).length=i*e.sz:=bG
    by_cases hj:j<i*e.sz
    ·rw[if_neg (aa)]
     rw[Yv (aa),e.all_take,List.getElem?_take_of_lt hj]at hu
     exact g7 j u hu
    ·rw[Yu (aa),hla]at hu
     by_cases hj2:j<i*e.sz+e.sz
     ·rw[if_pos (aa)]
      rw[Yv (bt)]at hu
      exact hu
     ·rw[if_neg (aa)]
      rw[Yu (bt),e.len,e.all_drop,Xh,Nat.add_mul,Nat.one_mul]at hu
      exact g7 j u (by rw[←hu];congr 1;omega)
   ·have:=jc.change (w':=ec w b (.cells (eO C0 (i*e.sz) (e.f a)) E0 fz)) (L1:=L1) (L2:=L2) (b:=b) (o:= .cells C0 E0 fz) (o':= .cells (eO C0 (i*e.sz) (e.f a)) E0 fz) (bx) (fS hbw) (fun i hi _=> fh hi)
    simpa using this
theorem ui {S D:TypeId}{ds:TypeDesc}{x:Operand}{k k':IntKind}{i:Int} [hs:Und P S ds] [hd:Und P D (.int k')] (hx:evo t x=some (.int k i)) (c:Int) (h:k'.wrap i=c):
 Ev G P ⟨dst, .convert S D x,ty,pos,after,g⟩ t H (.int k' c):=
 fun ρ hρ w _=> by
  have e:(underlying S).run P w= .ok ds w:=by simp[underlying,hs.out]
  have e2:(underlying D).run P w= .ok (.int k') w:=by simp[underlying,hd.out]
  simp only[execOp,convert,hρ _ _ hx,Sem.run_bind,e,e2,Result.andThen_ok]
  cases ds <;> simp[Conv.intToInt,h]
end
section
variable {G:cK}{P:Program}{N:Nat}{Q:Post}{t:Tm}{H:cG}{dst:Option Tmp}{ty:TypeId}{pos:String}{after:Array Edge}{g:Option (Nat×Bool)}
end
theorem Fo {F F':cG}(h:F.Perm F'):∀L,Sep F L→∃L',L'.Perm L∧Sep F' L':=by
 induction h with
 |nil=> exact fun L hL=> ⟨L, .refl L,hL⟩
 |cons A _ ih=>
  rintro L ⟨L1,L2,rfl,h1,h2⟩
  obtain⟨L',h3,h4⟩:=ih L2 h2
  exact⟨L1++L',h3.append_left L1,L1,L',rfl,h1,h4⟩
 |swap A B l=>
  rintro L ⟨L1,L2,rfl,h1,L3,L4,rfl,h3,h4⟩
  refine⟨L3++(L1++L4),?_,L3,L1++L4,rfl,h3,L1,L4,rfl,h1,h4⟩
  rw[←Yf,←Yf]
  exact List.perm_append_comm.append_right L4
 |trans _ _ ih1 ih2=>
  intro L hL
  obtain⟨L',h1,h2⟩:=ih1 L hL
  obtain⟨L'',h3,h4⟩:=ih2 L' h2
  exact⟨L'',h3.trans h1,h4⟩
theorem cJ.perm {F F':cG}(h:F.Perm F'):cJ F F':=fun L hL=>
 let ⟨L',h1,h2⟩:=Fo h L hL;⟨L', [],h2,by simpa using h1⟩
theorem NK {F F' H:cG}(h:cJ F F'):cJ (F++H) (F'++H):=fun L hL=> by
 obtain⟨L1,L2,rfl,h1,h2⟩:=mn hL
 obtain⟨L',M,h3,h4⟩:=h L1 h1
 refine⟨L'++L2,M,pR h3 h2,?_⟩
 rw[Yf]
 refine(List.Perm.append_left L' List.perm_append_comm).trans ?_
 rw[←Yf]
 exact h4.append_right L2
theorem cJ.unstar {F H:cG}:cJ (fB F::H) (F++H):=fun L hL=> by
 obtain⟨L1,L2,rfl,h1,h2⟩:=hL
 exact⟨L1++L2, [],pR h1 h2,an⟩
theorem Sl.hsub {H H':cG}{s:SV}{α:Type}{e:Enc α}{xs:List α}(h:cJ H H') (hs:Sl H' s e xs):Sl H s e xs:=
 ⟨fun L hL=> by
  obtain⟨L',M,h1,h2⟩:=h L hL
  exact(hs.out L' h1).mono fun x hx=> h2.subset (Yy _ hx)⟩
section
variable {H:cG}{ι κ:Type}
def Cl (f:ι→cG) (l:List ι):Hp:=fB (l.flatMap f)
theorem cJ.cl {f:ι→cG}{l:List ι}{R H':cG} [hr:Rem H Cl f l R] (h:cJ R H'):cJ H (Cl f l::H'):=cJ.rem hr h.keep
theorem mY {f:ι→cG}{l:List ι}{i:Nat}{x:ι}(h:l[i]? =some x):cJ (Cl f l::H) (f x++(Cl f (l.take i)::Cl f (l.drop (i+1))::H)):=by
 have hi:=(Yk.1 h).1
 have e:l=l.take i++x::l.drop (i+1):=by
  have:=List.take_append_drop i l
  rw[List.drop_eq_getElem_cons hi]at this
  rw[(Yk.1 h).2]at this
  exact this.symm
 refine cJ.unstar.trans ?_
 have h2:(l.flatMap f++H).Perm (f x++((l.take i).flatMap f++((l.drop (i+1)).flatMap f++H))):=by
  conv=> lhs;rw[e]
  rw[List.flatMap_append,List.flatMap_cons,Yf,Yf]
  exact List.perm_append_comm_assoc ..
 refine(cJ.perm h2).trans ?_
 have h3:cJ ((l.take i).flatMap f++((l.drop (i+1)).flatMap f++H)) (Cl f (l.take i)::Cl f (l.drop (i+1))::H):=cJ.star (cJ.star cJ.refl)
 have:∀A B C:cG,cJ B C→cJ (A++B) (A++C):=by
  intro A B C hBC
  induction A with
  |nil=> exact hBC
  |cons a A ih=> exact cJ.keep ih
 exact this _ _ _ h3
theorem Cw {f:ι→cG}{l l':List ι}{y:ι}:cJ (f y++(Cl f l::Cl f l'::H)) (Cl f (l++y::l')::H):=by
 have h1:cJ (f y++(Cl f l::Cl f l'::H)) (f y++(l.flatMap f++(l'.flatMap f++H))):=by
  have:∀A B C:cG,cJ B C→cJ (A++B) (A++C):=by
   intro A B C hBC
   induction A with
   |nil=> exact hBC
   |cons a A ih=> exact cJ.keep ih
  exact this _ _ _ (cJ.unstar.trans (this _ _ _ cJ.unstar))
 refine h1.trans ?_
 have h2:(f y++(l.flatMap f++(l'.flatMap f++H))).Perm ((l++y::l').flatMap f++H):=by
  rw[List.flatMap_append,List.flatMap_cons,Yf,Yf]
  exact List.perm_append_comm_assoc ..
 exact(cJ.perm h2).trans (cJ.star cJ.refl)
theorem qo {f:ι→cG}{l:List ι}{i:Nat}(y:ι) (hi:i<l.length):cJ (f y++(Cl f (l.take i)::Cl f (l.drop (i+1))::H)) (Cl f (l.set i y)::H):=by
 rw[List.set_eq_take_append_cons_drop,if_pos hi]
 exact Cw
theorem fe {f:ι→cG}{H':cG}(h:cJ H H'):cJ H (Cl f []::H'):=cJ.add rfl h
theorem mX {f:ι→cG}{l:List ι}(y:ι):cJ (f y++(Cl f l::H)) (Cl f (l++ [y])::H):=by
 have:=Cw (H:=H) (f:=f) (l:=l) (l':= []) (y:=y)
 refine cJ.trans ?_ this
 have h3:∀A B C:cG,cJ B C→cJ (A++B) (A++C):=by
  intro A B C hBC
  induction A with
  |nil=> exact hBC
  |cons a A ih=> exact cJ.keep ih
 exact h3 _ _ _ (cJ.keep (fe cJ.refl))
theorem Lp {f:ι→cG}{l:List ι}{i:Nat}{x:ι}{s:SV}{α:Type}{e:Enc α}{xs:List α}(h:l[i]? =some x) (hs:∀R,Sl (f x++R) s e xs):Sl (Cl f l::H) s e xs:=Sl.hsub (mY h) (hs _)
end
theorem Row.pre {α:Type}{s g:SV}{e:Enc α}{xs ys:List α}{L:nf}(h:Row g e (xs++ys) L) (ha:s.a=g.a) (hc:s.c=g.c) (hn:s.n=xs.length):Row s e xs L:=by
 rcases h with⟨rfl,h2,rfl⟩|⟨b,C,E,fz,h1,h2,h3,rfl,h5,h6,h7⟩
 ·obtain⟨rfl,rfl⟩:=List.append_eq_nil_iff.1 h2
  obtain⟨a,n,c⟩:=s
  simp only at ha hc hn
  subst ha;subst hc;subst hn
  exact .inl ⟨rfl,rfl,rfl⟩
 ·rw[Ya]at h2
  refine .inr ⟨b,C,E,fz,ha.trans h1,hn,aa,rfl,by rw[hc];exact h5,h6,fun j v hv=> h7 j v ?_⟩
  rw[e.all_append,Yv (Yk.1 hv).1]
  exact hv
section
variable {G:cK}{P:Program}{N:Nat}{Q:Post}{t:Tm}{H:cG}{dst:Option Tmp}{ty:TypeId}{pos:String}{after:Array Edge}{g:Option (Nat×Bool)}{α:Type}{e:Enc α}
theorem St.post {o:Oper}{R1 R2:Value→cG→Prop}(h:St G P o t H R1) (hk:∀v H',R1 v H'→∃H'',cJ H' H''∧R2 v H''):St G P o t H R2:=fun ρ hρ w hw=> by
 have h1:=h ρ hρ w hw
 revert h1
 generalize (execOp ρ o).run P w=r
 intro h1
 cases r with
 |ok n w'=>
  cases n <;> simp only[lA]at h1⊢
  case value v=> obtain⟨H',h2,h3⟩:=h1;obtain⟨H'',h4,h5⟩:=hk _ _ h3;exact⟨H'',h4.sat h2,h5⟩
  case skip=> obtain⟨H',h2,h3⟩:=h1;obtain⟨H'',h4,h5⟩:=hk _ _ h3;exact⟨H'',h4.sat h2,h5⟩
  case enter f args=>
   refine h1.mono fun e w'' he=> ?_
   cases e with
   |returned v=> obtain⟨H',h2,h3⟩:=he;obtain⟨H'',h4,h5⟩:=hk _ _ h3;exact⟨H'',h4.sat h2,h5⟩
   |_=> exact he.elim
 |halt x w'=> simp only[lA]at h1
end
end Go.Sx
namespace Go.Sx
open Go
section
variable {G:cK}{P:Program}{N:Nat}{Q:Post}{t:Tm}{H:cG}
end
end Go.Sx
