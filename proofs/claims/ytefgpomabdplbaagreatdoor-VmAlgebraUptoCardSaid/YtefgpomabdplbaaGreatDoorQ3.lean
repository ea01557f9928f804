import Derived.Test.YtefgpomabdplbaaGreatDoorQ2
set_option linter.unusedVariables false
set_option linter.unusedSimpArgs false
set_option linter.unusedSectionVars false
set_option linter.unnecessarySimpa false
set_option maxHeartbeats 0
namespace Go.Sx
open Go
theorem jL {P:Program}(sz:Nat) (s:SV) (w:World):(Builtin.firstCells sz 0 s.val).run P w= .ok #[] w:=by
 cases h:s.a <;> simp[Builtin.firstCells,SV.val,h,loadCells,loadCellsFrom]
def rY (t:Tm):List (Nat×Operand)→Option (List (Nat×Value))
 | []=> some []
 |(i,x)::xs=> match evo t x,rY t xs with
  |some v,some vs=> some ((i,v)::vs)
  |_,_=> none
theorem qi {t:Tm}{ρ:Operand→Value}(hρ:zO t ρ):∀{xs:List (Nat×Operand)}{vs:List (Nat×Value)},rY t xs=some vs→xs.map (fun(i,x)=> (i,ρ x))=vs
 | [],_,h=> by cases h;rfl
 |(i,x)::xs,vs,h=> by
  simp only[rY]at h
  split at h
  ·rename_i v us h1 h2
   cases h
   rw[List.map_cons,qi hρ h2]
   simp only[hρ x v h1]
  ·cases h
def Enc.parts {α:Type}(e:Enc α):Nat→List α→List (Nat×Value)
 |_, []=> []
 |k,x::xs=> (k,e.v x)::e.parts (k+1) xs
theorem vF (cs:List Value):∀(C:Array Value) (o k:Nat),(cs.zipIdx k).foldl (fun cs (x:Value×Nat)=> cs.setIfInBounds (o+x.2) x.1) C=eO C (o+k) cs:=by
 induction cs with
 |nil=> intro C o k;rfl
 |cons c cs ih=> intro C o k;simp only[List.zipIdx_cons,List.foldl_cons,eO];rw[ih];rfl
theorem AZ {α:Type}(e:Enc α):∀(xs:List α) (k:Nat) (C:Array Value),(k+xs.length)*e.sz≤C.size→Instr.fill (fun i=> some (i*e.sz,e.sz)) C (e.parts k xs)=some (eO C (k*e.sz) (e.all xs)):=by
 intro xs
 induction xs with
 |nil=> intro k C _;rfl
 |cons x xs ih=>
  intro k C h
  simp only[Yb]at h
  have h2:k*e.sz+e.sz≤C.size:=by
   refine Xi ?_ h
   rw[show k*e.sz+e.sz=(k+1)*e.sz from bf]
   exact Nat.mul_le_mul_right _ (aa)
  have h3:∀o,((e.f x).toArray.zipIdx.foldl (fun cs (y:Value×Nat)=> cs.setIfInBounds (o+y.2) y.1) C)=eO C o (e.f x):=by
   intro o
   rw[←Array.foldl_toList]
   have:=vF (e.f x) C o 0
   simpa using this
  simp only[Enc.parts,Instr.fill,e.v_cells]
  rw[if_neg (by simp[e.len];exact h2)]
  have h4:=ih (k+1) (eO C (k*e.sz) (e.f x)) (by rw[fx];exact Xi (Nat.mul_le_mul_right _ (aa)) h)
  have h5:=h3 (k*e.sz)
  rw[h5,h4,Enc.all_cons]
  congr 1
  apply Array.ext_getElem?
  intro j
  have hsz:(k+(xs.length+1))*e.sz=k*e.sz+e.sz+xs.length*e.sz:=by
   rw[Nat.add_mul,Nat.add_mul];omega
  have hk1:(k+1)*e.sz=k*e.sz+e.sz:=bf
  rw[gh _ _ _ _ (by rw[fx,Enc.all_length,hk1];omega),gh _ _ _ _ (bt),gh _ _ _ _ (by rw[Ya,e.len,Enc.all_length];omega)]
  simp only[Ya,e.len,Enc.all_length,hk1]
  by_cases c1:k*e.sz+e.sz≤j∧j<k*e.sz+e.sz+xs.length*e.sz
  ·rw[if_pos c1,if_pos (aa),Yu (bt),e.len]
   congr 1;omega
  ·rw[if_neg c1]
   by_cases c2:k*e.sz≤j∧j<k*e.sz+e.sz
   ·rw[if_pos c2,if_pos (aa),Yv (bt)]
   ·rw[if_neg c2,if_neg (aa)]
section
variable {G:cK}{P:Program}{N:Nat}{Q:Post}{t:Tm}{H:cG}{dst:Option Tmp}{ty:TypeId}{pos:String}{after:Array Edge}{g:Option (Nat×Bool)}
theorem Sat.newRow {w:World}{α:Type}(hw:Sat G w H) (e:Enc α) (xs:List α) (C:Array Value) (E:TypeId) (n c:Nat) (hn:n=xs.length) (hc:n≤c) (hs:C.size=c*e.sz) (hC:∀(j:Nat) (v:Value),(e.all xs)[j]? =some v→C[j]? =some v):
 Sat G {w with heap:=w.heap.push (.cells C E)} (Row ⟨some ⟨w.heap.size,0,none⟩,n,c⟩ e xs::H):=
 (hw.alloc _).cons fun _ hM=> .inr ⟨w.heap.size,C,E,(0,0),rfl,hn,hc,hM,hs, .inl rfl,hC⟩
theorem dC {T E:TypeId}{n bb:Nat}{z:Value}{ps:List (Nat×Operand)}{α:Type}(e:Enc α) (xs:List α) [hT:Und P T (.slice E)] [hE:Inf P E e.sz bb z] (hp:rY t ps=some (e.parts 0 xs)) (hn:n=xs.length) (hb:n*e.sz≤16777216):
 St G P ⟨dst, .buildSlice T n ps.toArray,ty,pos,after,g⟩ t H (fun u H'=> ∃s:SV,u=s.val∧H'=Row s e xs::H):=
 fun ρ hρ w hw=> by
  subst hn
  have h2:(ps.toArray.map fun(i,x)=> (i,ρ x)).toList=e.parts 0 xs:=by simp[qi hρ hp]
  have hr:∃C:Array Value,C.size=xs.length*e.sz∧(∀(j:Nat) (v:Value),(e.all xs)[j]? =some v→C[j]? =some v)∧(execOp ρ ⟨dst, .buildSlice T xs.length ps.toArray,ty,pos,after,g⟩).run P w= .ok (.value (.slice (some ⟨w.heap.size,0,none⟩) xs.length xs.length)) {w with heap:=w.heap.push (.cells C E)}:=by
   have hnot:¬(xs.length*e.sz > 2 ^ 24):=aa
   obtain⟨Z,hZ⟩:∃Z,(if xs.length*e.sz=0 then #[]else z.cells:Array Value)=Z:=⟨_,rfl⟩
   have hf:=AZ e xs 0 ((Array.range (xs.length*e.sz)).map (Z[· % Z.size]!)) (an)
   refine⟨eO ((Array.range (xs.length*e.sz)).map (Z[· % Z.size]!)) (0*e.sz) (e.all xs),?_,?_,?_⟩
   ·rw[fx];simp
   ·intro j v hv
    have hj:j<xs.length*e.sz:=by rw[←e.all_length];exact(Yk.1 hv).1
    rw[gh _ _ _ _ (by simp[Enc.all_length])]
    rw[if_pos (by rw[e.all_length];omega)]
    simpa using hv
   ·have hm:(ps.toArray.map fun(i,x)=> (i,ρ x)).toList=e.parts 0 xs:=h2
    simp only[execOp,Instr.buildSlice,Sem.run_bind,da (T:=T),Result.andThen_ok,dQ (T:=E) (s:=e.sz),hnot,↓reduceIte,hm]
    by_cases h0:xs.length*e.sz=0
    ·rw[if_pos h0]at hZ⊢
     subst hZ
     simp only[Sem.run_bind,Sem.run_pure,Result.andThen_ok]
     rw[hf];rfl
    ·rw[if_neg h0]at hZ⊢
     subst hZ
     simp only[Sem.run_bind,Sem.run_pure,Result.andThen_ok,jA (T:=E)]
     rw[hf];rfl
  obtain⟨C,hC1,hC2,hr⟩:=hr
  rw[hr]
  exact⟨_,hw.newRow e xs C E _ _ rfl (Nat.le_refl _) hC1 hC2,⟨some ⟨w.heap.size,0,none⟩,xs.length,xs.length⟩,rfl,rfl⟩
theorem Sat.nilRow {w:World}{α:Type}(hw:Sat G w H) (e:Enc α):Sat G w (Row SV.nil e []::H):=by
 obtain⟨hs,L,hL,hl⟩:=hw
 exact⟨hs,L,⟨[],L,rfl, .inl ⟨rfl,rfl,rfl⟩,hL⟩,hl⟩
theorem nx.split {w:World}{s:SV}{α:Type}{e:Enc α}{xs:List α}{C:Hp→cG}(h:nx H s e xs C) (hw:Sat G w H):
 ∃L1 M L2,jc w (L1++(M++L2))∧Row s e xs M∧∀(B:Hp) M',B M'→Sep (C B) (L1++(M'++L2)):=by
 obtain⟨_,L,hL,hl⟩:=hw
 obtain⟨L1,M,L2,rfl,hM,hB⟩:=h.foc _ hL
 exact⟨L1,M,L2,hl,hM,hB⟩
theorem jc.push {w:World}{L1 M L2:nf}(h:jc w (L1++(M++L2))) (o:Obj):jc {w with heap:=w.heap.push o} (L1++([(w.heap.size,o)]++L2)):=by
 have hsub:(L1++L2).Sublist (L1++(M++L2)):=(List.Sublist.refl L1).append (List.sublist_append_right M L2)
 have hn:((L1++L2).map (·.1)).Nodup:=(hsub.map _).nodup h.nodup
 have hlt:∀x∈L1++L2,x.1<w.heap.size:=fun x hx=> h.lt (hsub.subset hx)
 have hperm:(L1++([(w.heap.size,o)]++L2)).Perm ((w.heap.size,o)::(L1++L2)):=by
  simp
 refine⟨?_,?_⟩
 ·rw[(hperm.map _).nodup_iff,List.map_cons,List.nodup_cons]
  refine⟨fun hm=> ?_,hn⟩
  obtain⟨x,hx,he⟩:=List.mem_map.1 hm
  have:=hlt x hx
  simp only at he
  omega
 ·intro x hx
  rcases List.mem_cons.1 (hperm.mem_iff.1 hx)with rfl|hx
  ·simp
  ·have h1:=hlt x hx
   simp only[Array.getElem?_push]
   rw[if_neg (aa)]
   exact h.at_ x (hsub.subset hx)
def zM (P:Program) (sz:Nat) (v:Value) (m:Nat) (cs:List Value) (w:World):Prop:=
 (Builtin.lenOf v).run P w= .ok m w∧∀d,(Builtin.firstCells sz m v).run P {w with drawn:=d}= .ok cs.toArray {w with drawn:=d}
theorem mq {w:World}{T T2 E:TypeId}{d2:TypeDesc}{s:SV}{v z:Value}{m sz bb:Nat}{cs:List Value}{α:Type}{e:Enc α}{xs ys:List α}{C:Hp→cG} [hT:Und P T (.slice E)] [hT2:Und P T2 d2] [hE:Inf P E sz bb z] (hd2:d2= .string∨∃e2,d2= .slice e2) (hsz:sz=e.sz) (hzc:z.cells.size=sz)
 [hf:nx H s e xs C] (hw:Sat G w H) (hg:zM P sz v m cs w) (hcs:cs=e.all ys) (hm:m=ys.length) (hlim:(xs.length+ys.length)*bb≤140737488355328) (hlim2:xs.length+ys.length≤140737488355328):
 ∃(s':SV) (w':World),(Builtin.append_ #[T,T2] ty #[s.val,v]).run P w= .ok s'.val w'∧Sat G w' (C (Row s' e (xs++ys))):=by
 subst hsz hcs hm
 obtain⟨hg1,hg2⟩:=hg
 have hg2w:=hg2 w.drawn
 obtain⟨L1,M,L2,hl,hM,hB⟩:=hf.split hw
 obtain⟨i,hi1,hi2,hi3,hi4⟩:=hE.out
 have hone:=e.all_one ys
 have hsn:s.n=xs.length∧s.n≤s.c:=by
  rcases hM with⟨rfl,rfl,_⟩|⟨b,C0,E0,fz,_,h2,h3,_⟩
  ·exact⟨rfl,Nat.le_refl _⟩
  ·exact⟨h2,h3⟩
 rcases hd2 with rfl|⟨e2,rfl⟩
 all_goals
  by_cases hroom:s.n+ys.length≤s.c
  ·
   rcases hM with⟨rfl,rfl,rfl⟩|⟨b,C0,E0,fz,h1,h2,h3,rfl,h5,h6,h7⟩
   ·obtain rfl:ys= []:=by
     simp[SV.nil]at hroom;exact hroom
    refine⟨SV.nil,w,?_,hw.1,_,hB _ [] (.inl ⟨rfl,rfl,rfl⟩),bx⟩
    simp only[Builtin.append_,SV.nil,SV.val]
    simp only[Sem.run_bind,Sem.run_pure,Result.andThen_ok,da (T:=T),dQ (T:=E) (s:=e.sz),List.getElem?_toArray,Xb,Xc,da (T:=T2),hg1,Bool.false_eq_true,↓reduceIte,Bool.not_false,Nat.add_zero,Yc,Nat.le_refl]
    have:=hg2w
    simp only[Yc]at this
    rw[this]
    rfl
   ·have hbw:w.heap[b]? =some (.cells C0 E0 fz):=hl.at_ (b, .cells C0 E0 fz) (an)
    have hfit:s.n*e.sz+(e.all ys).length≤C0.size:=by
     rw[e.all_length,h5,←Nat.add_mul];exact Nat.mul_le_mul_right _ hroom
    have hst:=fw (P:=P) (o:=s.n*e.sz) (e.all ys) 0 C0 w hbw (fun j _ h=> h6.free j (aa)) (aa) hone
    refine⟨⟨some ⟨b,0,none⟩,s.n+ys.length,s.c⟩,ec w b (.cells (eO C0 (s.n*e.sz) (e.all ys)) E0 fz),?_,⟨hw.1.os,hw.1.tape,hw.1.output⟩,_,hB _ [(b, .cells (eO C0 (s.n*e.sz) (e.all ys)) E0 fz)] (.inr ⟨b,_,E0,fz,rfl,by simp[h2],hroom,rfl,by rw[fx,h5],by rw[fx];exact h6,?_⟩),?_⟩
    ·simp only[Builtin.append_,SV.val,h1]
     simp only[Sem.run_bind,Sem.run_pure,Result.andThen_ok,da (T:=T),dQ (T:=E) (s:=e.sz),List.getElem?_toArray,Xb,Xc,da (T:=T2),hg1,Bool.false_eq_true,↓reduceIte,Bool.not_false,hroom]
     rw[hg2w]
     simp only[Result.andThen_ok,gN,Nat.zero_add]
     simp only[Nat.add_zero]at hst
     rw[hst]
     rfl
    ·intro j u hu
     rw[gh _ _ _ _ hfit]
     rw[e.all_append]at hu
     have hlx:(e.all xs).length=s.n*e.sz:=by rw[e.all_length,h2]
     by_cases hj:j<s.n*e.sz
     ·rw[if_neg (aa)]
      rw[Yv (aa)]at hu
      exact h7 j u hu
     ·rw[Yu (aa),hlx]at hu
      rw[if_pos ⟨aa,by have:=(Yk.1 hu).1;omega⟩]
      exact hu
    ·have:=jc.change (w':=ec w b (.cells (eO C0 (s.n*e.sz) (e.all ys)) E0 fz)) (L1:=L1) (L2:=L2) (b:=b) (o:= .cells C0 E0 fz) (o':= .cells (eO C0 (s.n*e.sz) (e.all ys)) E0 fz) (bx) (fS hbw) (fun i hi _=> fh hi)
     simpa using this
  ·
   have hgt:s.c<s.n+ys.length:=aa
   have hn63:¬((s.n+ys.length:Nat):Int) > IntKind.i64.max:=by
    simp only[IntKind.max,IntKind.signed,IntKind.bits];simp;omega
   have h48:¬(Builtin.nextslicecap (s.n+ys.length) s.c*bb > 2 ^ 48):=by
    have:=growslice_fits (bytes:=bb) hgt (by rw[hsn.1];exact hlim)
    omega
   have holds:∀d,(Builtin.firstCells e.sz s.n s.val).run P {w with drawn:=d}= .ok (e.all xs).toArray {w with drawn:=d}:=by
    intro d
    rcases hM with⟨rfl,rfl,rfl⟩|⟨b,C0,E0,fz,h1,h2,h3,rfl,h5,h6,h7⟩
    ·rfl
    ·have hbw:({w with drawn:=d}:World).heap[b]? =some (.cells C0 E0 fz):=hl.at_ (b, .cells C0 E0 fz) (an)
     have:=ea (P:=P) (o:=0) hbw (e.all xs) (fun j v hv=> by rw[Nat.zero_add];exact h7 j v hv)
     rw[e.all_length,←h2]at this
     simp only[Builtin.firstCells,SV.val,h1,this]
   let q:Question:= .appendCap (s.n+ys.length) s.c E
   let nc:Nat:=q.cut (w.tape w.drawn q)
   have hnc:s.n+ys.length≤nc:=by
    show s.n+ys.length≤(s.n+ys.length)+_
    omega
   have hzn:(Builtin.zeroCells z.cells (nc - (s.n+ys.length))).size=(nc - (s.n+ys.length))*e.sz:=by
    simp[Builtin.zeroCells,hzc]
   refine⟨⟨some ⟨w.heap.size,0,none⟩,s.n+ys.length,nc⟩,{w with drawn:=w.drawn+1,heap:=w.heap.push (.cells ((e.all xs).toArray++(e.all ys).toArray++Builtin.zeroCells z.cells (nc - (s.n+ys.length))) E)},?_,⟨hw.1.os,hw.1.tape,hw.1.output⟩,_,
    hB _ [(w.heap.size, .cells ((e.all xs).toArray++(e.all ys).toArray++Builtin.zeroCells z.cells (nc - (s.n+ys.length))) E)] (.inr ⟨w.heap.size,_,E,(0,0),rfl,by simp[hsn.1],hnc,rfl,?_, .inl rfl,?_⟩),?_⟩
   ·have hq:q.forced=false:=rfl
    have hinf:∀w:World,(typeInfo E).run P w= .ok i w:=by intro w;simp[typeInfo,hi1]
    have hso:=holds (w.drawn+1)
    have hgo:=hg2 (w.drawn+1)
    have c1:¬(((s.n+ys.length:Nat):Int) > IntKind.i64.max∧(false=true∨i.bytes=0)):=fun h=> hn63 h.1
    simp only[Builtin.append_,SV.val]at hso⊢
    simp only[Sem.run_bind,Sem.run_pure,Result.andThen_ok,da (T:=T),dQ (T:=E) (s:=e.sz),List.getElem?_toArray,Xb,Xc,da (T:=T2),hg1,Bool.false_eq_true,↓reduceIte,Bool.not_false,hroom,hinf,hi3]
    rw[if_neg (by rw[←hi3];exact fun h=> hn63 h.1)]
    simp only[Sem.run_bind,hinf,hi3,Result.andThen_ok]
    rw[if_neg h48]
    simp only[Sem.run_bind,Sem.run_pure,run_choose]
    rw[show(Question.appendCap (s.n+ys.length) s.c E).forced=false from rfl]
    simp only[Bool.false_eq_true,↓reduceIte,Result.andThen_ok,hinf,run_askRoom,hso,hgo,jA (T:=E)]
    rfl
   ·rw[Array.size_append,Array.size_append,hzn]
    simp only[List.size_toArray,e.all_length,←Nat.add_mul]
    congr 1
    omega
   ·intro j u hu
    rw[e.all_append]at hu
    have hj:=(Yk.1 hu).1
    rw[Array.getElem?_append_left (by simp at hj⊢;exact hj)]
    simpa using hu
   ·have:=hl.push (.cells ((e.all xs).toArray++(e.all ys).toArray++Builtin.zeroCells z.cells (nc - (s.n+ys.length))) E)
    exact⟨this.nodup,this.at_⟩
theorem eY {T T2 E E2:TypeId}{x y:Operand}{s s2:SV}{sz bb:Nat}{z:Value}{α:Type}{e:Enc α}{xs ys:List α}{C:Hp→cG}(hx:evo t x=some s.val) (hy:evo t y=some s2.val) [hT:Und P T (.slice E)] [hT2:Und P T2 (.slice E2)] [hE:Inf P E sz bb z] [hf:nx H s e xs C] [hs:Sl H s2 e ys]
 (hsz:sz=e.sz) (hzc:z.cells.size=sz) (hlim:(xs.length+ys.length)*bb≤140737488355328) (hlim2:xs.length+ys.length≤140737488355328):
 St G P ⟨dst, .call ⟨.builtin .append, #[x,y], #[T,T2]⟩,ty,pos,after,g⟩ t H (fun u H'=> ∃s':SV,u=s'.val∧H'=C (Row s' e (xs++ys))):=
 fun ρ hρ w hw=> by
  subst hsz
  have hg:zM P e.sz s2.val ys.length (e.all ys) w:=by
   obtain⟨h1,_,h3⟩:=hs.get hw
   refine⟨by simp[Builtin.lenOf,SV.val,h1],fun d=> ?_⟩
   rcases h3 with⟨rfl,_⟩|⟨b,off,C0,E0,fz,h4,hb,_,h6⟩
   ·rw[Yc,jL,Enc.all_nil]
   ·have:=ea (P:=P) (w:={w with drawn:=d}) (o:=off) hb (e.all ys) h6
    rw[e.all_length]at this
    simp only[Builtin.firstCells,SV.val,h4,this]
  obtain⟨s',w',hr,hw'⟩:=mq (ty:=ty) (T:=T) (T2:=T2) (d2:= .slice E2) (P:=P) (E:=E) (.inr ⟨E2,rfl⟩) rfl hzc (hf:=hf) hw hg rfl rfl hlim hlim2
  have:(execOp ρ ⟨dst, .call ⟨.builtin .append, #[x,y], #[T,T2]⟩,ty,pos,after,g⟩).run P w= .ok (.value s'.val) w':=by
   simp only[execOp,resolve,invoke,builtin,List.map_toArray,List.map_cons,List.map_nil,hρ _ _ hx,hρ _ _ hy,Sem.run_bind,Sem.run_pure,Result.andThen_ok,hr]
  rw[this]
  exact⟨_,hw',s',rfl,rfl⟩
end
end Go.Sx
