import Derived.Test.YtcbidldebfibkaaGreatDoorQ5
set_option linter.unusedVariables false
set_option linter.unusedSimpArgs false
set_option linter.unusedSectionVars false
set_option linter.unnecessarySimpa false
set_option maxHeartbeats 0
namespace Go.Sx
open Go
section
variable {G:cM}{P:Program}{ops:Array Oper}{N:Nat}{Q:fY}{t:Tm}{H:cG}
theorem pH {loud:Nat→Bool}{F:Nat→cG→Prop}{fuel:Nat}{listed:Array Bool}{dst:Option Tmp}{op:Op}{ty:TypeId}{pos:String}{after:Array Edge}{R:Value→cG→Prop}{k d:Nat}{want:Bool}(i:Nat) (hi:ops[i]? =some ⟨dst,op,ty,pos,after,some (k,want)⟩) (hk:(ops[k]?).bind (·.dst)=some d) (hv:look t d=some (.bool want)) (hr:Region.ready .any ops listed= [i]) (hd:fX N dst=true)
 (hF:∀i,rJ ops loud i listed→F i H) (hs:St G P ⟨dst,op,ty,pos,after,some (k,want)⟩ t H R) (h:∀v H',R v H'→An G P N ops loud F Q fuel (listed.setIfInBounds i true) (put t dst v) H'):An G P N ops loud F Q (fuel+1) listed t H:=
 ⟨fun a ha=> ⟨hF,fun h0=> (bO),fun j hj=> by
  rw[hr]at hj
  obtain rfl:j=i:=by simpa using hj
  unfold OpK
  simp only[hi]
  rw[if_pos (cq)]
  intro w hw
  have h1:=hs a.eval ha.agree w hw
  generalize (execOp a.eval _).run P w=r at*
  cases r with
  |ok n w'=>
   cases n <;> simp only[mc]at h1 <;> simp only[mM]
   case value u=> obtain⟨H',q1,q2⟩:=h1;exact⟨H',q1,(h u H' q2).go _ (ha.put hd u)⟩
   case skip=> obtain⟨H',q1,q2⟩:=h1;exact⟨H',q1,(h _ H' q2).go _ (ha.put hd _)⟩
   case enter f args=>
    exact h1.mono fun e w'' he=> by
     cases e with
     |returned u=> obtain⟨H',q1,q2⟩:=he;exact⟨H',q1,(h u H' q2).go _ (ha.put hd u)⟩
     |_=> exact he
  |halt x w'=> simp only[mc]at h1⟩⟩
theorem oX {T E U:TypeId}{x:Operand}{s:SV}{α:Type}{e:Enc α}{xs:List α}{dst:Option Tmp}{ty:TypeId}{pos:String}{after:Array Edge}{g:Option (Nat×Bool)} [hT:Und P T (.slice E)] [hs:Sl H s e xs] (hx:evo t x=some s.val) (hne:xs≠ []):Ev G P ⟨dst, .binOp .eql T x (.const (.slice none 0 0)) U,ty,pos,after,g⟩ t H (.bool false):=
 fun ρ hρ w hw=> by
  obtain⟨_,_,h3⟩:=hs.get hw
  rcases h3 with⟨h4,_⟩|⟨b,off,C,E',fz,h4,_⟩
  ·exact absurd h4 hne
  ·have h1:=gw (P:=P) (op:= .eql) (T:=T) (x:=x) (y:= .const (.slice none 0 0)) (w:=w) (a:=s.val) (b:= .slice none 0 0) (.inr rfl) (fun c h=> bC)
   have h2:=jQ (P:=P) (w:=w) (T:=T) (x:=s.val) (y:= .slice none 0 0) (r:=false) (fun d=> by simp only[SV.val,h4,Op.equalIn,Sem.run_bind,df (T:=T),Result.andThen_ok,Sem.run_pure])
   have h5:(binOp .eql T s.val (.slice none 0 0)).run P w= .ok (.bool false) w:=by
    simp only[SV.val]at h2⊢
    simp only[binOp,Sem.run_bind,h2,Result.andThen_ok,Sem.run_pure]
   simp only[execOp,hρ _ _ hx,hρ (.const (.slice none 0 0)) _ rfl,Sem.run_bind,h1,Result.andThen_ok,h5,Sem.run_pure]
end
section
variable {G:cM}{P:Program}{ops:Array Oper}{N:Nat}{Q:fY}{t:Tm}{H:cG}{dst:Option Tmp}{ty:TypeId}{pos:String}{after:Array Edge}{g:Option (Nat×Bool)}
theorem fo {T:TypeId}{x y:Operand}{s:SV}{i sz bb:Nat}{z v:Value}{α:Type}{e:Enc α}{xs:List α}{a:α}{C:Hp→cG}(hx:evo t x=some (.pointer (s.elt sz i 0))) (hy:evo t y=some v) [hT:Inf P T sz bb z] [hf:o9 H s e xs C] [hv:fH e v a] (hsz:e.sz=sz) (hlt:i<xs.length):
 St G P ⟨dst, .store T x y,ty,pos,after,g⟩ t H (fun u H'=> u=undef∧H'=C (Row s e (xs.set i a))):=
 fun ρ hρ w hw=> by
  subst hsz
  obtain⟨L1,M,L2,hl,hM,hB⟩:=hf.split hw
  rcases hM with⟨rfl,rfl,rfl⟩|⟨b,C0,E0,fz,g1,g2,g3,rfl,g5,g6,g7⟩
  ·simp at hlt
  ·have hbw:w.heap[b]? =some (.cells C0 E0 fz):=hl.at_ (b, .cells C0 E0 fz) (aj)
   have hle:i*e.sz+e.sz≤C0.size:=by
    rw[g5,show i*e.sz+e.sz=(i+1)*e.sz from bE]
    exact Nat.mul_le_mul_right _ (a8)
   have hst:=fS (P:=P) (o:=i*e.sz) (e.f a) 0 C0 w hbw (fun j _ h=> g6.free j (by rw[e.len]at h;omega)) (bx) (fun u hu=> e.one a u hu)
   have hcs:v.cells=(e.f a).toArray:=by rw[←hv.out,e.v_cells]
   have hn:v.cells.size=e.sz:=by rw[hcs];simp[e.len]
   have hx':=hρ _ _ hx
   simp only[SV.elt,g1,Option.map_some,Nat.add_zero,Nat.zero_add]at hx'
   have hr:(execOp ρ ⟨dst, .store T x y,ty,pos,after,g⟩).run P w= .ok .skip (er w b (.cells (fk C0 (i*e.sz) (e.f a)) E0 fz)):=by
    simp only[execOp,hx',hρ _ _ hy,Instr.storeAt,Instr.sureAddr,storeVar,Sem.run_bind,Sem.run_pure,Result.andThen_ok,dZ (T:=T),hn]
    simp only[ne_eq,not_true_eq_false,↓reduceIte]
    rw[hcs]
    simp only[Nat.add_zero]at hst⊢
    rw[hst];rfl
   rw[hr]
   refine⟨C (Row s e (xs.set i a)),⟨⟨hw.1.os,hw.1.tape,hw.1.output⟩,_,hB _ [(b, .cells (fk C0 (i*e.sz) (e.f a)) E0 fz)] (.inr ⟨b,_,E0,fz,g1,by rw[List.length_set];exact g2,g3,rfl,by rw[fT,g5],by rw[fT];exact g6,?_⟩),?_⟩,rfl,rfl⟩
   ·intro j u hu
    rw[gO _ _ _ _ (by rw[e.len];exact hle),e.len]
    rw[List.set_eq_take_append_cons_drop,if_pos hlt,e.all_append,e.all_cons]at hu
    have hla:(e.all (xs.take i)).length=i*e.sz:=bI
    by_cases hj:j<i*e.sz
    ·rw[if_neg (a8)]
     rw[Yv (a8),e.all_take,List.getElem?_take_of_lt hj]at hu
     exact g7 j u hu
    ·rw[Yu (a8),hla]at hu
     by_cases hj2:j<i*e.sz+e.sz
     ·rw[if_pos (a8)]
      rw[Yv (bx)]at hu
      exact hu
     ·rw[if_neg (a8)]
      rw[Yu (bx),e.len,e.all_drop,Xh,Nat.add_mul,Nat.one_mul]at hu
      exact g7 j u (by rw[←hu];congr 1;omega)
   ·have:=kD.change (w':=er w b (.cells (fk C0 (i*e.sz) (e.f a)) E0 fz)) (L1:=L1) (L2:=L2) (b:=b) (o:= .cells C0 E0 fz) (o':= .cells (fk C0 (i*e.sz) (e.f a)) E0 fz) (bA) (gu hbw) (fun i hi _=> fI hi)
    simpa using this
end
section
variable {G:cM}{P:Program}{N:Nat}{Q:fY}{t:Tm}{H:cG}{dst:Option Tmp}{ty:TypeId}{pos:String}{after:Array Edge}{g:Option (Nat×Bool)}
end
theorem DN {F F':cG}(h:F.Perm F'):∀L,Sep F L→∃L',L'.Perm L∧Sep F' L':=by
 induction h with
 |nil=> exact fun L hL=> ⟨L, .refl L,hL⟩
 |cons A _ ih=>
  rintro L ⟨L1,L2,rfl,h1,h2⟩
  obtain⟨L',h3,h4⟩:=ih L2 h2
  exact⟨L1++L',h3.append_left L1,L1,L',rfl,h1,h4⟩
 |swap A B l=>
  rintro L ⟨L1,L2,rfl,h1,L3,L4,rfl,h3,h4⟩
  refine⟨L3++(L1++L4),?_,L3,L1++L4,rfl,h3,L1,L4,rfl,h1,h4⟩
  rw[←Yf,←Yf]
  exact List.perm_append_comm.append_right L4
 |trans _ _ ih1 ih2=>
  intro L hL
  obtain⟨L',h1,h2⟩:=ih1 L hL
  obtain⟨L'',h3,h4⟩:=ih2 L' h2
  exact⟨L'',h3.trans h1,h4⟩
theorem cK.perm {F F':cG}(h:F.Perm F'):cK F F':=fun L hL=>
 let ⟨L',h1,h2⟩:=DN h L hL;⟨L', [],h2,cx⟩
theorem qP {F F':cG}(h:F'.Sublist F):cK F F':=by
 induction h with
 |slnil=> exact cK.refl
 |cons A _ ih=> exact cK.drop ih
 |cons_cons A _ ih=> exact cK.keep ih
theorem nr {F F' H:cG}(h:cK F F'):cK (F++H) (F'++H):=fun L hL=> by
 obtain⟨L1,L2,rfl,h1,h2⟩:=pn hL
 obtain⟨L',M,h3,h4⟩:=h L1 h1
 refine⟨L'++L2,M,tB h3 h2,?_⟩
 rw[Yf]
 refine(List.Perm.append_left L' List.perm_append_comm).trans ?_
 rw[←Yf]
 exact h4.append_right L2
theorem cK.unstar {F H:cG}:cK (dH F::H) (F++H):=fun L hL=> by
 obtain⟨L1,L2,rfl,h1,h2⟩:=hL
 exact⟨L1++L2, [],tB h1 h2,aj⟩
theorem Sl.hsub {H H':cG}{s:SV}{α:Type}{e:Enc α}{xs:List α}(h:cK H H') (hs:Sl H' s e xs):Sl H s e xs:=
 ⟨fun L hL=> by
  obtain⟨L',M,h1,h2⟩:=h L hL
  exact(hs.out L' h1).mono fun x hx=> h2.subset (Yy _ hx)⟩
section
variable {H:cG}{ι κ:Type}
def Cl (f:ι→cG) (l:List ι):Hp:=dH (l.flatMap f)
theorem km {f:ι→cG}{l:List ι}{i:Nat}{x:ι}(h:l[i]? =some x):cK (Cl f l::H) (f x++(Cl f (l.take i)::Cl f (l.drop (i+1))::H)):=by
 have hi:=(Yk.1 h).1
 have e:l=l.take i++x::l.drop (i+1):=by
  have:=List.take_append_drop i l
  rw[List.drop_eq_getElem_cons hi]at this
  rw[(Yk.1 h).2]at this
  exact this.symm
 refine cK.unstar.trans ?_
 have h2:(l.flatMap f++H).Perm (f x++((l.take i).flatMap f++((l.drop (i+1)).flatMap f++H))):=by
  conv=> lhs;rw[e]
  rw[List.flatMap_append,List.flatMap_cons,Yf,Yf]
  exact List.perm_append_comm_assoc ..
 refine(cK.perm h2).trans ?_
 have h3:cK ((l.take i).flatMap f++((l.drop (i+1)).flatMap f++H)) (Cl f (l.take i)::Cl f (l.drop (i+1))::H):=cK.star (cK.star cK.refl)
 have:∀A B C:cG,cK B C→cK (A++B) (A++C):=by
  intro A B C hBC
  induction A with
  |nil=> exact hBC
  |cons a A ih=> exact cK.keep ih
 exact this _ _ _ h3
theorem BH {f:ι→cG}{l l':List ι}{y:ι}:cK (f y++(Cl f l::Cl f l'::H)) (Cl f (l++y::l')::H):=by
 have h1:cK (f y++(Cl f l::Cl f l'::H)) (f y++(l.flatMap f++(l'.flatMap f++H))):=by
  have:∀A B C:cG,cK B C→cK (A++B) (A++C):=by
   intro A B C hBC
   induction A with
   |nil=> exact hBC
   |cons a A ih=> exact cK.keep ih
  exact this _ _ _ (cK.unstar.trans (this _ _ _ cK.unstar))
 refine h1.trans ?_
 have h2:(f y++(l.flatMap f++(l'.flatMap f++H))).Perm ((l++y::l').flatMap f++H):=by
  rw[List.flatMap_append,List.flatMap_cons,Yf,Yf]
  exact List.perm_append_comm_assoc ..
 exact(cK.perm h2).trans (cK.star cK.refl)
theorem qE {f:ι→cG}{l:List ι}{i:Nat}(y:ι) (hi:i<l.length):cK (f y++(Cl f (l.take i)::Cl f (l.drop (i+1))::H)) (Cl f (l.set i y)::H):=by
 rw[List.set_eq_take_append_cons_drop,if_pos hi]
 exact BH
theorem eA {f:ι→cG}{H':cG}(h:cK H H'):cK H (Cl f []::H'):=cK.add rfl h
theorem lW {f:ι→cG}{l:List ι}(y:ι):cK (f y++(Cl f l::H)) (Cl f (l++ [y])::H):=by
 have:=BH (H:=H) (f:=f) (l:=l) (l':= []) (y:=y)
 refine cK.trans ?_ this
 have h3:∀A B C:cG,cK B C→cK (A++B) (A++C):=by
  intro A B C hBC
  induction A with
  |nil=> exact hBC
  |cons a A ih=> exact cK.keep ih
 exact h3 _ _ _ (cK.keep (eA cK.refl))
theorem Ln {f:ι→cG}{g:κ→cG}{u:ι→κ}{l:List ι}(hf:∀x∈l,cK (f x) (g (u x))):cK (Cl f l::H) (Cl g (l.map u)::H):=by
 refine cK.unstar.trans (cK.trans (nr (F':=(l.map u).flatMap g) ?_) (cK.star cK.refl))
 induction l with
 |nil=> exact cK.refl
 |cons x l ih=>
  rw[List.map_cons,List.flatMap_cons,List.flatMap_cons]
  have h3:∀A B C:cG,cK B C→cK (A++B) (A++C):=by
   intro A B C hBC
   induction A with
   |nil=> exact hBC
   |cons a A ih=> exact cK.keep ih
  exact(nr (hf x (List.mem_cons_self ..))).trans (h3 _ _ _ (ih fun y hy=> hf y (Xa _ hy)))
end
theorem Row.pre {α:Type}{s g:SV}{e:Enc α}{xs ys:List α}{L:nD}(h:Row g e (xs++ys) L) (ha:s.a=g.a) (hc:s.c=g.c) (hn:s.n=xs.length):Row s e xs L:=by
 rcases h with⟨rfl,h2,rfl⟩|⟨b,C,E,fz,h1,h2,h3,rfl,h5,h6,h7⟩
 ·obtain⟨rfl,rfl⟩:=List.append_eq_nil_iff.1 h2
  obtain⟨a,n,c⟩:=s
  simp only at ha hc hn
  subst ha;subst hc;subst hn
  exact .inl ⟨rfl,rfl,rfl⟩
 ·rw[Ya]at h2
  refine .inr ⟨b,C,E,fz,ha.trans h1,hn,a8,rfl,by rw[hc];exact h5,h6,fun j v hv=> h7 j v ?_⟩
  rw[e.all_append,Yv (Yk.1 hv).1]
  exact hv
section
variable {G:cM}{P:Program}{N:Nat}{Q:fY}{t:Tm}{H:cG}{dst:Option Tmp}{ty:TypeId}{pos:String}{after:Array Edge}{g:Option (Nat×Bool)}{α:Type}{e:Enc α}
theorem St.post {o:Oper}{R1 R2:Value→cG→Prop}(h:St G P o t H R1) (hk:∀v H',R1 v H'→∃H'',cK H' H''∧R2 v H''):St G P o t H R2:=fun ρ hρ w hw=> by
 have h1:=h ρ hρ w hw
 revert h1
 generalize (execOp ρ o).run P w=r
 intro h1
 cases r with
 |ok n w'=>
  cases n <;> simp only[mc]at h1⊢
  case value v=> obtain⟨H',h2,h3⟩:=h1;obtain⟨H'',h4,h5⟩:=hk _ _ h3;exact⟨H'',h4.sat h2,h5⟩
  case skip=> obtain⟨H',h2,h3⟩:=h1;obtain⟨H'',h4,h5⟩:=hk _ _ h3;exact⟨H'',h4.sat h2,h5⟩
  case enter f args=>
   refine h1.mono fun e w'' he=> ?_
   cases e with
   |returned v=> obtain⟨H',h2,h3⟩:=he;obtain⟨H'',h4,h5⟩:=hk _ _ h3;exact⟨H'',h4.sat h2,h5⟩
   |_=> exact he.elim
 |halt x w'=> simp only[mc]at h1
end
end Go.Sx
namespace Go.Sx
open Go
section
variable {G:cM}{P:Program}{N:Nat}{Q:fY}{t:Tm}{H:cG}
theorem nt {x y:Code}(F:Tm) (h:W G P N x (fun e t' H'=> e= .normal∧Sub F t'∧H'=H) t H) (k:W G P N y Q F H):W G P N (.seq x y) Q t H:=
 AL (zl h fun e t' H' hq=> by
  obtain⟨rfl,hs,rfl⟩:=hq
  exact De hs k)
theorem uJ {p:Prop} [Decidable p] (h:¬p):false=decide p:=(Yr h).symm
theorem oY {p:Prop} [Decidable p] (h:p):true=decide p:=(Ys h).symm
theorem G8 {p q:Prop} [Decidable p] [Decidable q] (h:¬p↔q):(!decide p)=decide q:=by
 by_cases hp:p
 ·rw[Ys hp];exact uJ (fun hq=> (h.2 hq) hp)
 ·rw[Yr hp];exact oY (h.1 hp)
theorem qD {p q:Prop} [Decidable p] [Decidable q] (h:p↔q):decide p=decide q:=decide_eq_decide.2 h
end
end Go.Sx
