import Derived.Test.YtidnknhabomaiaaGreatDoorQ45
set_option linter.unusedVariables false
set_option linter.unusedSimpArgs false
set_option linter.unusedSectionVars false
set_option linter.unnecessarySimpa false
set_option maxHeartbeats 0
namespace Go.Sx
open Go
def readyB (ops:Array Oper) (l:Array Bool) (i:Nat):Bool:= !l.getD i true && match ops[i]? with
 |none=> false
 |some o=> o.after.toList.all fun e=> !Region.binds .any e ||l.getD e.on false
theorem readyB_iff {ops:Array Oper}{l:Array Bool}{i:Nat}:i∈Region.ready .any ops l↔readyB ops l i=true:=by
 rw[mem_ready]
 unfold readyB
 constructor
 ·rintro⟨h1,o,ho,h2⟩
  rw[h1,ho]
  simp only[Bool.not_false,Bool.true_and,List.all_eq_true]
  intro e he
  cases hb:Region.binds .any e with
  |false=> rfl
  |true=> rw[h2 e (Array.mem_toList_iff.1 he) hb];all_goals rfl
 ·intro h
  cases h1:l.getD i true with
  |true=> rw[h1]at h;simp at h
  |false=>
   rw[h1]at h
   cases ho:ops[i]? with
   |none=> rw[ho]at h;simp at h
   |some o=>
    rw[ho]at h
    simp only[Bool.not_false,Bool.true_and,List.all_eq_true]at h
    refine⟨rfl,o,rfl,fun e he hb=> ?_⟩
    have h3:=h e (Array.mem_toList_iff.2 he)
    rw[hb]at h3
    simpa using h3
theorem readyB_after {ops:Array Oper}{l:Array Bool}{i:Nat}(j:Nat) (h:readyB ops l i=true) (ha:(match ops[i]? with|none=> false|some o=> o.after.toList.any fun e=> Region.binds .any e && Nat.beq e.on j)=true):l.getD j false=true:=by
 obtain⟨_,o,ho,h2⟩:=mem_ready.1 (readyB_iff.2 h)
 rw[ho]at ha
 obtain⟨e,he,h3⟩:=List.any_eq_true.1 ha
 rw[Bool.and_eq_true]at h3
 have h4:=h2 e (Array.mem_toList_iff.1 he) h3.1
 rw[Nat.eq_of_beq_eq_true h3.2]at h4
 exact h4
section
variable {G:cK}{P:Program}{ops:Array Oper}{N:Nat}{Q:Post}{t:Tm}{H:cG}{loud:Nat→Bool}{F:Nat→cG→Prop}
theorem an_junk {fuel:Nat}{listed:Array Bool}(d:Nat) (hd:Nat.blt d N=true) (h:∀v,An G P N ops loud F Q fuel listed ((d,v)::t) H):An G P N ops loud F Q fuel listed t H:=by
 refine⟨fun a ha=> ?_⟩
 have hdN:d<a.tmps.size:=by rw[ha.size];simpa using hd
 refine(h a.tmps[d]).go a ⟨ha.size,ha.defers,fun n u hn=> ?_⟩
 simp only[look]at hn
 cases hb:Nat.beq d n with
 |true=>
  rw[hb]at hn
  obtain rfl:=Nat.eq_of_beq_eq_true hb
  simp at hn
  rw[←hn]
  exact Array.getElem?_eq_getElem hdN
 |false=> rw[hb]at hn;exact ha.look n u hn
def Steps (G:cK) (P:Program) (N:Nat) (ops:Array Oper) {σ:Type}(fu:σ→Nat) (l:σ→Array Bool) (tmS:σ→Tm) (hp:σ→cG) (s:σ):Prop:=
 (∃j,readyB ops (l s) j=true)∧∀i,readyB ops (l s) i=true→∃o:Oper,ops[i]? =some o∧o.guard=none∧fH N o.dst=true∧∃R,St G P o (tmS s) (hp s) R∧
   ∀v H',R v H'→∃s',fu s=fu s'+1∧l s'=(l s).setIfInBounds i true∧Sub (tmS s') (put (tmS s) o.dst v)∧cJ H' (hp s')
theorem an_steps {σ:Type}{fu:σ→Nat}{l:σ→Array Bool}{tmS:σ→Tm}{hp:σ→cG}{s:σ}{n:Nat}(hn:fu s=n+1) (hs:Sub (tmS s) t) (hh:cJ H (hp s)) (hF:∀i,F i H)
 (h:Steps G P N ops fu l tmS hp s) (hk:∀s',fu s'=n→An G P N ops loud F Q (fu s') (l s') (tmS s') (hp s')):An G P N ops loud F Q (fu s) (l s) t H:=by
 refine⟨fun a ha=> ?_⟩
 obtain⟨⟨j,hj⟩,hall⟩:=h
 rw[hn]
 refine⟨fun i _=> hF i,fun h0=> ?_,fun i hi=> ?_⟩
 ·have h1:=readyB_iff.2 hj
  rw[h0]at h1
  cases h1
 ·obtain⟨o,ho,hg,hd,R,hst,hR⟩:=hall i (readyB_iff.1 hi)
  have hnext:∀(u:Value) (w':World) (H':cG),Sat G w' H'→R u H'→∃H',Sat G w' H'∧oI G P ops loud F (fun a H=> ∃t,Fr N t a∧Q .normal t H) n ((l s).setIfInBounds i true) (a.put o.dst u) H':=by
   intro u w' H' q1 q2
   obtain⟨s',e1,e2,e3,e4⟩:=hR u H' q2
   have e5:fu s'=n:=aa
   refine⟨hp s',e4.sat q1,?_⟩
   have h5:=(hk s' e5).go _ (((ha.sub hs).put hd u).sub e3)
   rw[e5,e2]at h5
   exact h5
  unfold OpK
  simp only[ho]
  rw[if_pos (by simp[Region.wanted,hg])]
  intro w hw
  have h1:=hst a.eval (ha.sub hs).agree w (hh.sat hw)
  generalize (execOp a.eval o).run P w=r at*
  cases r with
  |ok n w'=>
   cases n <;> simp only[lA]at h1 <;> simp only[mc]
   case value u=> obtain⟨H',q1,q2⟩:=h1;exact hnext u w' H' q1 q2
   case skip=> obtain⟨H',q1,q2⟩:=h1;exact hnext _ w' H' q1 q2
   case enter f args=>
    exact h1.mono fun e w'' he=> by
     cases e with
     |returned u=> obtain⟨H',q1,q2⟩:=he;exact hnext u _ H' q1 q2
     |_=> exact he
  |halt x w'=> simp only[lA]at h1
theorem an_inv {σ:Type}{fuel:Nat}{listed:Array Bool}(fu:σ→Nat) (l:σ→Array Bool) (tmS:σ→Tm) (hp:σ→cG) (fin:σ→Bool) (s0:σ) (h0:fin s0=false) (hfu:fu s0=fuel) (hl:l s0=listed) (hs:Sub (tmS s0) t) (hh:cJ H (hp s0)) (hF0:∀i,F i H) (hpos:∀s,fin s=false→0<fu s)
 (hF:∀s i,F i (hp s)) (step:∀s,fin s=false→Steps G P N ops fu l tmS hp s) (last:∀s,fin s=true→An G P N ops loud F Q (fu s) (l s) (tmS s) (hp s)):An G P N ops loud F Q fuel listed t H:=by
 have key:∀n s,fu s=n→An G P N ops loud F Q (fu s) (l s) (tmS s) (hp s):=by
  intro n
  induction n with
  |zero=>
   intro s hn
   cases hf:fin s with
   |true=> exact last s hf
   |false=> have:=hpos s hf;omega
  |succ n ih=>
   intro s hn
   cases hf:fin s with
   |true=> exact last s hf
   |false=> exact an_steps hn Sub.refl cJ.refl (hF s) (step s hf) ih
 subst hfu hl
 have h1:=hpos s0 h0
 exact an_steps (n:=fu s0 - 1) (aa) hs hh hF0 (step s0 h0) (fun s' _=> key _ s' rfl)
inductive ChS where
 |no (u v:Value)
 |mid (s:SV) (v:Value)
 |ok (u:Value) (s:SV)
def ChS.u:ChS→Value
 | .no u _=> u
 | .mid s _=> s.val
 | .ok u _=> u
def ChS.v:ChS→Value
 | .no _ v=> v
 | .mid _ v=> v
 | .ok _ s=> s.val
def ChS.b:ChS→Bool
 | .no .. => false
 |_=> true
def ChS.a:ChS→Bool
 | .ok .. => true
 |_=> false
def ChS.left:ChS→Nat
 | .no .. => 2
 | .mid .. => 1
 | .ok .. => 0
def ChA {α:Type}(e:Enc α) (xs:List α):ChS→Hp
 | .no .. => fun L=> L= []
 | .mid s _=> Row s e []
 | .ok _ s=> Row s e xs
inductive AlS where
 |no (v:Value)
 |ok (b:Nat)
def AlS.v:AlS→Value
 | .no v=> v
 | .ok b=> .pointer (some ⟨b,0,none⟩)
def AlS.a:AlS→Bool
 | .no _=> false
 | .ok _=> true
def AlS.left:AlS→Nat
 | .no _=> 1
 | .ok _=> 0
def AlA (l:List Value):AlS→Hp
 | .no _=> fun L=> L= []
 | .ok b=> Vr b l
theorem hs_nil {H H':cG}(h:cJ H H'):cJ H ((fun L=> L= [])::H'):=cJ.add rfl h
theorem hs_fill {A:Hp}{H:cG}:cJ (A::(fun L=> L= [])::H) (A::H):=cJ.keep (cJ.drop cJ.refl)
theorem hs_deep {A B:Hp}{H H':cG}(h:cJ (A::H) H'):cJ (A::B::H) (B::H'):=cJ.trans (cJ.perm (List.Perm.swap B A H)) (cJ.keep h)
end
open Go Go.Proofs
set_option maxRecDepth 100000
theorem tSameI {G:cK}{H:cG}{s s2:SV}{xs ys:List Int} [Sl H s eI xs] [Sl H s2 eI ys] (hn:xs.length≤1000000000000):SC G Tryz.prog 14 [s.val,s2.val] H (fun v H'=> v= .bool (decide (xs=ys))∧H'=H):=by
 refine sWk Tryz.func14 Tryz.ntmps14 ?_
 refine go ?_
 refine gk (k:=wi_ (k:=fun h1=>?_) (m:=fun h1=>?_))
 ·have hne:¬xs=ys:=by rintro rfl;have h9:=h1;omega
  refine gk (k:=rt_ Tryz.results14 (k:=?_))
  exact⟨_,hsb,by rw[Yr hne];all_goals rfl,rfl⟩
 have hl:xs.length=ys.length:=az
 refine gk (k:=dt (Nat) (fun y=> y≤xs.length∧∀j,j<y→xs[j]? =ys[j]?) (fun y=> [(13, .int .i64 ((y:Nat):Int))]) [(0,_),(1,_),(12,_)] (fun y=> []) _ (fun y=> xs.length - y) (0) (h0:=?_) (k:=?_))
 ·try dsimp only
  exact⟨Yl _,fun j h=> absurd h (Nat.not_lt_zero _)⟩
 rintro i ⟨hi,hall⟩
 try dsimp only[Yd,Ye]at*
 refine gk (k:=wi_ (k:=fun h2=>?_) (m:=fun h2=>?_))
 ·obtain⟨x,hx⟩:∃x,xs[i]? =some x:=⟨_,Yi (aa)⟩
  obtain⟨y9,hy⟩:∃x,ys[i]? =some x:=⟨_,Yi (aa)⟩
  refine go ?_
  refine cX cI (as_ 0 (q:=mv) (k:=as_ 1 (q:=mv) (k:=as_ 2 (q:=ixa) (k:=as_ 3 (q:=lel (hy:=hx)) (k:=as_ 4 (q:=mv) (k:=as_ 5 (q:=mv) (k:=as_ 6 (q:=ixa) (k:=as_ 7 (q:=lel (hy:=hy)) (k:=as_ 8 (q:=ine) (k:=az_ (k:=gk (k:=wi_ (k:=fun h3=>?_) (m:=fun h3=>?_)))))))))))))
  ·have hne:¬xs=ys:=by rintro rfl;rw[hx]at hy;cases hy;have h9:=h3;simp at h9
   refine gk (k:=rt_ Tryz.results14 (k:=?_))
   exact⟨_,hsb,by rw[Yr hne];all_goals rfl,rfl⟩
  have heq:x=y9:=cj
  refine go ?_
  refine ln_ (i+1) (k:=?_)
  try dsimp only
  refine⟨aa,fun j hj=> ?_⟩
  rcases Nat.lt_or_eq_of_le (Nat.le_of_lt_succ hj)with h|rfl
  ·exact hall j h
  ·rw[hx,hy,heq]
 obtain rfl:i=xs.length:=aa
 have heq:xs=ys:=List.ext_getElem? fun j=> by
  by_cases hj:j<xs.length
  ·exact hall j hj
  ·rw[List.getElem?_eq_none (aa),List.getElem?_eq_none (aa)]
 refine gk (k:=rt_ Tryz.results14 (k:=?_))
 exact⟨_,hsb,by rw[Ys heq];all_goals rfl,rfl⟩
inductive DpS where
 |pre (c0 c1 c2 c3:ChS) (al:AlS) (v:Value)
 |post (s0 s1 s2 s3:SV) (w:Value) (al:AlS)
def dpL (c0 c1 c2 c3:ChS) (al:AlS) (b:Bool):Array Bool:= #[true,true,c0.b,true,true,c0.a,c1.b,true,true,c1.a,c2.b,true,true,c2.a,c3.b,true,true,c3.a,b,al.a,false]
def DpS.l:DpS→Array Bool
 | .pre c0 c1 c2 c3 al _=> dpL c0 c1 c2 c3 al false
 | .post s0 s1 s2 s3 w al=> dpL (.ok w s0) (.ok w s1) (.ok w s2) (.ok w s3) al true
def DpS.fu:DpS→Nat
 | .pre c0 c1 c2 c3 al _=> c0.left+c1.left+c2.left+c3.left+al.left+2
 | .post _ _ _ _ _ al=> al.left+1
def DpS.fin:DpS→Bool
 | .post _ _ _ _ _ (.ok _)=> true
 |_=> false
def dpW (all:Bool) (s0 s1 s2 s3:SV):Value:= .agg #[s0.val,s2.val, .slice none 0 0, .bool all,s1.val,s3.val]
def DpS.tmS (all:Bool) (t0:Tm):DpS→Tm
 | .pre c0 c1 c2 c3 al v=> (3,al.v)::(24,v)::(8,c0.u)::(11,c0.v)::(12,c1.u)::(15,c1.v)::(16,c2.u)::(19,c2.v)::(20,c3.u)::(23,c3.v)::t0
 | .post s0 s1 s2 s3 _ al=> (3,al.v)::(24,dpW all s0 s1 s2 s3)::t0
def DpS.hp (p:PrG) (H0:cG):DpS→cG
 | .pre c0 c1 c2 c3 al _=> ChA eI p.avgs c0::ChA eI p.drive c1::ChA eLf p.curs c2::ChA eB p.code c3::AlA [.slice none 0 0, .slice none 0 0, .slice none 0 0, .bool false, .slice none 0 0, .slice none 0 0] al::H0
 | .post s0 s1 s2 s3 _ al=> Row s0 eI p.avgs::Row s1 eI p.drive::Row s2 eLf p.curs::Row s3 eB p.code::AlA [.slice none 0 0, .slice none 0 0, .slice none 0 0, .bool false, .slice none 0 0, .slice none 0 0] al::H0
theorem tDeep {G:cK}{H:cG}{a:PrA}{p:PrG} [hp:gE H a p] [hpc:qA H a p] (hps:HS p) (hos:∀n∈p.nears,n.offs.length≤1000000000):SC G Tryz.prog 13 [.agg (prV a p.all).toArray] H (fun v H'=> ∃(sa sc sne sd so:SV) (zs:List NrG),zs.map (·.n)=p.nears∧v= .agg [sa.val,sc.val,sne.val, .bool p.all,sd.val,so.val].toArray∧H'=Row sa eI p.avgs::Row sc eLf p.curs::Row sne eNr (zs.map nrV)::Cl nrH zs::Row sd eI p.drive::Row so eB p.code::H):=by
 have q1:=hps.a
 have q2:=hps.c
 have q3:=hps.n
 have q4:=hps.d
 have q5:=hps.k
 have hnz:=hp.nr.1
 refine sWk Tryz.func13 Tryz.ntmps13 ?_
 refine gk (k:=bxx (k:=fun b1=>?_))
 refine alc (k:=fun b2=>?_)
 refine go ?_
 refine df cI (fun i=> [2,5,6,9,10,13,14,17,19,20].contains i) (fun k H=> (k=1→cQ H b1 (prV a p.all))∧(k=4→cQ H b1 (prV a p.all))∧(k=8→cQ H b1 (prV a p.all))∧(k=12→cQ H b1 (prV a p.all))∧(k=16→cQ H b1 (prV a p.all))) (af_ 0 (q:=cD fun H hH=>fla) (k:=?_))
 refine cE 1 rfl rfl (a8) rfl (cD fun H hH=>ak) (?_)
 refine af_ 3 (q:=cD fun H hH=>fla) (k:=?_)
 refine cE 4 rfl rfl (a8) rfl (cD fun H hH=>ar) (?_)
 refine af_ 7 (q:=cD fun H hH=>fla) (k:=?_)
 refine cE 8 rfl rfl (a8) rfl (cD fun H hH=>aF) (?_)
 refine af_ 11 (q:=cD fun H hH=>fla) (k:=?_)
 refine cE 12 rfl rfl (a8) rfl (cD fun H hH=>by have hN:=hH.2.2.2.1 rfl;exact ldv) (?_)
 refine af_ 15 (q:=cD fun H hH=>fla) (k:=?_)
 refine cE 16 rfl rfl (a8) rfl (cD fun H hH=>by have hN:=hH.2.2.2.2 rfl;exact ldv) (?_)
 refine an_junk 8 rfl fun xx8=> an_junk 11 rfl fun x11=> an_junk 12 rfl fun x12=> an_junk 15 rfl fun x15=> an_junk 16 rfl fun x16=> an_junk 19 rfl fun x19=> an_junk 20 rfl fun x20=> an_junk 23 rfl fun x23=> an_junk 3 rfl fun x3=> an_junk 24 rfl fun x24=> ?_
 refine an_inv (σ:=DpS) DpS.fu DpS.l (DpS.tmS p.all [(7, .bool p.all),(10,a.av.val),(14,a.dr.val),(18,a.cu.val),(22,a.co.val),(1, .pointer (some ⟨b1,0,none⟩)),(2, .pointer (some ⟨b2,0,none⟩))]) (DpS.hp p (Vr b2 [.slice none 0 0, .slice none 0 0, .slice none 0 0, .bool false, .slice none 0 0, .slice none 0 0]::Vr b1 (prV a p.all)::H)) DpS.fin (.pre (.no xx8 x11) (.no x12 x15) (.no x16 x19) (.no x20 x23) (.no x3) x24) rfl rfl rfl (by simp only[DpS.tmS];exact sbt) (hs_nil (hs_nil (hs_nil (hs_nil (hs_nil cJ.refl))))) (fun k=> ⟨fun _=> inferInstance,fun _=> inferInstance,fun _=> inferInstance,fun _=> inferInstance,fun _=> inferInstance⟩) (fun s _=> by cases s <;> simp only[DpS.fu] <;> omega) (fun s k=> by cases s <;> exact⟨fun _=> by simp only[DpS.hp];infer_instance,fun _=> by simp only[DpS.hp];infer_instance,fun _=> by simp only[DpS.hp];infer_instance,fun _=> by simp only[DpS.hp];infer_instance,fun _=> by simp only[DpS.hp];infer_instance⟩) ?_ ?_
 ·intro s hf
  cases s with
  |pre c0 c1 c2 c3 al v=>
   refine⟨?_,?_⟩
   ·cases c0 with
    |no u w=> exact⟨2,rfl⟩
    |mid s w=> exact⟨5,rfl⟩
    |ok u s0=>
     cases c1 with
     |no u w=> exact⟨6,rfl⟩
     |mid s w=> exact⟨9,rfl⟩
     |ok u s1=>
      cases c2 with
      |no u w=> exact⟨10,rfl⟩
      |mid s w=> exact⟨13,rfl⟩
      |ok u s2=>
       cases c3 with
       |no u w=> exact⟨14,rfl⟩
       |mid s w=> exact⟨17,rfl⟩
       |ok u s3=> exact⟨18,rfl⟩
   ·intro i hi
    have hlt:i<21:=Nat.lt_of_not_le fun hge=> by
     have hq:readyB _ _ i=true:=hi
     simp only[readyB,DpS.l,dpL,Bool.and_eq_true]at hq
     have hq1:=hq.1
     rw[Array.getD_eq_getD_getElem?,Array.getElem?_eq_none (by simpa using hge)]at hq1
     cases hq1
    match i,hlt,hi with
    | 0,_,hi=> exact Bool.noConfusion (show false=true from hi)
    | 1,_,hi=> exact Bool.noConfusion (show false=true from hi)
    | 2,_,hi=>
     cases c0 with
     |no u w=>
      refine⟨_,rfl,rfl,rfl,_,iN eI rfl,?_⟩
      rintro _ _ ⟨s,rfl,rfl⟩
      exact⟨.pre (.mid s w) c1 c2 c3 al v,by simp only[DpS.fu,ChS.left];omega,rfl,by simp only[DpS.tmS];exact sbt,hs_fill⟩
     |mid s w=> exact Bool.noConfusion (show false=true from hi)
     |ok u s=> exact Bool.noConfusion (show false=true from hi)
    | 3,_,hi=> exact Bool.noConfusion (show false=true from hi)
    | 4,_,hi=> exact Bool.noConfusion (show false=true from hi)
    | 5,_,hi=>
     cases c0 with
     |no u w=> exact Bool.noConfusion (show false=true from hi)
     |mid s w=>
      refine⟨_,rfl,rfl,rfl,?_⟩
      dsimp only[DpS.tmS,DpS.hp,ChA]
      refine⟨_,eY (s:=s) (s2:=a.av) (e:=eI) (xs:= []) (ys:=p.avgs) rfl rfl rfl rfl (by simp only[Yc];omega) (by simp only[Yc];omega),?_⟩
      rintro _ _ ⟨s9,rfl,rfl⟩
      exact⟨.pre (.ok s.val s9) c1 c2 c3 al v,by simp only[DpS.fu,ChS.left];omega,rfl,by simp only[DpS.tmS];exact sbt,cJ.refl⟩
     |ok u s=> exact Bool.noConfusion (show false=true from hi)
    | 6,_,hi=>
     cases c1 with
     |no u w=>
      refine⟨_,rfl,rfl,rfl,_,iN eI rfl,?_⟩
      rintro _ _ ⟨s,rfl,rfl⟩
      exact⟨.pre c0 (.mid s w) c2 c3 al v,by simp only[DpS.fu,ChS.left];omega,rfl,by simp only[DpS.tmS];exact sbt,hs_deep (hs_fill)⟩
     |mid s w=> exact Bool.noConfusion (show false=true from hi)
     |ok u s=> exact Bool.noConfusion (show false=true from hi)
    | 7,_,hi=> exact Bool.noConfusion (show false=true from hi)
    | 8,_,hi=> exact Bool.noConfusion (show false=true from hi)
    | 9,_,hi=>
     cases c1 with
     |no u w=> exact Bool.noConfusion (show false=true from hi)
     |mid s w=>
      refine⟨_,rfl,rfl,rfl,?_⟩
      dsimp only[DpS.tmS,DpS.hp,ChA]
      refine⟨_,eY (s:=s) (s2:=a.dr) (e:=eI) (xs:= []) (ys:=p.drive) rfl rfl rfl rfl (by simp only[Yc];omega) (by simp only[Yc];omega),?_⟩
      rintro _ _ ⟨s9,rfl,rfl⟩
      exact⟨.pre c0 (.ok s.val s9) c2 c3 al v,by simp only[DpS.fu,ChS.left];omega,rfl,by simp only[DpS.tmS];exact sbt,cJ.refl⟩
     |ok u s=> exact Bool.noConfusion (show false=true from hi)
    | 10,_,hi=>
     cases c2 with
     |no u w=>
      refine⟨_,rfl,rfl,rfl,_,iN eLf rfl,?_⟩
      rintro _ _ ⟨s,rfl,rfl⟩
      exact⟨.pre c0 c1 (.mid s w) c3 al v,by simp only[DpS.fu,ChS.left];omega,rfl,by simp only[DpS.tmS];exact sbt,hs_deep (hs_deep (hs_fill))⟩
     |mid s w=> exact Bool.noConfusion (show false=true from hi)
     |ok u s=> exact Bool.noConfusion (show false=true from hi)
    | 11,_,hi=> exact Bool.noConfusion (show false=true from hi)
    | 12,_,hi=> exact Bool.noConfusion (show false=true from hi)
    | 13,_,hi=>
     cases c2 with
     |no u w=> exact Bool.noConfusion (show false=true from hi)
     |mid s w=>
      refine⟨_,rfl,rfl,rfl,?_⟩
      dsimp only[DpS.tmS,DpS.hp,ChA]
      refine⟨_,eY (s:=s) (s2:=a.cu) (e:=eLf) (xs:= []) (ys:=p.curs) rfl rfl rfl rfl (by simp only[Yc];omega) (by simp only[Yc];omega),?_⟩
      rintro _ _ ⟨s9,rfl,rfl⟩
      exact⟨.pre c0 c1 (.ok s.val s9) c3 al v,by simp only[DpS.fu,ChS.left];omega,rfl,by simp only[DpS.tmS];exact sbt,cJ.refl⟩
     |ok u s=> exact Bool.noConfusion (show false=true from hi)
    | 14,_,hi=>
     cases c3 with
     |no u w=>
      refine⟨_,rfl,rfl,rfl,_,iN eB rfl,?_⟩
      rintro _ _ ⟨s,rfl,rfl⟩
      exact⟨.pre c0 c1 c2 (.mid s w) al v,by simp only[DpS.fu,ChS.left];omega,rfl,by simp only[DpS.tmS];exact sbt,hs_deep (hs_deep (hs_deep (hs_fill)))⟩
     |mid s w=> exact Bool.noConfusion (show false=true from hi)
     |ok u s=> exact Bool.noConfusion (show false=true from hi)
    | 15,_,hi=> exact Bool.noConfusion (show false=true from hi)
    | 16,_,hi=> exact Bool.noConfusion (show false=true from hi)
    | 17,_,hi=>
     cases c3 with
     |no u w=> exact Bool.noConfusion (show false=true from hi)
     |mid s w=>
      refine⟨_,rfl,rfl,rfl,?_⟩
      dsimp only[DpS.tmS,DpS.hp,ChA]
      refine⟨_,eY (s:=s) (s2:=a.co) (e:=eB) (xs:= []) (ys:=p.code) rfl rfl rfl rfl (by simp only[Yc];omega) (by simp only[Yc];omega),?_⟩
      rintro _ _ ⟨s9,rfl,rfl⟩
      exact⟨.pre c0 c1 c2 (.ok s.val s9) al v,by simp only[DpS.fu,ChS.left];omega,rfl,by simp only[DpS.tmS];exact sbt,cJ.refl⟩
     |ok u s=> exact Bool.noConfusion (show false=true from hi)
    | 18,_,hi=>
     obtain⟨u0,s0,rfl⟩:∃u s,c0= .ok u s:=by cases c0 with|ok u s=> exact⟨_,_,rfl⟩|no u w=> exact Bool.noConfusion (show false=true from hi)|mid s w=> exact Bool.noConfusion (show false=true from hi)
     obtain⟨u1,s1,rfl⟩:∃u s,c1= .ok u s:=by cases c1 with|ok u s=> exact⟨_,_,rfl⟩|no u w=> exact Bool.noConfusion (show false=true from hi)|mid s w=> exact Bool.noConfusion (show false=true from hi)
     obtain⟨u2,s2,rfl⟩:∃u s,c2= .ok u s:=by cases c2 with|ok u s=> exact⟨_,_,rfl⟩|no u w=> exact Bool.noConfusion (show false=true from hi)|mid s w=> exact Bool.noConfusion (show false=true from hi)
     obtain⟨u3,s3,rfl⟩:∃u s,c3= .ok u s:=by cases c3 with|ok u s=> exact⟨_,_,rfl⟩|no u w=> exact Bool.noConfusion (show false=true from hi)|mid s w=> exact Bool.noConfusion (show false=true from hi)
     refine⟨_,rfl,rfl,rfl,_,Ev.st (bld [(3, .bool p.all),(0,s0.val),(4,s1.val),(1,s2.val),(5,s3.val)]),?_⟩
     rintro _ _ ⟨rfl,rfl⟩
     exact⟨.post s0 s1 s2 s3 u0 al,by simp only[DpS.fu,ChS.left];omega,rfl,by simp only[DpS.tmS];exact sbt,cJ.refl⟩
    | 19,_,hi=>
     cases al with
     |no w=>
      refine⟨_,rfl,rfl,rfl,_,nK,?_⟩
      rintro _ _ ⟨b,rfl,rfl⟩
      exact⟨.pre c0 c1 c2 c3 (.ok b) v,by simp only[DpS.fu,AlS.left],rfl,by simp only[DpS.tmS];exact sbt,hs_deep (hs_deep (hs_deep (hs_deep (hs_fill))))⟩
     |ok b=> exact Bool.noConfusion (show false=true from hi)
    | 20,_,hi=> exact Bool.noConfusion (show false=true from readyB_after 18 hi rfl)
  |post s0 s1 s2 s3 w al=>
   cases al with
   |no x=>
    refine⟨⟨19,rfl⟩,fun i hi=> ?_⟩
    have hlt:i<21:=Nat.lt_of_not_le fun hge=> by
     have hq:readyB _ _ i=true:=hi
     simp only[readyB,DpS.l,dpL,Bool.and_eq_true]at hq
     have hq1:=hq.1
     rw[Array.getD_eq_getD_getElem?,Array.getElem?_eq_none (by simpa using hge)]at hq1
     cases hq1
    match i,hlt,hi with
    | 0,_,hi=> exact Bool.noConfusion (show false=true from hi)
    | 1,_,hi=> exact Bool.noConfusion (show false=true from hi)
    | 2,_,hi=> exact Bool.noConfusion (show false=true from hi)
    | 3,_,hi=> exact Bool.noConfusion (show false=true from hi)
    | 4,_,hi=> exact Bool.noConfusion (show false=true from hi)
    | 5,_,hi=> exact Bool.noConfusion (show false=true from hi)
    | 6,_,hi=> exact Bool.noConfusion (show false=true from hi)
    | 7,_,hi=> exact Bool.noConfusion (show false=true from hi)
    | 8,_,hi=> exact Bool.noConfusion (show false=true from hi)
    | 9,_,hi=> exact Bool.noConfusion (show false=true from hi)
    | 10,_,hi=> exact Bool.noConfusion (show false=true from hi)
    | 11,_,hi=> exact Bool.noConfusion (show false=true from hi)
    | 12,_,hi=> exact Bool.noConfusion (show false=true from hi)
    | 13,_,hi=> exact Bool.noConfusion (show false=true from hi)
    | 14,_,hi=> exact Bool.noConfusion (show false=true from hi)
    | 15,_,hi=> exact Bool.noConfusion (show false=true from hi)
    | 16,_,hi=> exact Bool.noConfusion (show false=true from hi)
    | 17,_,hi=> exact Bool.noConfusion (show false=true from hi)
    | 18,_,hi=> exact Bool.noConfusion (show false=true from hi)
    | 19,_,hi=>
     refine⟨_,rfl,rfl,rfl,_,nK,?_⟩
     rintro _ _ ⟨b,rfl,rfl⟩
     exact⟨.post s0 s1 s2 s3 w (.ok b),rfl,rfl,by simp only[DpS.tmS];exact sbt,hs_deep (hs_deep (hs_deep (hs_deep (hs_fill))))⟩
    | 20,_,hi=> exact Bool.noConfusion (show false=true from hi)
   |ok b=> cases hf
 intro s hf
 obtain⟨s11,s15,s19,s23,w,b3,rfl⟩:∃s0 s1 s2 s3 w b,s=DpS.post s0 s1 s2 s3 w (.ok b):=by
  cases s with
  |pre=> cases hf
  |post s0 s1 s2 s3 w al=>
   cases al with
   |no x=> cases hf
   |ok b=> exact⟨_,_,_,_,_,_,rfl⟩
 dsimp only[DpS.fu,DpS.tmS,DpS.hp,AlS.left,AlS.v,AlA,dpW]
 show An _ _ _ _ _ _ _ 1 #[true,true,true,true,true,true,true,true,true,true,true,true,true,true,true,true,true,true,true,true,false] _ _
 refine cN 20 rfl (a8) rfl (fun k hk=> ⟨fun hi=> ab,fun hi=> absurd hk (ad),fun hi=> absurd hk (ad),fun hi=> absurd hk (ad),fun hi=> absurd hk (ad)⟩) (dM rfl rfl rfl) ?_
 rintro _ _ ⟨rfl,rfl⟩
 refine db (a8) (fun k hk=> ⟨fun hi=> absurd hk (ad),fun hi=> absurd hk (ad),fun hi=> absurd hk (ad),fun hi=> absurd hk (ad),fun hi=> absurd hk (ad)⟩) (qn_ (ws_ (ws_ (wr_ (?_)))))
 refine du (cJ.nilRow (e:=eNr) (fe (f:=nrH) cJ.refl)) ?_
 refine gk (k:=dt (Nat×SV×(List NrG)) (fun y=> y.1≤p.nears.length∧y.2.2.map (·.n)=p.nears.take y.1) (fun y=> [(28, .int .i64 ((y.1:Nat):Int))]) [(2,_),(3,_),(26,_),(27,_)] (fun y=> [Vr b3 [s11.val,s19.val,y.2.1.val, .bool p.all,s15.val,s23.val],Row y.2.1 eNr (y.2.2.map nrV),Cl nrH y.2.2]) _ (fun y=> p.nears.length - y.1) ((0,SV.nil, [])) (h0:=?_) (k:=?_))
 ·try dsimp only
  exact⟨Yl _,rfl⟩
 rintro⟨i,u,zs⟩ ⟨hi,hzs⟩
 try dsimp only[Yd,Ye]at*
 refine gk (k:=wi_ (k:=fun h1=>?_) (m:=fun h1=>?_))
 ·obtain⟨⟨z1,z2,z3⟩,n,hz,hn,hz1,hz2,hz3⟩:=hp.nr.get (i:=i) (aa)
  dsimp only at hz1 hz2 hz3
  subst hz3
  have hnm:=Yj hn
  have hns:=hps.ns n hnm
  have hno:=hos n hnm
  haveI:=hz1
  haveI:=hz2
  have hzl:(zs.map nrV).length≤1000000000:=bP
  refine wk_ (qn_ (ws_ (wb_ (ws_ (wr_ (e_ ixa (k:=e_ (jn (hy:=hz)) (k:=alc (k:=fun b5=>?_)))))))))
  refine go ?_
  refine df cI (fun i=> [4,7,8,11,13,14,16].contains i) (fun k H=> (k=1→cQ H b3 [s11.val,s19.val,u.val, .bool p.all,s15.val,s23.val])∧(k=3→cQ H b5 [z1.val,z2.val, .int .i64 n.slop])∧(k=6→cQ H b5 [z1.val,z2.val, .int .i64 n.slop])∧(k=10→cQ H b5 [z1.val,z2.val, .int .i64 n.slop])) (af_ 0 (q:=cD fun H hH=>fla) (k:=?_))
  refine cE 1 rfl rfl (a8) rfl (cD fun H hH=>ak) (?_)
  refine af_ 2 (q:=cD fun H hH=>fla) (k:=?_)
  refine cE 3 rfl rfl (a8) rfl (cD fun H hH=>ar) (?_)
  refine af_ 5 (q:=cD fun H hH=>fla) (k:=?_)
  refine cE 6 rfl rfl (a8) rfl (cD fun H hH=>aF) (?_)
  refine af_ 9 (q:=cD fun H hH=>fla) (k:=?_)
  refine cE 10 rfl rfl (a8) rfl (cD fun H hH=>by have hN:=hH.2.2.2 rfl;exact ldv) (?_)
  refine HG 4 8 rfl rfl (a8) rfl rfl (fun k hk=> ⟨fun hi=> ab,fun hi=> ab,fun hi=> ab,fun hi=> ab⟩) (iN eI rfl) (iN eI rfl) ?_ ?_
  ·rintro _ _ ⟨s36,rfl,rfl⟩
   refine HG 7 8 rfl rfl (a8) rfl rfl (fun k hk=> ⟨fun hi=> ab,fun hi=> ab,fun hi=> ab,fun hi=> ab⟩) (eY rfl rfl rfl rfl (af) (af)) (iN eI rfl) ?_ ?_
   ·rintro _ _ ⟨s39,rfl,rfl⟩
    refine cN 8 rfl (a8) rfl (fun k hk=> ⟨fun hi=> ab,fun hi=> ab,fun hi=> absurd hk (ad),fun hi=> ab⟩) (iN eI rfl) ?_
    rintro _ _ ⟨s40,rfl,rfl⟩
    refine cN 11 rfl (a8) rfl (fun k hk=> ⟨fun hi=> ab,fun hi=> ab,fun hi=> absurd hk (ad),fun hi=> ab⟩) (eY rfl rfl rfl rfl (af) (af)) ?_
    rintro _ _ ⟨s43,rfl,rfl⟩
    refine af_ 12 (q:=cD fun H hH=>bld [(2,_),(0,_),(1,_)]) (k:=?_)
    refine cN 13 rfl (a8) rfl (fun k hk=> ⟨fun hi=> ab,fun hi=> ab,fun hi=> absurd hk (ad),fun hi=> absurd hk (ad)⟩) (ew eNr rfl rfl) ?_
    rintro _ _ ⟨s45,rfl,rfl⟩
    refine cN 14 rfl (a8) rfl (fun k hk=> ⟨fun hi=> ab,fun hi=> ab,fun hi=> absurd hk (ad),fun hi=> absurd hk (ad)⟩) (eY rfl rfl rfl rfl (af) (af)) ?_
    rintro _ _ ⟨s46,rfl,rfl⟩
    refine af_ 15 (q:=cD fun H hH=>fla) (k:=?_)
    refine cN 16 rfl (a8) rfl (fun k hk=> ⟨fun hi=> absurd hk (ad),fun hi=> ab,fun hi=> absurd hk (ad),fun hi=> absurd hk (ad)⟩) (dM rfl rfl rfl) ?_
    rintro _ _ ⟨rfl,rfl⟩
    refine db (a8) (fun k hk=> ⟨fun hi=> absurd hk (ad),fun hi=> absurd hk (ad),fun hi=> absurd hk (ad),fun hi=> absurd hk (ad)⟩) (bn_ (qn_ (wr_ (?_))))
    refine du (cJ.trans (H':=Row s39 eI n.cs::Row s43 eI n.offs::Cl nrH zs::Row s46 eNr (zs.map nrV++ [nrV ⟨s39,s43,n⟩])::Vr b3 [s11.val,s19.val,s46.val, .bool p.all,s15.val,s23.val]::Row s23 eB p.code::Row s19 eLf p.curs::Row s15 eI p.drive::Row s11 eI p.avgs::Vr b2 [.slice none 0 0, .slice none 0 0, .slice none 0 0, .bool false, .slice none 0 0, .slice none 0 0]::Vr b1 (prV a p.all)::H) (hsb) (JB ⟨s39,s43,n⟩)) ?_
    refine go ?_
    refine ln_ ((i+1,s46,zs++ [⟨s39,s43,n⟩])) (k:=?_)
    try dsimp only
    exact⟨aa,by rw[List.map_append,hzs,cP hn];all_goals rfl⟩
   rintro _ _ ⟨s40,rfl,rfl⟩
   refine cN 7 rfl (a8) rfl (fun k hk=> ⟨fun hi=> ab,fun hi=> ab,fun hi=> ab,fun hi=> ab⟩) (eY rfl rfl rfl rfl (af) (af)) ?_
   rintro _ _ ⟨s39,rfl,rfl⟩
   refine cN 11 rfl (a8) rfl (fun k hk=> ⟨fun hi=> ab,fun hi=> ab,fun hi=> absurd hk (ad),fun hi=> ab⟩) (eY rfl rfl rfl rfl (af) (af)) ?_
   rintro _ _ ⟨s43,rfl,rfl⟩
   refine af_ 12 (q:=cD fun H hH=>bld [(2,_),(0,_),(1,_)]) (k:=?_)
   refine cN 13 rfl (a8) rfl (fun k hk=> ⟨fun hi=> ab,fun hi=> ab,fun hi=> absurd hk (ad),fun hi=> absurd hk (ad)⟩) (ew eNr rfl rfl) ?_
   rintro _ _ ⟨s45,rfl,rfl⟩
   refine cN 14 rfl (a8) rfl (fun k hk=> ⟨fun hi=> ab,fun hi=> ab,fun hi=> absurd hk (ad),fun hi=> absurd hk (ad)⟩) (eY rfl rfl rfl rfl (af) (af)) ?_
   rintro _ _ ⟨s46,rfl,rfl⟩
   refine af_ 15 (q:=cD fun H hH=>fla) (k:=?_)
   refine cN 16 rfl (a8) rfl (fun k hk=> ⟨fun hi=> absurd hk (ad),fun hi=> ab,fun hi=> absurd hk (ad),fun hi=> absurd hk (ad)⟩) (dM rfl rfl rfl) ?_
   rintro _ _ ⟨rfl,rfl⟩
   refine db (a8) (fun k hk=> ⟨fun hi=> absurd hk (ad),fun hi=> absurd hk (ad),fun hi=> absurd hk (ad),fun hi=> absurd hk (ad)⟩) (bn_ (qn_ (wr_ (?_))))
   refine du (cJ.trans (H':=Row s39 eI n.cs::Row s43 eI n.offs::Cl nrH zs::Row s46 eNr (zs.map nrV++ [nrV ⟨s39,s43,n⟩])::Vr b3 [s11.val,s19.val,s46.val, .bool p.all,s15.val,s23.val]::Row s23 eB p.code::Row s19 eLf p.curs::Row s15 eI p.drive::Row s11 eI p.avgs::Vr b2 [.slice none 0 0, .slice none 0 0, .slice none 0 0, .bool false, .slice none 0 0, .slice none 0 0]::Vr b1 (prV a p.all)::H) (hsb) (JB ⟨s39,s43,n⟩)) ?_
   refine go ?_
   refine ln_ ((i+1,s46,zs++ [⟨s39,s43,n⟩])) (k:=?_)
   try dsimp only
   exact⟨aa,by rw[List.map_append,hzs,cP hn];all_goals rfl⟩
  rintro _ _ ⟨s40,rfl,rfl⟩
  refine cN 4 rfl (a8) rfl (fun k hk=> ⟨fun hi=> ab,fun hi=> ab,fun hi=> ab,fun hi=> ab⟩) (iN eI rfl) ?_
  rintro _ _ ⟨s36,rfl,rfl⟩
  refine cN 7 rfl (a8) rfl (fun k hk=> ⟨fun hi=> ab,fun hi=> ab,fun hi=> ab,fun hi=> ab⟩) (eY rfl rfl rfl rfl (af) (af)) ?_
  rintro _ _ ⟨s39,rfl,rfl⟩
  refine cN 11 rfl (a8) rfl (fun k hk=> ⟨fun hi=> ab,fun hi=> ab,fun hi=> absurd hk (ad),fun hi=> ab⟩) (eY rfl rfl rfl rfl (af) (af)) ?_
  rintro _ _ ⟨s43,rfl,rfl⟩
  refine af_ 12 (q:=cD fun H hH=>bld [(2,_),(0,_),(1,_)]) (k:=?_)
  refine cN 13 rfl (a8) rfl (fun k hk=> ⟨fun hi=> ab,fun hi=> ab,fun hi=> absurd hk (ad),fun hi=> absurd hk (ad)⟩) (ew eNr rfl rfl) ?_
  rintro _ _ ⟨s45,rfl,rfl⟩
  refine cN 14 rfl (a8) rfl (fun k hk=> ⟨fun hi=> ab,fun hi=> ab,fun hi=> absurd hk (ad),fun hi=> absurd hk (ad)⟩) (eY rfl rfl rfl rfl (af) (af)) ?_
  rintro _ _ ⟨s46,rfl,rfl⟩
  refine af_ 15 (q:=cD fun H hH=>fla) (k:=?_)
  refine cN 16 rfl (a8) rfl (fun k hk=> ⟨fun hi=> absurd hk (ad),fun hi=> ab,fun hi=> absurd hk (ad),fun hi=> absurd hk (ad)⟩) (dM rfl rfl rfl) ?_
  rintro _ _ ⟨rfl,rfl⟩
  refine db (a8) (fun k hk=> ⟨fun hi=> absurd hk (ad),fun hi=> absurd hk (ad),fun hi=> absurd hk (ad),fun hi=> absurd hk (ad)⟩) (bn_ (qn_ (wr_ (?_))))
  refine du (cJ.trans (H':=Row s39 eI n.cs::Row s43 eI n.offs::Cl nrH zs::Row s46 eNr (zs.map nrV++ [nrV ⟨s39,s43,n⟩])::Vr b3 [s11.val,s19.val,s46.val, .bool p.all,s15.val,s23.val]::Row s23 eB p.code::Row s19 eLf p.curs::Row s15 eI p.drive::Row s11 eI p.avgs::Vr b2 [.slice none 0 0, .slice none 0 0, .slice none 0 0, .bool false, .slice none 0 0, .slice none 0 0]::Vr b1 (prV a p.all)::H) (hsb) (JB ⟨s39,s43,n⟩)) ?_
  refine go ?_
  refine ln_ ((i+1,s46,zs++ [⟨s39,s43,n⟩])) (k:=?_)
  try dsimp only
  exact⟨aa,by rw[List.map_append,hzs,cP hn];all_goals rfl⟩
 obtain rfl:i=p.nears.length:=aa
 rw[List.take_length]at hzs
 refine gk (k:=rt_ Tryz.results13 (k:=?_))
 exact⟨_,hsb,s11,s19,u,s15,s23,zs,hzs,rfl,rfl⟩
instance:Fld Tryz.prog 58 0 0:=cR Tryz.underlying58 rfl gI (ag)
theorem tRunE {G:cK}{H:cG}{a:PrA}{p:PrG}{pt:PtA}{q:PtD}{T:Nat}{fu:Int}{e:Nat} [hg:Glb G H] [hia:Isa H] [hp:gE H a p] [hpc:qA H a p] [hpt:dq H pt q] (hS:jS) (hC:fg) (hk:xj p q T) (hn:nv p q= .error e):SC G Tryz.prog 7 [.agg (prV a p.all).toArray, .pointer (some ⟨pt.p,0,none⟩), .int .i64 fu] H (fun v H'=> v= .tuple #[Mt,G.err e]∧H'=H):=
 (Iw hS hC hk).mono fun v H' h=> by
   rcases h with⟨e2,h1,_,h3⟩|⟨i2,h1,_⟩
   ·rw[hn]at h1;cases h1;exact h3
   ·rw[hn]at h1;cases h1
theorem near_len {p:PrG}(h:ie p=true):∀n∈p.nears,n.cs.length=n.offs.length:=fun n hn=> by
 have h1:=(qG h).2.2.2.1 n hn
 rw[gl]at h1
 simp only[Bool.and_eq_true,decide_eq_true_eq]at h1
 exact h1.1.1.2.symm
theorem nr_set {zs:List NrG}{i:Nat}(z:NrG) {H:cG}(hi:i<zs.length):cJ (Row z.s1 eI z.n.cs::Row z.s2 eI z.n.offs::Cl nrH (zs.take i)::Cl nrH (zs.drop (i+1))::H) (Cl nrH (zs.set i z)::H):=qo (f:=nrH) z hi
theorem map_set {zs:List NrG}{i:Nat}{z:NrG}:(zs.map nrV).set i (nrV z)=(zs.set i z).map nrV:=by rw[List.map_set]
theorem nr_shut {H R1 R4 R5:cG}{z1:List NrG}{i:Nat}{q1 q2 sne:SV}{c1 o1:List Int}{x:Int}(hi:i<z1.length) [h1:na H q1 eI c1 R1] [h2:na R1 q2 eI o1 (Cl nrH (z1.take i)::Cl nrH (z1.drop (i+1))::R4)] [h5:na R4 sne eNr ((z1.map nrV).set i (q1,q2,x)) R5]:
 cJ H (Row sne eNr ((z1.set i ⟨q1,q2,⟨c1,o1,x⟩⟩).map nrV)::Cl nrH (z1.set i ⟨q1,q2,⟨c1,o1,x⟩⟩)::R5):=by
 refine cJ.trans (H':=Row sne eNr ((z1.map nrV).set i (q1,q2,x))::Row q1 eI c1::Row q2 eI o1::Cl nrH (z1.take i)::Cl nrH (z1.drop (i+1))::R5) ?_ ?_
 ·refine gB h1 (cJ.trans (cJ.keep (gB h2 (cJ.keep (cJ.keep (cJ.keep (gB h5 cJ.refl)))))) (cJ.perm ?_))
  exact List.perm_middle (l₁:= [_,_,_,_])
 ·rw[List.map_set]
  exact cJ.keep (nr_set ⟨q1,q2,⟨c1,o1,x⟩⟩ hi)
theorem lawOwns {G:cK}{H:cG}{fv pv:SV}{kp:Int}{a:PrA}{p:PrG}{fs:List FV}{lp:List (SV×SV)}{ps:List ja} [hg:Glb G H] [HY G] [hia:Isa H] [Tab H 27 lg] [Tab H 25 jP] [hf:Sl H fv eF fs] [hd:Sl H pv eP lp] [hp:gE H a p] [hpc:qA H a p] [Spc H] (hT:gU G) (hS:lz) (hSI:jS) (hCI:fg) (hpi:oS H lp ps) (hco:I0 p fs ps):
 SC G Tryz.prog 4 [.agg [fv.val,pv.val, .int .i64 kp,a.av.val,a.cu.val,a.ne.val, .bool p.all,a.dr.val,a.co.val].toArray] H (fun v H'=> v= .bool true∧H'=H):=by
 haveI hnil:∀H9,Sl H9 SV.nil rb []:=fun H9=> ⟨fun L hL=> ⟨rfl,Nat.le_refl _, .inl ⟨rfl,rfl⟩⟩⟩
 refine sWk Tryz.func4 Tryz.ntmps4 ?_
 refine gk (k:=bxx (k:=fun b1=>?_))
 refine go ?_
 refine d0_ rfl (LR hT hS hSI hCI) (k:=gk (k:=wi_ (k:=fun h1=>?_) (m:=fun h1=>?_)))
 ·exact absurd h1 (an)
 refine go ?_
 refine c1_ rfl (IL hT hS (hpi.less (hsb)) hco.pl hco.sm hco.fl hco.fn) (k:=?_)
 rintro _ _ (⟨rfl,rfl⟩|⟨d,dv,xv,pt,ws,F,hfx,hdm,hdo,hpt,rfl,rfl⟩)
 ·refine gk (k:=alc (k:=fun b4=>?_))
  refine gk (k:=wi_ (k:=fun h2=>?_) (m:=fun h2=>?_))
  ·refine gk (k:=rt_ Tryz.results4 (k:=?_))
   exact⟨_,hsb,rfl,rfl⟩
  exact absurd h2 (an)
 obtain⟨T,hk⟩:=hco.pq d hdm ws hfx hdo
 haveI hpt':∀H9,dq (fB F::H9) pt ⟨fs,d.1,ws⟩:=fun H9=> hpt.less lG
 have hps:=hk.sm
 have hq1:=hps.a
 have hq2:=hps.c
 have hq3:=hps.n
 have hq4:=hps.d
 have hq5:=hps.k
 refine gk (k:=alc (k:=fun b4=>?_))
 refine gk (k:=wi_ (k:=fun h3=>?_) (m:=fun h3=>?_))
 ·exact absurd h3 (an)
 refine go ?_
 refine c1_ rfl (tDeep (a:=a) (p:=p) hk.sm hk.os) (k:=?_)
 rintro _ _ ⟨sa,sc,sne,sd,so,zs,hzs,rfl,rfl⟩
 haveI hpin:∀H9,gE (Row sa eI p.avgs::Row sc eLf p.curs::Row sne eNr (zs.map nrV)::Cl nrH zs::Row sd eI p.drive::Row so eB p.code::H9) ⟨sa,sc,sne,sd,so,zs.map nrV⟩ p:=fun H9=> ⟨inferInstance,inferInstance,inferInstance,by rw[←hzs];exact OB (zs:=zs) inferInstance,inferInstance⟩
 haveI hpco:∀H9,qA (Row so eB p.code::H9) ⟨sa,sc,sne,sd,so,zs.map nrV⟩ p:=fun H9=> ⟨inferInstance⟩
 have hzl:zs.length=p.nears.length:=by rw[←hzs,Yh]
 refine alc (k:=fun b6=>?_)
 refine go ?_
 refine c3_ rfl (Iw (a:=⟨sa,sc,sne,sd,so,zs.map nrV⟩) (p:=p) (pt:=pt) (fu:=4611686018427387904) hSI hCI hk) (k:=?_)
 rintro _ _ (⟨e,hne,he,rfl,rfl⟩|⟨ins,hnw,(⟨hlt,rfl,rfl⟩|⟨hge,sh,rfl,rfl⟩)⟩)
 ·haveI:iJ e:=⟨aa⟩
  refine gk (k:=alc (k:=fun b7=>?_))
  refine go ?_
  refine d3_ rfl (tRunE (a:=⟨sa,sc,sne,sd,so,zs.map nrV⟩) (p:=p) (pt:=pt) hSI hCI hk hne) (k:=gk (k:=alc (k:=fun b9=>?_)))
  refine go ?_
  refine d1_ rfl (Ar e) (k:=e_ mv (k:=?_))
  refine d1_ rfl (Ar e) (k:=e_ ine (k:=e_ mv (k:=dN 5 64 (k:=fun h4=>eg_ lds (k:=eg_ lds (k:=kK (vs:=[_,_]) (hc:=(By (s:=SV.nil) (s2:=SV.nil) (xs:= []) (ys:= []) (ag))) (k:=eg_ k8 (k:=e_ pkf (k:=on_ (edq))))))) (q:=e_ mv (k:=dN 9 74 (k:=fun h5=>eg_ fla (k:=eg_ ldv (k:=eg_ (eN rfl) (k:=eg_ fla (k:=eg_ fla (k:=eg_ ldv (k:=eg_ (eN rfl) (k:=eg_ Oa (k:=e_ pkf (k:=on_ (edq))))))))))) (q:=e_ mv (k:=dN 8 83 (k:=fun h6=>eg_ fla (k:=eg_ ldv (k:=eg_ fla (k:=eg_ fla (k:=eg_ ldv (k:=kK (vs:=[_,_]) (hc:=(tSameI (xs:=p.avgs) (ys:=p.avgs) (aa))) (k:=eg_ k8 (k:=e_ pkf (k:=on_ (edq)))))))))) (q:=e_ mv (k:=dN 8 92 (k:=fun h7=>eg_ fla (k:=eg_ ldv (k:=eg_ fla (k:=eg_ fla (k:=eg_ ldv (k:=kK (vs:=[_,_]) (hc:=(tSameI (xs:=p.drive) (ys:=p.drive) (aa))) (k:=eg_ k8 (k:=e_ pkf (k:=on_ (edq)))))))))) (q:=on_ (qn_ (wi_ (k:=fun h8=>?_) (m:=fun h8=>?_)))))))))))))
  ·exact absurd h8 (an)
  refine wk_ (qn_ (ws_ (ws_ (wr_ (e_ mv (k:=?_))))))
  refine e_ (cZ rfl) (k:=?_)
  refine gk (k:=ift (k:=gk (k:=rt_ Tryz.results4 (k:=?_))))
  exact⟨_,hsb,rfl,rfl⟩
 ·exact absurd hlt (by have h8:=vj hk hnw;rw[show(4611686018427387904:Int).toNat=4611686018427387904 from rfl];omega)
 have hrl:=sq (ins:=ins) hk
 have hnl:=near_len (JD hnw).1.choose_spec.2.tab
 refine gk (k:=alc (k:=fun b7=>?_))
 refine go ?_
 refine c3_ rfl (KO (a:=⟨sa,sc,sne,sd,so,zs.map nrV⟩) (p:=p) (pt:=pt) hSI hCI hk hnw hge) (k:=?_)
 rintro _ _ ⟨sh2,rfl,rfl⟩
 refine gk (k:=alc (k:=fun b9=>?_))
 refine go ?_
 refine d1_ rfl (G3) (k:=e_ mv (k:=?_))
 refine d1_ rfl (G3) (k:=e_ ine (k:=e_ mv (k:=dN 5 64 (k:=fun h9=>eg_ lds (k:=eg_ lds (k:=kK (vs:=[_,_]) (hc:=(By (xs:=(dK p ⟨fs,d.1,ws⟩ ins).1) (ys:=(dK p ⟨fs,d.1,ws⟩ ins).1) hrl)) (k:=eg_ k8 (k:=e_ pkf (k:=on_ (edq))))))) (q:=e_ mv (k:=dN 9 74 (k:=fun h10=>eg_ fla (k:=eg_ ldv (k:=eg_ (eN rfl) (k:=eg_ fla (k:=eg_ fla (k:=eg_ ldv (k:=eg_ (eN rfl) (k:=eg_ Oa (k:=e_ pkf (k:=on_ (edq))))))))))) (q:=e_ mv (k:=dN 8 83 (k:=fun h11=>eg_ fla (k:=eg_ ldv (k:=eg_ fla (k:=eg_ fla (k:=eg_ ldv (k:=kK (vs:=[_,_]) (hc:=(tSameI (xs:=p.avgs) (ys:=p.avgs) (aa))) (k:=eg_ k8 (k:=e_ pkf (k:=on_ (edq)))))))))) (q:=e_ mv (k:=dN 8 92 (k:=fun h12=>eg_ fla (k:=eg_ ldv (k:=eg_ fla (k:=eg_ fla (k:=eg_ ldv (k:=kK (vs:=[_,_]) (hc:=(tSameI (xs:=p.drive) (ys:=p.drive) (aa))) (k:=eg_ k8 (k:=e_ pkf (k:=on_ (edq)))))))))) (q:=on_ (qn_ (wi_ (k:=fun h13=>?_) (m:=fun h13=>?_)))))))))))))
 ·exact absurd h13 (an)
 refine wk_ (qn_ (ws_ (ws_ (wr_ (e_ mv (k:=?_))))))
 refine e_ (cM rfl) (k:=?_)
 refine gk (k:=eg (k:=go ?_))
 refine c2_ rfl (BB (a:=⟨sa,sc,sne,sd,so,zs.map nrV⟩) (p:=p) (pt:=pt) hk) (k:=?_)
 rintro _ _ (⟨e2,hne2,he2,rfl,rfl⟩|⟨ins2,m,a',sc2,u,bs,F2,hnw2,hbl,hmf,rfl,rfl⟩)
 ·rw[hnw]at hne2;cases hne2
 obtain rfl:ins=ins2:=by rw[hnw]at hnw2;exact Except.ok.inj hnw2
 haveI:=hmf
 obtain⟨⟨tb,hro⟩,hms0⟩:=Fw (x:=⟨a',p.all,sc2,pt,u,bs⟩) hk hnw rfl hbl
 refine e_ mv (k:=e_ exr (k:=e_ exr (k:=e_ asn (k:=e_ asn (k:=on_ (qn_ (ws_ (ws_ (wr_ (e_ mv (k:=?_)))))))))))
 refine e_ (cM rfl) (k:=?_)
 refine e_ mv (k:=eg_ mv (k:=?_))
 refine eg_ (dU rfl) (k:=?_)
 refine gk (k:=wi_ (k:=fun h14=>?_) (m:=fun h14=>?_))
 ·exact absurd h14 (an)
 refine go ?_
 refine s_ (iN rb rfl) (k:=?_)
 rintro _ _ ⟨s107,rfl,rfl⟩
 refine gk (k:=app (k:=fun s110=>?_))
 refine gk (k:=dt (Nat×(List Hit)) (fun y=> y.1≤(dK p ⟨fs,d.1,ws⟩ ins).1.length∧y.2.length=(dK p ⟨fs,d.1,ws⟩ ins).1.length) (fun y=> [(114, .int .i64 ((y.1:Nat):Int))]) [(6,_),(7,_),(9,_),(11,_),(12,_),(113,_)] (fun y=> [Row sh rb y.2]) _ (fun y=> (dK p ⟨fs,d.1,ws⟩ ins).1.length - y.1) ((0,(dK p ⟨fs,d.1,ws⟩ ins).1)) (h0:=?_) (k:=?_))
 ·try dsimp only
  exact⟨Yl _,rfl⟩
 rintro⟨i,xs⟩ ⟨hi,hxl⟩
 try dsimp only[Yd,Ye]at*
 refine gk (k:=wi_ (k:=fun h15=>?_) (m:=fun h15=>?_))
 ·refine wk_ (qn_ (ws_ (wb_ (ws_ (wr_ (e_ mv (k:=e_ asn (k:=on_ (qn_ (wr_ (e_ fla (k:=e_ ldv (k:=e_ mv (k:=?_))))))))))))))
  refine e_ (bld [(0,_)]) (k:=go ?_)
  refine s_ (dH (i:=i) (a:=((-1:Int),(0:Nat))) (hv:=⟨rfl⟩) rfl rfl (bQ) (aa)) (k:=?_)
  rintro _ _ ⟨rfl,rfl⟩
  refine go ?_
  refine ln_ ((i+1,xs.set i (-1,0))) (k:=?_)
  try dsimp only
  exact⟨aa,by rw[List.length_set,hxl]⟩
 refine we_ (qe_ (le_ (bh_ (qn_ (ws_ (wr_ (e_ fla (k:=e_ ldv (k:=e_ (bld [(0,_)]) (k:=?_))))))))))
 refine s_ (dC rb [((-2:Int),(0:Nat))] (bQ) rfl (ay)) (k:=?_)
 rintro _ _ ⟨s126,rfl,rfl⟩
 refine app (k:=fun s127=>?_)
 refine e_ asn (k:=on_ (qn_ (ws_ (ws_ (wr_ (?_))))))
 have hlast:(xs++ [((-2:Int),(0:Nat))])[xs.length]? =some (-2,0):=by rw[Yu (Nat.le_refl _),Nat.sub_self];all_goals rfl
 have hxs:(xs++ [((-2:Int),(0:Nat))]).length=xs.length+1:=by rw[Ya];all_goals rfl
 refine e_ fla (k:=e_ ldv (k:=e_ mv (k:=?_)))
 refine d2_ rfl (LI (xs:=(dK p ⟨fs,d.1,ws⟩ ins).1) (ys:=(dK p ⟨fs,d.1,ws⟩ ins).1) hrl) (k:=e_ k8 (k:=e_ mv (k:=dN 9 142 (k:=fun h16=>eg_ mv (k:=eg_ mv (k:=eg_ lnn (k:=eg_ isb (k:=eg_ (di (xs:=xs++ [((-2:Int),(0:Nat))]) rfl rfl xs.length (aa) (aa)) (k:=eg_ fle (k:=eg_ (lfl (hy:=hlast)) (k:=eg_ ine (k:=e_ pkf (k:=on_ (edq))))))))))) (q:=on_ (qn_ (wi_ (k:=fun h17=>?_) (m:=fun h17=>?_)))))))
 ·exact absurd h17 (an)
 refine gk (k:=dt (Nat×(List Nat)) (fun y=> y.1≤p.code.length∧y.2.length=p.code.length) (fun y=> [(146, .int .i64 ((y.1:Nat):Int))]) [(6,_),(11,_),(12,_),(145,_)] (fun y=> [Row so eB y.2]) _ (fun y=> p.code.length - y.1) ((0,p.code)) (h0:=?_) (k:=?_))
 ·try dsimp only
  exact⟨Yl _,rfl⟩
 rintro⟨i,cs1⟩ ⟨hi2,hcl⟩
 try dsimp only[Yd,Ye]at*
 refine gk (k:=wi_ (k:=fun h18=>?_) (m:=fun h18=>?_))
 ·refine go ?_
  refine go ?_
  refine s_ (dH (i:=i) (a:=1) rfl rfl (bQ) (aa)) (k:=?_)
  rintro _ _ ⟨rfl,rfl⟩
  refine go ?_
  refine ln_ ((i+1,cs1.set i 1)) (k:=?_)
  try dsimp only
  exact⟨aa,by rw[List.length_set,hcl]⟩
 refine go ?_
 refine gk (k:=dt (Nat×(List (Int×ByteArray))) (fun y=> y.1≤p.curs.length∧y.2.length=p.curs.length) (fun y=> [(157, .int .i64 ((y.1:Nat):Int))]) [(6,_),(11,_),(12,_),(156,_)] (fun y=> [Row sc eLf y.2]) _ (fun y=> p.curs.length - y.1) ((0,p.curs)) (h0:=?_) (k:=?_))
 ·try dsimp only
  exact⟨Yl _,rfl⟩
 rintro⟨i,ls⟩ ⟨hi4,hll⟩
 try dsimp only[Yd,Ye]at*
 refine gk (k:=wi_ (k:=fun h19=>?_) (m:=fun h19=>?_))
 ·obtain⟨l0,hl0⟩:∃l0,ls[i]? =some l0:=⟨_,Yi (aa)⟩
  refine go ?_
  refine go ?_
  refine s_ (rz (i:=i) (o:=1) rfl rfl rfl l0 hl0 (ag) (a:=(l0.1,⟨#[115,112,111,105,108,116]⟩)) rfl) (k:=?_)
  rintro _ _ ⟨rfl,rfl⟩
  refine go ?_
  refine ln_ ((i+1,ls.set i (l0.1,⟨#[115,112,111,105,108,116]⟩))) (k:=?_)
  try dsimp only
  exact⟨aa,by rw[List.length_set,hll]⟩
 refine go ?_
 refine gk (k:=dt (Nat×(List Int)) (fun y=> y.1≤p.avgs.length∧y.2.length=p.avgs.length) (fun y=> [(169, .int .i64 ((y.1:Nat):Int))]) [(6,_),(11,_),(12,_),(168,_)] (fun y=> [Row sa eI y.2]) _ (fun y=> p.avgs.length - y.1) ((0,p.avgs)) (h0:=?_) (k:=?_))
 ·try dsimp only
  exact⟨Yl _,rfl⟩
 rintro⟨i,ls⟩ ⟨hi6,hll⟩
 try dsimp only[Yd,Ye]at*
 refine gk (k:=wi_ (k:=fun h20=>?_) (m:=fun h20=>?_))
 ·refine go ?_
  refine go ?_
  refine s_ (dH (i:=i) (a:=(77:Int)) rfl rfl (bQ) (aa)) (k:=?_)
  rintro _ _ ⟨rfl,rfl⟩
  refine go ?_
  refine ln_ ((i+1,ls.set i 77)) (k:=?_)
  try dsimp only
  exact⟨aa,by rw[List.length_set,hll]⟩
 refine go ?_
 refine gk (k:=dt (Nat×(List Int)) (fun y=> y.1≤p.drive.length∧y.2.length=p.drive.length) (fun y=> [(180, .int .i64 ((y.1:Nat):Int))]) [(6,_),(11,_),(12,_),(179,_)] (fun y=> [Row sd eI y.2]) _ (fun y=> p.drive.length - y.1) ((0,p.drive)) (h0:=?_) (k:=?_))
 ·try dsimp only
  exact⟨Yl _,rfl⟩
 rintro⟨i,ls⟩ ⟨hi8,hll⟩
 try dsimp only[Yd,Ye]at*
 refine gk (k:=wi_ (k:=fun h21=>?_) (m:=fun h21=>?_))
 ·refine go ?_
  refine go ?_
  refine s_ (dH (i:=i) (a:=(0:Int)) rfl rfl (bQ) (aa)) (k:=?_)
  rintro _ _ ⟨rfl,rfl⟩
  refine go ?_
  refine ln_ ((i+1,ls.set i 0)) (k:=?_)
  try dsimp only
  exact⟨aa,by rw[List.length_set,hll]⟩
 refine go ?_
 refine gk (k:=dt (Nat×(List NrG)) (fun y=> y.1≤p.nears.length∧y.2.length=p.nears.length∧∀z∈y.2,z.n.cs.length=z.n.offs.length∧z.n.offs.length≤1000000000) (fun y=> [(191, .int .i64 ((y.1:Nat):Int))]) [(6,_),(11,_),(12,_),(190,_)] (fun y=> [Row sne eNr (y.2.map nrV),Cl nrH y.2]) _ (fun y=> p.nears.length - y.1) ((0,zs)) (h0:=?_) (k:=?_))
 ·try dsimp only
  exact⟨Yl _,hzl,fun z hz=> by have h9:z.n∈p.nears:=by{rw[←hzs];exact List.mem_map_of_mem hz};exact⟨hnl _ h9,hk.os _ h9⟩⟩
 rintro⟨i,z1⟩ ⟨hi10,hzl1,hzc⟩
 try dsimp only[Yd,Ye]at*
 refine gk (k:=wi_ (k:=fun h22=>?_) (m:=fun h22=>?_))
 ·obtain⟨⟨q1,q2,nn⟩,hz0⟩:∃z,z1[i]? =some z:=⟨_,Yi (by have h9:=h22;rw[Yh]at h9;omega)⟩
  have hz0v:(z1.map nrV)[i]? =some (q1,q2,nn.slop):=by rw[Xd,hz0];all_goals rfl
  have hzil:=(Yk.1 hz0).1
  obtain⟨hzin,hzib⟩:=hzc _ (Yj hz0)
  have hsv:(((z1.map nrV).set i (q1,q2,9)))[i]? =some (q1,q2,9):=List.getElem?_set_self (by rw[Yh];exact hzil)
  simp only at hzin hzib
  have hzl9:i<(z1.map nrV).length:=by rw[Yh];exact hzil
  have hzl8:i<((z1.map nrV).set i (q1,q2,(9:Int))).length:=by rw[List.length_set];exact hzl9
  refine wk_ (qn_ (ws_ (wb_ (ws_ (wr_ (e_ mv (k:=e_ asn (k:=on_ (qn_ (ws_ (wr_ (e_ fla (k:=e_ ldv (k:=?_))))))))))))))
  refine go ?_
  refine s_ (rz (i:=i) (o:=2) rfl rfl rfl (q1,q2,nn.slop) hz0v (ag) (a:=(q1,q2,(9:Int))) rfl) (k:=?_)
  rintro _ _ ⟨rfl,rfl⟩
  refine on_ (qn_ (ws_ (wr_ (?_))))
  refine du (cJ.rem (inferInstance:Rem _ Cl nrH z1 _) (BW hz0)) ?_
  dsimp only
  refine e_ fla (k:=e_ ldv (k:=e_ mv (k:=e_ ixa (k:=e_ fle (k:=e_ (lfl (hy:=hsv)) (k:=?_))))))
  dsimp only
  refine gk (k:=dt (Nat×(List Int)×(List Int)) (fun y=> y.1≤nn.offs.length∧y.2.1.length=nn.offs.length∧y.2.2.length=nn.offs.length) (fun y=> [(206, .int .i64 ((y.1:Nat):Int))]) [(6,_),(11,_),(12,_),(19,_),(190,_),(191,_),(205,_)] (fun y=> [Row q1 eI y.2.1,Row q2 eI y.2.2]) _ (fun y=> nn.offs.length - y.1) ((0,nn.cs,nn.offs)) (h0:=?_) (k:=?_))
  ·try dsimp only
   exact⟨Yl _,hzin,rfl⟩
  rintro⟨j,c1,o1⟩ ⟨hj,hc1,ho1⟩
  try dsimp only[Yd,Ye]at*
  refine gk (k:=wi_ (k:=fun h23=>?_) (m:=fun h23=>?_))
  ·refine wk_ (qn_ (ws_ (wb_ (ws_ (wr_ (e_ mv (k:=e_ asn (k:=on_ (qn_ (ws_ (wr_ (e_ fla (k:=e_ ldv (k:=?_))))))))))))))
   refine e_ mv (k:=e_ ixa (k:=e_ fle (k:=e_ (lfl (hy:=hsv)) (k:=e_ mv (k:=e_ ixa (k:=?_))))))
   refine s_ (dH (i:=j) (a:=(5:Int)) rfl rfl (bQ) (aa)) (k:=?_)
   rintro _ _ ⟨rfl,rfl⟩
   refine on_ (qn_ (wr_ (e_ fla (k:=e_ ldv (k:=e_ mv (k:=e_ ixa (k:=e_ fle (k:=e_ (lfl (hy:=hsv)) (k:=e_ mv (k:=e_ ixa (k:=?_)))))))))))
   refine s_ (dH (i:=j) (a:=(0:Int)) rfl rfl (bQ) (aa)) (k:=?_)
   rintro _ _ ⟨rfl,rfl⟩
   refine go ?_
   refine ln_ ((j+1,c1.set j 0,o1.set j 5)) (k:=?_)
   try dsimp only
   exact⟨aa,by rw[List.length_set,hc1],by rw[List.length_set,ho1]⟩
  refine we_ (qe_ (le_ (bh_ (bn_ (qn_ (wr_ (?_)))))))
  refine du (nr_shut (z1:=z1) (i:=i) (q1:=q1) (q2:=q2) (sne:=sne) (c1:=c1) (o1:=o1) (x:=9) hzil) ?_
  refine go ?_
  refine ln_ ((i+1,z1.set i ⟨q1,q2,⟨c1,o1,9⟩⟩)) (k:=?_)
  try dsimp only
  refine⟨aa,by rw[List.length_set,hzl1],fun z hz=> ?_⟩
  rcases List.mem_or_eq_of_mem_set hz with hz|rfl
  ·exact hzc z hz
  ·exact⟨by show c1.length=o1.length;omega,by show o1.length≤1000000000;omega⟩
 refine go ?_
 refine dt (Nat×MS×Nat) (fun y=> y.1≤(dK p ⟨fs,d.1,ws⟩ ins).1.length∧uE (cS p ⟨fs,d.1,ws⟩ ins) y.2.2 y.2.1∧jO (cS p ⟨fs,d.1,ws⟩ ins) (iQ p ⟨fs,d.1,ws⟩) y.2.1∧kS (cS p ⟨fs,d.1,ws⟩ ins) y.2.2 y.2.1=((dK p ⟨fs,d.1,ws⟩ ins).1.drop y.1,(dK p ⟨fs,d.1,ws⟩ ins).2)) (fun y=> [(229, .int .i64 ((y.1:Nat):Int))]) [(11,_),(227,_),(228,_)] (fun y=> [Ma m (⟨a',p.all,sc2,pt,u,bs⟩,y.2.1)]) _ (fun y=> (dK p ⟨fs,d.1,ws⟩ ins).1.length - y.1) ((0,lh (iQ p ⟨fs,d.1,ws⟩),(cS p ⟨fs,d.1,ws⟩ ins).ids.length+1)) (h0:=?_) (k:=?_)
 ·try dsimp only
  exact⟨Yl _,pA hms0.lo,hms0,rfl⟩
 rintro⟨i,sb,f⟩ ⟨hi14,hlf,hsb9,hall⟩
 try dsimp only[Yd,Ye]at*
 obtain⟨f9,rfl⟩:∃g,f=g+1:=⟨f - 1,by have:=hlf.one;omega⟩
 obtain⟨hsB,_⟩:=tJ hro.dr hro.few hsb9
 refine gk (k:=wi_ (k:=fun h24=>?_) (m:=fun h24=>?_))
 ·obtain⟨hh,hhe⟩:∃hh,(dK p ⟨fs,d.1,ws⟩ ins).1[i]? =some hh:=⟨_,Yi (by have h9:=h24;omega)⟩
  rw[dF hhe]at hall
  obtain⟨hn1,hn2⟩:=all_cons hall
  have hlf2:=hlf.next hro.dr hro.few hsb9 hn1
  refine wk_ (qn_ (ws_ (wb_ (ws_ (wr_ (e_ ixa (k:=e_ (jn (hy:=hhe)) (k:=alc (k:=fun b22=>?_)))))))))
  refine go ?_
  refine d1_ rfl (EW hSI hCI hro hsb9 hn1) (k:=gk (k:=alc (k:=fun b23=>?_)))
  refine sto (k:=e_ asn (k:=on_ (qn_ (ws_ (wr_ (e_ mv (k:=e_ k8 (k:=e_ mv (k:=eg_ lds (k:=eg_ lds (k:=?_)))))))))))
  refine eg_ (ph hh hh rfl rfl) (k:=?_)
  refine gk (k:=wi_ (k:=fun h25=>?_) (m:=fun h25=>?_))
  ·exact absurd h25 (an)
  refine go ?_
  refine ln_ ((i+1,(dV (cS p ⟨fs,d.1,ws⟩ ins) sb).2,f9)) (k:=?_)
  try dsimp only
  exact⟨aa,hlf2,hsB,hn2⟩
 obtain rfl:i=(dK p ⟨fs,d.1,ws⟩ ins).1.length:=by have h9:=h24;omega
 rw[List.drop_length]at hall
 have hnz:=all_nil hall
 have hz1:=congrArg Prod.fst hnz
 dsimp only at hz1
 refine go ?_
 refine d1_ rfl (EV hSI hCI hro hsb9 hz1) (k:=gk (k:=alc (k:=fun b25=>?_)))
 refine gk (k:=rt_ Tryz.results4 (k:=?_))
 exact⟨_,hsb,rfl,rfl⟩
end Go.Sx
