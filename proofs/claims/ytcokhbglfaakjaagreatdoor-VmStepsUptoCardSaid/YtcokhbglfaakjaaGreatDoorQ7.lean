import Derived.Test.YtcokhbglfaakjaaGreatDoorQ6
set_option linter.all false
set_option maxHeartbeats 0
namespace Go.Sx
open Go Go.Proofs
set_option maxRecDepth 100000
def eP:Enc (SV×SV):=⟨λp=>[p.1.val,p.2.val],2,true,λ_=>rfl,λp v h=>by simp at h;rcases h with rfl|rfl <;> rfl,ae,λh=>aK,ae⟩
instance {p:SV×SV}:kV eP p (.agg [p.1.val,p.2.val].toArray):=⟨rfl⟩
def yD (H:dD) (l:List (SV×SV)) (ps:Pcs):Prop:=l.length=ps.length∧∀(i:Nat) (p:SV×SV) (q:List Nat×List Int),l[i]? =some p→ps[i]? =some q→Sl H p.1 eB q.1∧Sl H p.2 eI q.2
def yH (F H:dD) (l:List (Nat×SV)) (bl:List (Nat×List Nat)):Prop:=l.length=bl.length∧∀(i:Nat) (p:Nat×SV) (q:Nat×List Nat),l[i]? =some p→bl[i]? =some q→p.1=q.1∧(Sl F p.2 eB q.2∨Sl H p.2 eB q.2)
theorem yH.snoc {F c H:dD}{l:List (Nat×SV)}{bl:List (Nat×List Nat)}(h:yH F H l bl) (x:Nat) (s:SV) (body:List Nat) (e:∀(s:SV) (b:List Nat),Sl F s eB b→Sl c s eB b) (hs:Sl c s eB body∨Sl H s eB body):yH c H (l++ [(x,s)]) (bl++ [(x,body)]):=by
 obtain⟨h1,h2⟩:=h;refine⟨by simp[h1],λi p q hp a=>?_⟩
 by_cases hi:i<l.length
 ·rw[Yv hi]at hp;rw[Yv a8]at a;obtain⟨h3,h4⟩:=h2 i p q hp a;exact⟨h3,h4.imp (e _ _) id⟩
 ·rw[Yu a8]at hp a;have d:i-l.length=0:=by
   have:=(Yk.1 hp).1;simp at this;omega
  rw[d]at hp;rw[←h1,d]at a;simp at hp a;subst hp;subst a;exact⟨rfl,hs⟩
theorem yH.nil {F H:dD}:yH F H [] []:=⟨rfl,λi p q h=>aK⟩
section
variable {F:dD}{bl:List (Nat×List Nat)}
theorem yD.snoc {d:dD}{l:List (SV×SV)}{ps:Pcs}(h:yD F l ps) (a b:SV) (x:List Nat) (y:List Int) (j:∀(s:SV) (b:List Nat),Sl F s eB b→Sl d s eB b) (e:∀(s:SV) (b:List Int),Sl F s eI b→Sl d s eI b) (ha:Sl d a eB x) (g:Sl d b eI y):yD d (l++ [(a,b)]) (ps++ [(x,y)]):=by
 obtain⟨h1,h2⟩:=h;refine⟨by simp[h1],λi p q hp c=>?_⟩
 by_cases hi:i<l.length
 ·rw[Yv hi]at hp;rw[Yv a8]at c;obtain⟨h3,h4⟩:=h2 i p q hp c;exact⟨j _ _ h3,e _ _ h4⟩
 ·rw[Yu a8]at hp c;have f:i-l.length=0:=by
   have:=(Yk.1 hp).1;simp at this;omega
  rw[f]at hp;rw[←h1,f]at c;simp at hp c;subst hp;subst c;exact⟨ha,g⟩
theorem yD.nil:yD F [] []:=⟨rfl,λi p q h=>aK⟩
theorem sy.ext {c:dD}{l:List (Nat×SV)}(h:sy F l bl) (d:∀(s:SV) (b:List Nat),Sl F s eB b→Sl c s eB b):sy c l bl:=⟨h.1,λi p q hp a=>⟨(h.2 i p q hp a).1,d _ _ (h.2 i p q hp a).2⟩⟩
theorem uj {q:Nat×List Nat}(h:q∈bl):q.2.length≤(fN bl).length:=Ho h
end
open Tryz
section
variable {G:dJ}{P:Program}{t:Tm}{H:dD}{dst:Option Tmp}{ty:TypeId}{pos:String}{after:Array Edge}{g:Option (Nat×Bool)}
end
theorem MJ {G:dJ}{H:dD}{s:SV}{fs:List FV} [Sl H s eF fs] (a:fs≠ []) (hn:fs.length≤1000000000):SC G prog 53 [s.val] H (λv d=>∃b:SV,v=b.val∧d=Row b eF fs::H):=by
 refine sWk func53 ?_;refine ws_ (wr_ (e_ asn (on_ (qn_ (ws_ (ws_ (wr_ (e_ mv ?_))))))));refine e_ (sH rfl a) ?_;refine gk (k:=ir_ (k:=λh1=>?_) (m:=λh1=>?_))
 ·cases h1
 refine go ?_;refine s_ (fk eF rfl) ?_;rintro _ _ ⟨s1,rfl,rfl⟩;refine go ?_;refine app (hlim:=by simp only[Yc];omega) (hlim2:=by simp only[Yc];omega) (k:=λc=>?_);refine gR ?_;rw[Ye];exact⟨_,hsb,c,rfl,rfl⟩
section
variable {G:dJ}{H:dD}{l:List ByteArray}{q:ByteArray}{s:SV}
theorem Sz [hs:Sl H s eS l] (hn:l.length≤1000000):SC G prog 335 [s.val,.string q] H (λv f=>∃k:Int,v=.int .i64 k∧(0≤k↔dC q∈l.map dC)∧f=H):=by
 refine sWk func335 ?_;refine go ?_;refine e8 Nat (λy=>y≤l.length∧∀j e,j<y→l[j]? =some e→¬dC q=dC e) (λy=>[(8,iN y)]) [(0,_),(1,_),(7,_)] (λy=>[]) _ (λy=>l.length-y) (0) (h0:=?_) (k:=?_)
 ·exact⟨Yl _,λj e hj=>absurd hj (Up _)⟩
 rintro i ⟨hi,a⟩
 try dsimp only[Yd,Ye]at*
 refine gW (λh1=>?_) λh1=>?_
 ·obtain⟨e,he⟩:=gE l i;refine wk_ (qn_ (ws_ (wb_ (ws_ (wr_ (e_ mv (e_ asn (on_ (qn_ (ws_ (wr_ (e_ mv (e_ mv ?_)))))))))))));refine gk (k:=e_ tH (on_ (qn_ (wi_ (k:=λh2=>?_) (m:=λh2=>?_)))))
  ·have hm:dC q∈l.map dC:=by rw[h2];exact Vj (Yj he)
   refine gR ?_;exact⟨_,hsb,_,rfl,⟨λ_=>hm,λ_=>a8⟩,rfl⟩
  have hno:=h2;refine go ?_;refine lN (i+1) ?_
  try dsimp only
  refine⟨a8,λj d hj b=>?_⟩
  by_cases e0:j=i
  ·subst e0;rw[he]at b;cases b;exact hno
  ·exact a j d a8 b
 refine gR ?_;refine⟨_,hsb,_,rfl,⟨λh=>by(exfalso;revert h;decide),λh=>?_⟩,rfl⟩;obtain⟨e,he,c⟩:=Xt.1 h;obtain⟨j,hj⟩:=Vh.1 he;have hjl:=(Yk.1 hj).1;exact absurd c.symm (a j e a8 hj)
theorem I5 [hs:Sl H s eS l] (hn:l.length≤1000000):SC G prog 334 [s.val,.string q] H (λv a=>v=.bool (decide (dC q∈l.map dC))∧a=H):=by
 refine sWk func334 ?_;refine go ?_;refine c2_ rfl (Sz hn) ?_;rintro _ _ ⟨k,rfl,hk,rfl⟩;refine gR ?_;exact⟨_,hsb,vb (by simp only[Xq];exact hk),rfl⟩
def jj:List ByteArray:=jA.map eG
theorem nS:jj.map dC=jA:=ax
theorem SL:SC G prog 235 [] H (λv b=>∃s:SV,v=s.val∧b=Row s eS jj::H):=by
 refine sWk func235 ?_;refine go ?_;refine s_ (ek eS jj bH rfl ax) ?_;rintro _ _ ⟨a,rfl,rfl⟩;refine gR ?_;exact⟨_,hsb,a,rfl,rfl⟩
theorem OI:SC G prog 197 [.string q] H (λv f=>v=.bool (decide (dC q∈jA))∧f=H):=by
 have hz:jj.length=42:=rfl;refine sWk func197 ?_;refine go ?_;refine c0_ rfl SL ?_;rintro _ _ ⟨s5,rfl,rfl⟩;refine gk (k:=e8 Nat (λy=>y≤jj.length∧∀j e,j<y→jj[j]? =some e→¬dC e=dC q) (λy=>[(7,iN y)]) [(0,_),(5,_),(6,_)] (λy=>[]) _ (λy=>jj.length-y) (0) (h0:=?_) (k:=?_))
 ·exact⟨Yl _,λj e hj=>absurd hj (Up _)⟩
 rintro i ⟨hi,a⟩
 try dsimp only[Yd,Ye]at*
 refine gW (λh1=>?_) λh1=>?_
 ·obtain⟨e,he⟩:=gE jj i;refine wk_ (qn_ (ws_ (wb_ (ws_ (wr_ (e_ ixa (e_ lel (e_ asn (on_ (qn_ (ws_ (wr_ (e_ mv ?_)))))))))))));refine gk (k:=e_ tH (on_ (qn_ (wi_ (k:=λh2=>?_) (m:=λh2=>?_)))))
  ·have hm:dC q∈jA:=by rw[←h2,←nS];exact Vj (Yj he)
   refine gR ?_;exact⟨_,hsb,by rw[Ys hm];rfl,rfl⟩
  have hno:=h2;refine go ?_;refine lN (i+1) ?_
  try dsimp only
  refine⟨a8,λj d hj b=>?_⟩
  by_cases e0:j=i
  ·subst e0;rw[he]at b;cases b;exact hno
  ·exact a j d a8 b
 have hm:¬dC q∈jA:=λh=>by
  rw[←nS]at h;obtain⟨e,he,c⟩:=Xt.1 h;obtain⟨j,hj⟩:=Vh.1 he;have hjl:=(Yk.1 hj).1;exact a j e a8 hj c
 refine gR ?_;exact⟨_,hsb,by rw[Yr hm];rfl,rfl⟩
end
section
variable {q:ByteArray}
instance:Str prog 389 [] []:=fg underlying389 Tw (λ_=>aa) rfl
instance:Str prog 392 [] []:=fg underlying392 Tu (λ_=>aa) rfl
inductive Stp where
 |fold
 |stop (s:SV)
 |stem
def Sq:Stp→Value
 | .fold=>.iface 389 (.agg #[])
 | .stop s=>.iface 391 (.agg #[s.val])
 | .stem=>.iface 392 (.agg #[])
def tc:Enc Stp:=⟨λp=>[Sq p],1,false,λ_=>rfl,λp v h=>by simp at h;subst h;cases p <;> rfl,ae,λ_=>rfl,ae⟩
instance {x:Stp}:kV tc x (Sq x):=⟨rfl⟩
instance:gP tc (.iface 389 (.agg [].toArray)) .fold:=⟨rfl⟩
instance:gP tc (.iface 392 (.agg [].toArray)) .stem:=⟨rfl⟩
instance {s:SV}:gP tc (.iface 391 (.agg [s.val].toArray)) (.stop s):=⟨rfl⟩
def mj:Stp→List Nat→Option (List Nat)
 | .fold,w=>some (kF w)
 | .stop _,w=>bif decide (w∈jA)then none else some w
 | .stem,w=>some (jM w)
def qD:List Stp→List Nat→Option (List Nat)
 | [],w=>some w
 |x::l,w=>match mj x w with
  |some u=>qD l u
  |none=>none
def vE (o:Option (List Nat)) (r:ByteArray) (b:Bool):Prop:=match o with
 |some u=>dC r=u∧b=true
 |none=>b=false
theorem zJ (q:ByteArray):∀x∈kF (dC q),x<256:=by
 intro x hx;rw[kF]at hx;obtain⟨i,_,rfl⟩:=Xt.1 hx;exact IG (lZ q) i
theorem Ww {G:dJ}{H:dD}(hq:q.size≤5000000):SC G prog 331 [.agg #[],.string q] H (λv a=>∃r b,v=.tuple #[.string r,.bool b]∧vE (some (kF (dC q))) r b∧a=H):=by
 refine sWk func331 ?_;refine gk (k:=bxx (k:=λb2=>?_));refine go ?_;refine d1_ rfl (Wg a8) (gR ?_);exact⟨_,hsb,_,_,rfl,⟨fD (zJ _),rfl⟩,rfl⟩
theorem Wv {G:dJ}{H:dD}(hq:q.size≤5000000):SC G prog 336 [.agg #[],.string q] H (λv c=>∃r b,v=.tuple #[.string r,.bool b]∧vE (some (jM (dC q))) r b∧c=H):=by
 refine sWk func336 ?_;refine gk (k:=bxx (k:=λb2=>?_));refine go ?_;refine c1_ rfl (W0 a8) ?_;rintro _ _ ⟨r1,rfl,a,rfl⟩;refine gR ?_;exact⟨_,hsb,_,_,rfl,⟨a,rfl⟩,rfl⟩
theorem Wu {G:dJ}{H:dD}{s:SV} [hs:Sl H s eS jj]:SC G prog 333 [.agg #[s.val],.string q] H (λv a=>∃r b,v=.tuple #[.string r,.bool b]∧vE (bif decide (dC q∈jA)then none else some (dC q)) r b∧a=H):=by
 refine sWk func333 ?_;refine gk (k:=bxx (k:=λb2=>?_));refine go ?_;refine d2_ rfl (I5 ae) (gR ?_);refine⟨_,hsb,_,_,rfl,?_,rfl⟩;rw[nS];cases h:decide (dC q∈jA) <;> simp[vE]
section
variable {G:dJ}{N:Nat}{Q:Post}{t:Tm}{H:dD}{ops:Array Oper}{dst:Option Tmp}{ty:TypeId}{pos:String}{after:Array Edge}{g:Option (Nat×Bool)}{l:List Oper}
theorem Sr {a y:Operand}{d:Array TypeId}{x:Stp}(hr:evo t a=some (Sq x)) (hx:evo t y=some (.string q)) (e:q.size≤5000000) (hs:∀s,x=.stop s→Sl H s eS jj):
 St G prog ⟨dst,.call ⟨.invoke a "concord/tokens.do", #[y],d⟩,ty,pos,after,g⟩ t H (λv h=>∃r b,v=.tuple #[.string r,.bool b]∧vE (mj x (dC q)) r b∧h=H):=by
 have c:ui t [y]=some [.string q]:=by simp[ui,hx]
 cases x with
 |fold=>exact uL (xs:= [y]) (ws:= [.agg #[],.string q]) (f:=331) hr c (λw=>aa) (Ww e)
 |stop s=>
  haveI:=hs s rfl;exact uL (xs:= [y]) (ws:= [.agg #[s.val],.string q]) (f:=333) hr c (λw=>aa) Wu
 |stem=>exact uL (xs:= [y]) (ws:= [.agg #[],.string q]) (f:=336) hr c (λw=>aa) (Wv e)
end
end
theorem SC.less {G:dJ}{P:Program}{f:FuncId}{args:List Value}{K:Value→dD→Prop}{H H':dD}(hs:dH H H') (h:SC G P f args H' K):SC G P f args H K:=h.heap λw a=>hs.sat a
section
variable {q:ByteArray}{w:List Nat}{x:Stp}{xs:List Stp}
def rY (o:Option (List Nat)) (r:ByteArray) (b:Bool):Prop:=match o with
 |some u=>dC r=u∧b=decide (u.length≤64)
 |none=>b=false
theorem ma {o:Option (List Nat)}{r:ByteArray}(h:o=some w) (a:dC r=w):rY o r (decide ((r.size:Int)≤64)):=by
 rw[h];refine⟨a,?_⟩;rw[←a,dI];apply Vm.2;omega
theorem HL {i:Nat}(h:xs[i]? =some x) (w:List Nat):qD (xs.drop i) w=match mj x w with
 |some u=>qD (xs.drop (i+1)) u
 |none=>none:=by
 have hi:=(Yk.1 h).1;have e:xs[i]=x:=(Yk.1 h).2;rw[List.drop_eq_getElem_cons hi,qD,e];all_goals(cases mj x w <;> rfl)
theorem K0 {u:List Nat}(h:mj x w=some u):u.length≤w.length+100:=by
 cases x with
 |fold=>simp only[mj,Option.some.injEq]at h;rw[←h,hU];omega
 |stop s=>
  simp only[mj]at h;cases hd:decide (w∈jA) <;> rw[hd]at h
  ·simp only[cond_false,Option.some.injEq]at h;rw[h];omega
  ·cases h
 |stem=>simp only[mj,Option.some.injEq]at h;rw[←h];exact K1 w
theorem JK {G:dJ}{H:dD}{s:SV} [hx:Sl H s tc xs] (hn:xs.length≤3) (hq:q.size≤4000000) (hs:∀s,Stp.stop s∈xs→Sl H s eS jj):SC G prog 247 [s.val,.string q] H (λv l=>∃r b,v=.tuple #[.string r,.bool b]∧rY (qD xs (dC q)) r b∧l=H):=by
 refine sWk func247 ?_;refine go ?_;refine gk (k:=e8 (Nat×ByteArray) (λy=>y.1≤xs.length∧qD xs (dC q)=qD (xs.drop y.1) (dC y.2)∧y.2.size≤q.size+100*y.1) (λy=>[(1,.string y.2),(11,iN y.1)]) [(9,_),(10,_)] (λy=>[]) _ (λy=>xs.length-y.1) ((0,q)) (h0:=?_) (k:=?_))
 ·exact⟨Yl _,rfl,Xl _⟩
 rintro⟨i,u⟩ ⟨hi,hth,hz⟩
 try dsimp only[Yd,Ye]at*
 refine gW (λh1=>?_) λh1=>?_
 ·obtain⟨x,d⟩:=gE xs i;have hd:=HL d (dC u);have h:∀s,x=.stop s→Sl H s eS jj:=λs e=>hs s (by rw[←e];exact Yj d);refine go ?_;refine s_ (Sr (x:=x) rfl rfl a8 h) ?_;rintro _ _ ⟨r,b,rfl,c,rfl⟩;have f:=dI u;refine gW (λh2=>?_) λh2=>?_
  ·obtain rfl:b=false:=by simpa using h2
   have hN:qD xs (dC q)=none:=by
    rw[hth,hd];cases a:mj x (dC u)with
    |none=>rfl
    |some w=>rw[a]at c;exact absurd c.2 ae
   refine gR ?_;refine⟨_,hsb,_,_,rfl,?_,rfl⟩;rw[hN];exact rfl
  obtain rfl:b=true:=cD;obtain⟨w,a,g⟩:∃w,mj x (dC u)=some w∧dC r=w:=by
   cases a:mj x (dC u)with
   |none=>rw[a]at c;exact absurd c (by simp[vE])
   |some w=>rw[a]at c;exact⟨w,rfl,c.1⟩
  have hz2:=K0 a;have j:=dI r;refine go ?_;refine lN ((i+1,r)) ?_
  try dsimp only
  refine⟨a8,?_,by rw[g]at j;omega⟩;rw[hth,hd,a,g]
 obtain rfl:i=xs.length:=a8;rw[Vi,qD]at hth;have f:=dI u;refine go ?_;refine gR ?_;refine⟨_,hsb,_,_,rfl,?_,rfl⟩;rw[hth];exact⟨rfl,by rw[f];congr 1;apply propext;omega⟩
def qI (p:FV) (s:SV):List Stp:=(bif p.fold then [Stp.fold]else [])++(bif p.stop then [Stp.stop s]else [])++(bif p.stem then [Stp.stem]else [])
def lx (p:FV) (w:List Nat):Option (List Nat):=
 bif p.stop&&decide ((bif p.fold then kF w else w)∈jA)then none else some (bif p.stem then jM (bif p.fold then kF w else w)else(bif p.fold then kF w else w))
theorem Ed (p:FV) (s:SV) (w:List Nat):qD (qI p s) w=lx p w:=by
 obtain⟨n,k,a,b,c⟩:=p;unfold qI lx;cases a <;> cases b <;> cases c <;> simp only[cond_true,cond_false,Ye,Ym,Yd,qD,mj,Xv,Vk]
 all_goals first
  |rfl
  |(cases decide (w∈jA) <;> rfl)
  |(cases decide (kF w∈jA) <;> rfl)
class Spc (H:dD):Prop where
 out:∀L,Sep H L→∃E fz,(26,Obj.cells ((List.range 256).map λi=>Value.int .u8 (if i=9∨i=10∨i=11∨i=12∨i=13∨i=32 then 1 else 0)).toArray E fz)∈L
instance Spc.tail {A:Hp}{H:dD} [h:Spc H]:Spc (A::H):=
 ⟨λL hL=>cx⟩
def kh (G:dJ):Prop:=∀H,Spc H→SC G prog 278 [] H (λv H'=>∃s:SV,v=s.val∧H'=Row s eS jj::H)
section
variable {G:dJ}{t:Tm}{H:dD}{dst:Option Tmp}{ty:TypeId}{pos:String}{after:Array Edge}{g:Option (Nat×Bool)}
theorem XN (v:Value) (W:World):(Instr.makeInterface 389 v).run prog W=.ok (.iface 389 v) W:=aa
theorem QY (v:Value) (W:World):(Instr.makeInterface 391 v).run prog W=.ok (.iface 391 v) W:=aa
theorem GG (v:Value) (W:World):(Instr.makeInterface 392 v).run prog W=.ok (.iface 392 v) W:=aa
theorem qa {x:Operand}{v:Value}{T:TypeId}(h:∀v W,(Instr.makeInterface T v).run prog W=.ok (.iface T v) W) (hx:evo t x=some v):Ev G prog ⟨dst,.makeInterface T x,ty,pos,after,g⟩ t H (.iface T v):=
 fun ρ hρ w _=>by
  simp only[execOp,hρ _ _ hx,Sem.run_bind,h,Result.andThen_ok,Sem.run_pure]
end
theorem NY {G:dJ}{H:dD}(p:FV) [Spc H] (j:kh G):SC G prog 246 [.agg #[.string p.name,.int .i64 p.kind,.bool p.fold,.bool p.stop,.bool p.stem]] (Row SV.nil tc []::H) (λv l=>∃c s:SV,v=c.val∧l=Row c tc (qI p s)::Row s eS (bif p.stop then jj else [])::H):=by
 obtain⟨n,k,a,b,c⟩:=p;dsimp only;refine sWk func246 ?_;refine gk (k:=bxx (k:=λb1=>?_));refine e_ asn (on_ (qn_ (ws_ (wr_ ?_))));refine e_ (asv (v:=SV.nil.val) rfl rfl) ?_;refine gW (λh1=>?_) λh1=>?_
 ·subst h1;refine wr_ (e_ mv (e_ (bld []) ?_));refine e_ (qa XN rfl) ?_;refine fS tc (k:=λs9=>?_);refine app (k:=λs10=>?_);refine gW (λh2=>?_) λh2=>?_
  ·subst h2;refine go ?_;refine c0_ rfl (j _ inferInstance) ?_;rintro _ _ ⟨d,rfl,rfl⟩;refine e_ (bld [(0,_)]) ?_;refine e_ (qa QY rfl) ?_;refine fS tc (k:=λh=>?_);refine app (k:=λg=>?_);refine gW (λh3=>?_) λh3=>?_
   ·subst h3;refine wr_ (e_ mv (e_ (bld []) ?_));refine e_ (qa GG rfl) ?_;refine fS tc (k:=λf=>?_);refine app (k:=λe=>?_);refine gR ?_
    first|exact⟨_,hsb,_,d,rfl,rfl⟩|exact⟨_,hsb,_,SV.nil,rfl,rfl⟩
   subst h3;refine gR ?_
   first|exact⟨_,hsb,_,d,rfl,rfl⟩|exact⟨_,hsb,_,SV.nil,rfl,rfl⟩
  subst h2;refine gW (λh4=>?_) λh4=>?_
  ·subst h4;refine wr_ (e_ mv (e_ (bld []) ?_));refine e_ (qa GG rfl) ?_;refine fS tc (k:=λf=>?_);refine app (k:=λe=>?_);refine gR ?_
   first|exact⟨_,hsb,_,d,rfl,rfl⟩|exact⟨_,hsb,_,SV.nil,rfl,rfl⟩
  subst h4;refine gR ?_
  first|exact⟨_,hsb,_,d,rfl,rfl⟩|exact⟨_,hsb,_,SV.nil,rfl,rfl⟩
 subst h1;refine gW (λh5=>?_) λh5=>?_
 ·subst h5;refine go ?_;refine c0_ rfl (j _ inferInstance) ?_;rintro _ _ ⟨d,rfl,rfl⟩;refine e_ (bld [(0,_)]) ?_;refine e_ (qa QY rfl) ?_;refine fS tc (k:=λh=>?_);refine app (k:=λg=>?_);refine gW (λh6=>?_) λh6=>?_
  ·subst h6;refine wr_ (e_ mv (e_ (bld []) ?_));refine e_ (qa GG rfl) ?_;refine fS tc (k:=λf=>?_);refine app (k:=λe=>?_);refine gR ?_
   first|exact⟨_,hsb,_,d,rfl,rfl⟩|exact⟨_,hsb,_,SV.nil,rfl,rfl⟩
  subst h6;refine gR ?_
  first|exact⟨_,hsb,_,d,rfl,rfl⟩|exact⟨_,hsb,_,SV.nil,rfl,rfl⟩
 subst h5;refine gW (λi=>?_) λi=>?_
 ·subst i;refine wr_ (e_ mv (e_ (bld []) ?_));refine e_ (qa GG rfl) ?_;refine fS tc (k:=λf=>?_);refine app (k:=λe=>?_);refine gR ?_
  first|exact⟨_,hsb,_,d,rfl,rfl⟩|exact⟨_,hsb,_,SV.nil,rfl,rfl⟩
 subst i;refine gR ?_
 first|exact⟨_,hsb,_,d,rfl,rfl⟩|exact⟨_,hsb,_,SV.nil,rfl,rfl⟩
theorem Sn {G:dJ}{H:dD}(p:FV) [Spc H] (a:kh G):SC G prog 246 [.agg #[.string p.name,.int .i64 p.kind,.bool p.fold,.bool p.stop,.bool p.stem]] H (λv b=>∃c s:SV,v=c.val∧b=Row c tc (qI p s)::Row s eS (bif p.stop then jj else [])::H):=
 SC.less (dH.nilRow dH.refl) (NY p a)
theorem KD {G:dJ}{H:dD}(p:FV) (hq:q.size≤4000000):SC G prog 144 [.agg #[.string p.name,.int .i64 p.kind,.bool p.fold,.bool p.stop,.bool p.stem],.string q] H (λv h=>∃r b,v=.tuple #[.string r,.bool b]∧rY (lx p (dC q)) r b∧h=H):=by
 obtain⟨n,k,a,b,c⟩:=p;have hl:=dI q;dsimp only;refine sWk func144 ?_;refine gk (k:=bxx (k:=λb2=>?_));refine e_ asn (e_ asn (on_ (qn_ (iu ByteArray (λy=>dC y=(bif a then kF (dC q)else dC q)∧y.size=q.size) (λy=>[(1,.string y)]) [1,7,8,9,10] ?_ ?_))))
 ·refine gW (λh1=>?_) λh1=>?_
  ·subst h1;refine go ?_;refine d1_ rfl (WW a8) (gk (k:=jnE _ (q:=?_)));exact⟨fD (zJ _),by rw[j9,hU,hl]⟩
  subst h1;refine gk (k:=jnE _ (q:=?_));exact⟨rfl,rfl⟩
 rintro u ⟨hub,hJz⟩
 try dsimp only[Yd,Ye]at*
 have hul:=dI u;refine gW (λh2=>?_) λh2=>?_
 ·subst h2;refine go ?_;refine d1_ rfl OI (gW (λh3=>?_) (λh3=>?_))
  ·have hN:lx ⟨n,k,a,true,c⟩ (dC q)=none:=by rw[lx,←hub];simp only[Xv];rw[Ys (show dC u∈jA from h3)];rfl
   refine gR ?_;exact⟨_,hsb,_,_,rfl,by rw[hN];exact rfl,rfl⟩
  have e:lx ⟨n,k,a,true,c⟩ (dC q)=some (bif c then jM (dC u)else dC u):=by rw[lx,←hub];simp only[Xv];rw[Yr (show ¬dC u∈jA from h3)];rfl
  refine gW (λh4=>?_) λh4=>?_
  ·subst h4;refine go ?_;refine c1_ rfl (QS a8) ?_;rintro _ _ ⟨f,rfl,d,rfl⟩;have g:=dI f;refine go ?_;refine rT (k:=?_);refine⟨_,hsb,_,_,rfl,?_,rfl⟩
   first|exact ma e d|exact ma e rfl
  subst h4;refine gR ?_;refine⟨_,hsb,_,_,rfl,?_,rfl⟩
  first|exact ma e d|exact ma e rfl
 subst h2;have e:lx ⟨n,k,a,false,c⟩ (dC q)=some (bif c then jM (dC u)else dC u):=by rw[lx,hub];rfl
 refine gW (λh5=>?_) λh5=>?_
 ·subst h5;refine go ?_;refine c1_ rfl (QS a8) ?_;rintro _ _ ⟨f,rfl,d,rfl⟩;have g:=dI f;refine go ?_;refine rT (k:=?_);refine⟨_,hsb,_,_,rfl,?_,rfl⟩
  first|exact ma e d|exact ma e rfl
 subst h5;refine gR ?_;refine⟨_,hsb,_,_,rfl,?_,rfl⟩
 first|exact ma e d|exact ma e rfl
end
section
variable {G:dJ}{P:Program}{t:Tm}{H:dD}{dst:Option Tmp}{ty:TypeId}{pos:String}{after:Array Edge}{g:Option (Nat×Bool)}
theorem PI {T U:TypeId}{x y:Operand}{i j:Int}(hx:evo t x=some (.int .i64 i)) (hy:evo t y=some (.int .i64 j)) (hp:0<j) (hl: -9223372036854775808≤i∧i≤9223372036854775807):
 Ev G P ⟨dst,.binOp .quo T x y U,ty,pos,after,g⟩ t H (.int .i64 (i.tdiv j)):=
 fun ρ hρ w _=>by
  have h0:¬(j=0):=a8;have e:IntKind.wrap .i64 (i.tdiv j)=i.tdiv j:=by
   refine kH ?_;have h1:(i.tdiv j).natAbs≤i.natAbs:=by rw[Int.natAbs_tdiv];exact Nat.div_le_self _ _
   by_cases hi:0≤i
   ·have h2:=Int.tdiv_nonneg hi (show 0≤j from a8);omega
   ·have h2:0≤(-i).tdiv j:=Int.tdiv_nonneg a8 a8;rw[Int.neg_tdiv]at h2;omega
  simp only[execOp,hρ _ _ hx,hρ _ _ hy,eqGuard,binOp,Op.intDiv];simp only[Sem.run_bind,Sem.run_pure,ne_eq,not_true_eq_false,↓reduceIte,h0,e];rfl
end
def j4:List Nat→Int→Option Int
 | [],v=>some v
 |d::l,v=>bif decide (48≤d)&&decide (d≤57)&&!decide (10*v-((d-48:Nat):Int)< -9223372036854775808)then j4 l (10*v-((d-48:Nat):Int))else none
def iI (w:List Nat):Option Int:=
 bif decide ((bif lz w [45]then w.drop 1 else w)= [])then none else
  match j4 (bif lz w [45]then w.drop 1 else w) 0 with
  |none=>none
  |some v=>bif lz w [45]then some v else bif decide (v= -9223372036854775808)then none else some (-v)
def Nd (o:Option Int) (v:Value):Prop:=match o with
 |some n=>v=.tuple #[.int .i64 n,.bool true]∧ -9223372036854775808≤n∧n≤9223372036854775807
 |none=>v=.tuple #[.int .i64 0,.bool false]
theorem vS {w:List Nat}{i:Nat}(hi:i<w.length) (v:Int):j4 (w.drop i) v=bif decide (48≤at0 w i)&&decide (at0 w i≤57)&&!decide (10*v-((at0 w i-48:Nat):Int)< -9223372036854775808)then j4 (w.drop (i+1)) (10*v-((at0 w i-48:Nat):Int))else none:=by
 rw[List.drop_eq_getElem_cons hi,j4];have e:w[i]=at0 w i:=by
  have:=uz hi;rw[Yi hi]at this;exact Xk this
 rw[e]
theorem Jz {v:Int}{d:Nat}(hv:v≤0) (hl: -9223372036854775808≤v) (hd:48≤d∧d≤57):v<((-9223372036854775808:Int)+((d-48:Nat):Int)).tdiv 10↔10*v-((d-48:Nat):Int)< -9223372036854775808:=by
 have e:((-9223372036854775808:Int)+((d-48:Nat):Int)).tdiv 10= -((9223372036854775808-((d-48:Nat):Int))/10):=by
  rw[show(-9223372036854775808:Int)+((d-48:Nat):Int)= -(9223372036854775808-((d-48:Nat):Int))from a8,Int.neg_tdiv,Int.tdiv_eq_ediv_of_nonneg a8]
 rw[e];omega
theorem Dv (q:ByteArray) (e:ByteArray) (he:dC e= [45]):dC (tf q e)=bif lz (dC q) [45]then(dC q).drop 1 else dC q:=by
 have a:e.size=1:=by have:=dI e;rw[he]at this;exact this.symm
 rw[tf,he,a];cases lz (dC q) [45]with
 |false=>rfl
 |true=>
  simp only[cond_true];rw[iV,←dI,Xn]
theorem RJ {G:dJ}{H:dD}{q:ByteArray}(hq:q.size≤1000000000):SC G prog 209 [.string q] H (λv t=>Nd (iI (dC q)) v∧t=H):=by
 obtain⟨u,r⟩:=ex (tf q ⟨#[45]⟩);have hub:dC u=bif lz (dC q) [45]then(dC q).drop 1 else dC q:=by rw[r];exact Dv q _ rfl
 have d:=dI u;have huz:u.size≤q.size:=by
  have hl:=dI q;rw[←d,hub];cases lz (dC q) [45] <;> simp only[cond_true,cond_false,Yo] <;> omega
 have b:iI (dC q)=bif decide (dC u= [])then none else match j4 (dC u) 0 with
  |none=>none
  |some v=>bif lz (dC q) [45]then some v else bif decide (v= -9223372036854775808)then none else some (-v):=by
  rw[iI,←hub];all_goals(cases j4 (dC u) 0 <;> rfl)
 refine sWk func209 ?_;refine go ?_;refine d2_ rfl (IX a8 ae) ?_;rw[←r];refine gk (k:=e_ tH (go ?_));refine wi_ (k:=λh1=>?_) (m:=λh1=>?_)
 ·have hN:iI (dC q)=none:=by rw[b,Ys (show dC u= []from h1)];rfl
  refine gR ?_;refine⟨_,hsb,?_,rfl⟩;rw[hN];exact rfl
 rw[Yr (show ¬dC u= []from h1)]at b;simp only[cond_false]at b;refine go ?_;refine gk (k:=e8 (Nat×Int) (λy=>y.1≤u.size∧j4 (dC u) 0=j4 ((dC u).drop y.1) y.2∧ -9223372036854775808≤y.2∧y.2≤0) (λy=>[(6,.int .i64 y.2),(18,iN y.1)]) [(4,_),(5,_),(17,_)] (λy=>[]) _ (λy=>u.size-y.1) ((0,0)) (h0:=?_) (k:=?_))
 ·exact⟨Yl _,rfl,ae,ae⟩
 rintro⟨i,a⟩ ⟨hi,hth,f,n⟩
 try dsimp only[Yd,Ye]at*
 refine gW (λh2=>?_) λh2=>?_
 ·have hd:=vS (w:=dC u) (i:=i) a8 a;refine go ?_;refine gk (k:=ep 5 30 (k:=λh3=>gk (k:=edq)) (q:=gW (λh4=>?_) (λh4=>?_)))
  ·have hN:iI (dC q)=none:=by
    rw[b,hth,hd,show(decide (48≤at0 (dC u) i)&&decide (at0 (dC u) i≤57))=false by simp only[Ua,Xy];omega];rfl
   refine gR ?_;refine⟨_,hsb,?_,rfl⟩;rw[hN];exact rfl
  have c:48≤at0 (dC u) i∧at0 (dC u) i≤57:=a8;have e:=Jz n f c;refine wk_ (qn_ (ws_ (wr_ (e_ mv (e_ mv (e_ ixs ?_))))));refine e_ (Bb 256 rfl rfl rfl rfl _ 48 rfl rfl a8 a8) ?_;refine e_ (ew rfl a8) ?_;refine e_ asn (on_ (qn_ (ws_ (ws_ (wr_ (e_ mv (e_ mv (e_ iad ?_))))))));refine e_ (PI rfl rfl ae a8) ?_;refine gW (λh5=>?_) λh5=>?_
  ·have hN:iI (dC q)=none:=by
    rw[b,hth,hd,Ys (e.1 a8)];simp
   refine gR ?_;refine⟨_,hsb,?_,rfl⟩;rw[hN];exact rfl
  have g:¬(10*a-((at0 (dC u) i-48:Nat):Int)< -9223372036854775808):=λh=>by have h2:=e.2 h;omega
  have l:j4 ((dC u).drop i) a=j4 ((dC u).drop (i+1)) (10*a-((at0 (dC u) i-48:Nat):Int)):=by
   rw[hd,Ys c.1,Ys c.2,Yr g];rfl
  refine go ?_;refine lN ((i+1,10*a-((at0 (dC u) i-48:Nat):Int))) ?_
  try dsimp only
  exact⟨a8,by rw[hth,l],a8,a8⟩
 have s:j4 (dC u) 0=some a:=by
  obtain rfl:i=u.size:=a8;rw[hth,←d,Vi];rfl
 rw[s]at b;simp only at b;refine gW (λh6=>?_) λh6=>?_
 ·rw[show lz (dC q) [45]=true from h6]at b;refine gR ?_;refine⟨_,hsb,?_,rfl⟩;rw[b];exact⟨rfl,f,a8⟩
 rw[show lz (dC q) [45]=false from h6]at b;simp only[cond_false]at b;refine gW (λp=>?_) λp=>?_
 ·rw[Ys (show a= -9223372036854775808 from p)]at b;refine gR ?_;refine⟨_,hsb,?_,rfl⟩;rw[b];exact rfl
 have j:=p;rw[Yr (show ¬a= -9223372036854775808 from j)]at b;refine wk_ (qn_ (ws_ (wr_ (e_ mv ?_))));refine e_ (Mq rfl a8) ?_;refine gR ?_;refine⟨_,hsb,?_,rfl⟩;rw[b];exact⟨rfl,a8,a8⟩
theorem YS (w:List Nat):lz w [45]=true↔0<w.length∧at0 w 0=45:=by
 cases w with
 |nil=>simp[lz]
 |cons a l=>simp[lz,at0]
theorem SM {G:dJ}{H:dD}{q:ByteArray}(hq:q.size≤1000000000):SC G prog 146 [.string q] H (λv F=>Nd (iI (dC q)) v∧F=H):=by
 have hl:=dI q;have p:=YS (dC q);obtain⟨u,l⟩:=ex (bif lz (dC q) [45]then q.extract 1 q.size else q);have hub:dC u=bif lz (dC q) [45]then(dC q).drop 1 else dC q:=by
  rw[l];cases lz (dC q) [45]with
  |false=>rfl
  |true=>simp only[cond_true];rw[iV,←hl,Xn]
 have c:=dI u;have huz:u.size≤q.size:=by
  rw[←c,hub];cases lz (dC q) [45] <;> simp only[cond_true,cond_false,Yo] <;> omega
 have b:iI (dC q)=bif decide (dC u= [])then none else match j4 (dC u) 0 with
  |none=>none
  |some v=>bif lz (dC q) [45]then some v else bif decide (v= -9223372036854775808)then none else some (-v):=by
  rw[iI,←hub];all_goals(cases j4 (dC u) 0 <;> rfl)
 refine sWk func146 ?_;refine gk (k:=dV 4 18 (k:=λh1=>gk (k:=edq)) (q:=?_));refine e_ (asv (v:=.bool (lz (dC q) [45])) rfl (vb (by rw[p];simp only[Xu,Xq];omega))) ?_;refine on_ (qn_ (ws_ (wr_ (e_ mv (e_ asn (on_ (qn_ (ld [(5,.string u)] [5,20,21,22] ?_ ?_))))))))
 ·refine gW (λh2=>?_) λh2=>?_
  ·rw[show lz (dC q) [45]=true from h2]at l;obtain rfl:u=q.extract 1 q.size:=l;have hq0:=p.1 h2;refine wr_ (e_ mv (e_ (I0 (a:=1)) (gk (k:=jne))))
  rw[show lz (dC q) [45]=false from h2]at l;obtain rfl:u=q:=l;refine gk (k:=jne)
 refine gW (λh3=>?_) λh3=>?_
 ·have hN:iI (dC q)=none:=by rw[b,Ys (show dC u= []from Uc a8)];rfl
  refine gR ?_;refine⟨_,hsb,?_,rfl⟩;rw[hN];exact rfl
 rw[Yr (show ¬dC u= []from λh=>by rw[h]at c;simp at c;omega)]at b;simp only[cond_false]at b;refine go ?_;refine gk (k:=e8 (Nat×Int×Bool) (λy=>y.1≤u.size∧(y.2.2=true→j4 (dC u) 0=j4 ((dC u).drop y.1) y.2.1)∧(y.2.2=false→j4 (dC u) 0=none)∧ -9223372036854775808≤y.2.1∧y.2.1≤0) (λy=>[(6,.int .i64 y.2.1),(7,.bool y.2.2),(8,iN y.1)]) [(4,_),(5,_)] (λy=>[]) _ (λy=>u.size-y.1) ((0,0,true)) (h0:=?_) (k:=?_))
 ·exact⟨Yl _,λ_=>rfl,λh=>(bx),ae,ae⟩
 rintro⟨i,a,f⟩ ⟨hi,hth,hno,A,z⟩
 try dsimp only[Yd,Ye]at*
 refine gW (λh4=>?_) λh4=>?_
 ·have hd:=vS (w:=dC u) (i:=i) a8 a;refine go ?_;refine gk (k:=ep 3 40 (k:=λh5=>gk (k:=edq)) (q:=gW (λh6=>?_) (λh6=>?_)))
  ·have hN:iI (dC q)=none:=by
    cases f with
    |false=>rw[b,hno rfl]
    |true=>rw[b,hth rfl,hd,show(decide (48≤at0 (dC u) i)&&decide (at0 (dC u) i≤57))=false by simp only[Ua,Xy];omega];rfl
   refine gR ?_;refine⟨_,hsb,?_,rfl⟩;rw[hN];exact rfl
  have n:48≤at0 (dC u) i∧at0 (dC u) i≤57:=a8;refine wk_ (qn_ (ws_ (wr_ (e_ mv ?_))));refine e_ (Bb 256 rfl rfl rfl rfl _ 48 rfl rfl a8 a8) ?_;refine e_ (ew rfl a8) ?_;refine gk (k:=ep 3 49 (k:=λh7=>gk (k:=edq)) (q:=gk (k:=ep 6 56 (k:=λh8=>gk (k:=edq)) (q:=go ?_))));refine wi_ (k:=λh9=>?_) (m:=λh9=>?_)
  ·have g:=h9;have s:j4 (dC u) 0=none:=by
    cases f with
    |false=>exact hno rfl
    |true=>
     have h3:10*a-((at0 (dC u) i-48:Nat):Int)< -9223372036854775808:=by
      simp at g;omega
     rw[hth rfl,hd,Ys h3];simp
   refine go ?_;refine lN ((i+1,a,false)) ?_
   exact⟨a8,λh=>(bx),λ_=>s,A,z⟩
  obtain⟨⟨g,hz1⟩,hz2⟩:=h9;have r:¬(10*a-((at0 (dC u) i-48:Nat):Int)< -9223372036854775808):=a8;have x:j4 ((dC u).drop i) a=j4 ((dC u).drop (i+1)) (10*a-((at0 (dC u) i-48:Nat):Int)):=by
   rw[hd,Ys n.1,Ys n.2,Yr r];rfl
  have hf2:f=true:=by simpa using g
  refine go ?_;refine lN ((i+1,10*a-((at0 (dC u) i-48:Nat):Int),f)) ?_
  try dsimp only
  exact⟨a8,λh=>by rw[hth h,x],hno,a8,a8⟩
 have B:f=true→j4 (dC u) 0=some a:=λg=>by
  obtain rfl:i=u.size:=a8;rw[hth g,←c,Vi];rfl
 refine gk (k:=ep 7 70 (k:=λh10=>gk (k:=dV 3 69 (k:=λh11=>gk (k:=edq)) (q:=gk (k:=edq)))) (q:=go ?_));refine wi_ (k:=λh12=>?_) (m:=λh12=>?_)
 ·have hbad:=h12;have hN:iI (dC q)=none:=by
   cases f with
   |false=>rw[b,hno rfl]
   |true=>
    rw[b,B rfl];simp at hbad;obtain⟨E,C⟩:=hbad;simp only[E,cond_false];rw[Ys (show a= -9223372036854775808 from C)];rfl
  refine gR ?_;refine⟨_,hsb,?_,rfl⟩;rw[hN];exact rfl
 have e:=h12;obtain⟨g,hg2⟩:=e;rw[B g]at b;dsimp only at b;refine gW (λj=>?_) λj=>?_
 ·have hm:=j;have d:lz (dC q) [45]=false:=by simpa using hm
  have t:¬a= -9223372036854775808:=hg2.resolve_left (by rw[d];decide);rw[d,Yr t]at b;refine wr_ (e_ mv ?_);refine e_ (Mq rfl a8) ?_;refine gR ?_;exact⟨_,hsb,by rw[b];exact⟨rfl,a8,a8⟩,rfl⟩
 have hm:=j;have d:lz (dC q) [45]=true:=by simpa using hm
 rw[d]at b;refine gR ?_;exact⟨_,hsb,by rw[b];exact⟨rfl,a8,a8⟩,rfl⟩
section
variable {i:Nat}{v:Int}{x:Operand}
section
variable {G:dJ}{P:Program}{t:Tm}{H:dD}{dst:Option Tmp}{ty:TypeId}{pos:String}{after:Array Edge}{g:Option (Nat×Bool)}
theorem D6 {T E:TypeId}{b n a c:Nat}{z:Value}(hx:evo t x=some (pA b)) [hT:Und P T (.array n E)] [hE:Inf P E a c z] (hn:0<n):
 Ev G P ⟨dst,.slice T x none none none,ty,pos,after,g⟩ t H (SV.mk (some ⟨b,0,none⟩) n n).val:=
 fun ρ hρ w _=>by
  have h0:¬(n=0):=a8;simp[execOp,hρ _ _ hx,Instr.sliceAt,ef (T:=T),Instr.sureAddr,fy (T:=E) (s:=a),Instr.sliceBounds,jT,SV.val]
theorem UP {b:Nat}{l:List Value}{α:Type}{e:Enc α}{xs:List α}{n:Nat} [h:dQ H b l] (hl:l=e.all xs) (hn:n=xs.length):Sl H ⟨some ⟨b,0,none⟩,n,n⟩ e xs:=
 ⟨λL hL=>by
  obtain⟨E,fz,hm⟩:=h.mem L hL;refine⟨hn,Xl _,.inr ⟨b,0,l.toArray,E,fz,rfl,hm,?_,?_⟩⟩
  ·rw[hl];simp only[List.size_toArray,e.all_length];rw[hn];omega
  ·intro j v hv;rw[Vw,hl];simpa using hv⟩
def BM (v:Int):Nat:=(v%18446744073709551616).toNat
theorem Dd {S D:TypeId}{ds:TypeDesc}{i:Int} [hs:Und P S ds] [hd:Und P D (.int .u64)] (hx:evo t x=some (.int .i64 i)):
 Ev G P ⟨dst,.convert S D x,ty,pos,after,g⟩ t H (uN (BM i)):=
 fun ρ hρ w _=>by
  have e:(underlying S).run P w=.ok ds w:=by simp[underlying,hs.out]
  have b:(underlying D).run P w=.ok (.int .u64) w:=by simp[underlying,hd.out]
  have a:IntKind.wrap .u64 i=((BM i:Nat):Int):=by
   have h1:0≤i%18446744073709551616:=Int.emod_nonneg _ ae;rw[BM,Int.toNat_of_nonneg h1];rfl
  simp only[execOp,convert,hρ _ _ hx,Sem.run_bind,e,b,Result.andThen_ok];cases ds <;> simp[Conv.intToInt,a]
end
theorem US {x:Nat}(h:x<18446744073709551616):x ^^^ 9223372036854775808=(x+9223372036854775808)%18446744073709551616:=by
 have a:∀y:Nat,y<9223372036854775808→y ^^^ 9223372036854775808=y+9223372036854775808:=by
  intro y hy;have h1:2^63*1+y=2^63*1 |||y:=Nat.two_pow_add_eq_or_of_lt (i:=63) hy 1;have h2:y ^^^ 9223372036854775808=2^63*1 |||y:=by
   apply Nat.eq_of_testBit_eq;intro i;rw[Nat.testBit_xor,Nat.testBit_or,show(9223372036854775808:Nat)=2^63 from rfl,U5,Nat.testBit_two_pow]
   by_cases hi:63=i
   ·subst hi;rw[Nat.testBit_lt_two_pow hy];rfl
   ·rw[Yr hi];simp
  rw[h2,←h1];omega
 by_cases hx:x<9223372036854775808
 ·rw[a x hx];omega
 ·have h1:=a (x-9223372036854775808) a8;have h2:x=(x-9223372036854775808) ^^^ 9223372036854775808:=by rw[h1];omega
  have h3:x ^^^ 9223372036854775808=x-9223372036854775808:=by
   conv=>lhs;rw[h2]
   rw[Q9,Nat.xor_self,Nat.xor_zero]
  rw[h3];omega
theorem Ru (v:Int):BM v<18446744073709551616:=by
 have h1:0≤v%18446744073709551616:=Int.emod_nonneg _ ae;have h2:v%18446744073709551616<18446744073709551616:=Int.emod_lt_of_pos _ ae;rw[BM];omega
def xI (v:Int):Nat:=(BM v+9223372036854775808)%18446744073709551616
def CL (v:Int) (i:Nat):Nat:=xI v/2^(56-8*i)%256
def kZ (v:Int):List Nat:=(List.range 8).map (CL v)
def uY (v:Int) (i:Nat):List Nat:=(kZ v).take i++List.replicate (8-i) 0
theorem oH (v:Int):(kZ v).length=8:=by simp[kZ]
theorem Lc (v:Int) (h:i≤8):(uY v i).length=8:=by simp[uY,oH];omega
theorem La (v:Int) (h:i<8):(kZ v)[i]? =some (CL v i):=by
 rw[kZ,Xd,Ur h];rfl
theorem zq (v:Int) (h:i<8):(kZ v).take (i+1)=(kZ v).take i++ [CL v i]:=by
 rw[Um,La v h];rfl
theorem Lb (v:Int) (h:i<8):(uY v i).set i (CL v i)=uY v (i+1):=by
 have hl:((kZ v).take i).length=i:=by rw[Yg,oH];omega
 rw[uY,List.set_append,if_neg cP,hl,Ui,show 8-i=(8-(i+1))+1 from a8,V6,List.set_cons_zero,uY,zq v h,Yf];rfl
theorem GC (v:Int):∀x∈kZ v,x<256:=by
 intro x hx;obtain⟨i,_,rfl⟩:=Xt.1 hx;exact V2 _ ae
def u8s (l:List Nat):List Value:=l.map fun(n:Nat)=>Value.int .u8 (n:Int)
theorem Nv (l:List Nat):u8s l=eB.all l:=by
 rw[Fw,u8s,Uo];rfl
theorem Spl.at_ {l:List Nat}{x:Nat}(h:i<l.length):Spl (u8s l) (0+i*1) [.int .u8 (x:Int)] (u8s (l.set i x)):=
 rW (by simp[u8s];omega) (by
  rw[Vw,U5,u8s,u8s,R9,U6,if_pos bA];simp)
theorem Ik (v:Int):u8s (uY v 0)= [.int .u8 0,.int .u8 0,.int .u8 0,.int .u8 0,.int .u8 0,.int .u8 0,.int .u8 0,.int .u8 0]:=by
 rw[uY,List.take_zero,Ye];rfl
theorem VZ {G:dJ}{H:dD}(hv: -9223372036854775808≤v∧v≤9223372036854775807):SC G prog 248 [.int .i64 v] H (λu d=>u=.string (eG (kZ v))∧d=H):=by
 have a:=Ru v;have hx:=US a;refine sWk func248 ?_;refine ws_ (wr_ (e_ asn (on_ (qn_ (ws_ (wr_ (e_ mv ?_)))))));refine e_ (Dd rfl) ?_;refine e_ (q9 18446744073709551616 rfl rfl rfl rfl (BM v) 9223372036854775808 rfl rfl a ae) ?_;refine e_ (asv (v:=uN (xI v)) rfl (by rw[hx];rfl)) ?_;refine gk (k:=alc (k:=λc=>?_));rw[←Ik v];refine gk (k:=e8 Nat (λy=>y≤8) (λy=>[(9,iN y)]) [(3,_),(4,_)] (λy=>[Vr c (u8s (uY v y))]) _ (λy=>8-y) (0) (h0:=?_) (k:=?_))
 ·exact Yl _
 rintro i hi
 try dsimp only[Yd,Ye]at*
 refine gW (λh1=>?_) λh1=>?_
 ·have b:i<8:=by omega
  haveI hSp:Spl (u8s (uY v i)) (0+i*1) [.int .u8 ((CL v i:Nat):Int)] (u8s ((uY v i).set i (CL v i))):=Spl.at_ (by rw[Lc v a8];exact b);refine wk_ (qn_ (ws_ (wb_ (ws_ (wr_ (e_ mv (e_ asn (on_ (qn_ (wr_ (e_ mv (e_ mv (e_ mv ?_)))))))))))));refine e_ iml (e_ isb ?_);refine e_ (hX rfl rfl (xI v) (56-8*i) rfl a8 (by show _≤64;omega)) ?_;refine e_ (ez 256 rfl rfl rfl (xI v/2^(56-8*i)) rfl) ?_;refine e_ (gI rfl rfl _ rfl a8) ?_;refine s_ (ej (v:=.int .u8 ((CL v i:Nat):Int)) rfl rfl rfl) ?_;rintro _ _ ⟨rfl,rfl⟩;rw[Lb v b];refine go ?_;refine lN (i+1) ?_
  try dsimp only
  omega
 obtain rfl:i=8:=a8;have h8:uY v 8=kZ v:=by rw[uY,Xr (by rw[oH];omega)];simp
 rw[h8];haveI hSl:Sl (Vr c (u8s (kZ v))::H) ⟨some ⟨c,0,none⟩,8,8⟩ eB (kZ v):=UP (Nv _) (by rw[oH]);refine we_ (qe_ (le_ (bh_ (qn_ (ws_ (wr_ ?_))))));refine e_ (D6 rfl ae) ?_;refine e_ (fx rfl) ?_;exact gZ
theorem WM {G:dJ}{H:dD}(hv: -9223372036854775808≤v∧v≤9223372036854775807):SC G prog 147 [.int .i64 v] H (λu d=>u=.string (eG (kZ v))∧d=H):=by
 refine sWk func147 ?_;refine ws_ (wr_ (e_ asn (on_ (qn_ (ws_ (wr_ (e_ mv ?_)))))));refine e_ (Dd rfl) ?_;refine e_ (lk 18446744073709551616 rfl rfl rfl rfl (BM v) 9223372036854775808 rfl rfl) ?_;refine e_ (asv (v:=uN (xI v)) rfl rfl) (go ?_);refine s_ (fk eB rfl) ?_;rintro _ _ ⟨c,rfl,rfl⟩;refine gk (k:=e8 (SV×Nat) (λy=>y.2≤8) (λy=>[(4,y.1.val),(5,iN y.2)]) [(3,_)] (λy=>[Row y.1 eB ((kZ v).take y.2)]) _ (λy=>8-y.2) ((c,0)) (h0:=?_) (k:=?_))
 ·exact Yl _
 rintro⟨s,i⟩ hi
 try dsimp only[Yd,Ye]at*
 refine gW (λh1=>?_) λh1=>?_
 ·have b:i<8:=by omega
  have hlen:((kZ v).take i).length≤8:=az;refine wk_ (qn_ (ws_ (wb_ (wr_ (e_ mv (e_ mv (e_ mv (e_ iml (e_ isb ?_)))))))));refine e_ (hX rfl rfl (xI v) (56-8*i) rfl a8 (by show _≤64;omega)) ?_;refine e_ (mw rfl rfl (xI v/2^(56-8*i)) 256 rfl rfl ae) ?_;refine e_ (dW 256 rfl rfl rfl (CL v i) rfl (V2 _ ae)) ?_;refine fS eB (k:=λs22=>?_);refine app (k:=λa=>?_);rw[←zq v b];refine go ?_;refine lN ((a,i+1)) ?_
  try dsimp only
  omega
 obtain rfl:i=8:=a8;rw[Xr (show(kZ v).length≤8 by rw[oH];omega)];refine we_ (qe_ (le_ (bh_ (qn_ (ws_ (wr_ (e_ mv ?_)))))));refine e_ (fx rfl) ?_;exact gZ
end
section
variable {G:dJ}{H:dD}{b:Bool}{p:FV}{q r:ByteArray}{t:Tok}{w:List Nat}
instance {t:Tok}:kV eT t (.agg [.string (eG t.text),.int .i64 ((t.value:Nat):Int),.int .i64 ((t.pos:Nat):Int),.int .i64 ((t.st:Nat):Int),.int .i64 ((t.en:Nat):Int)].toArray):=⟨rfl⟩
instance (priority:=low) {s:ByteArray}{a b c d:Nat}:gP eT (.agg [.string s,.int .i64 ((a:Nat):Int),.int .i64 ((b:Nat):Int),.int .i64 ((c:Nat):Int),.int .i64 ((d:Nat):Int)].toArray) ⟨dC s,a,b,c,d⟩:=⟨by show Value.agg (eT.f _).toArray=_;simp only[eT,jW]⟩
instance {s:ByteArray}{d:Nat}:gP eT (.agg [.string s,.int .i64 0,.int .i64 0,.int .i64 0,.int .i64 ((d:Nat):Int)].toArray) ⟨dC s,0,0,0,d⟩:=⟨by show Value.agg (eT.f _).toArray=_;simp only[eT,jW];rfl⟩
theorem Jc (w:List Nat):∀(i:Nat) (a:Option Nat) (out:List Tok),gj w i=(a,out)→∀t∈out,∃j b k,t=⟨(w.take j).drop b,0,k,b,j⟩:=by
 intro i
 induction i with
 |zero=>intro a out h;cases h;simp
 |succ i ih=>
  intro a out h;obtain⟨c,d,h0⟩:∃c d,gj w i=(c,d):=⟨_,_,rfl⟩;have h1:=ih c d h0;cases hin:inW w i <;> cases c with
  |none=>
   first
   |(rw[rp h0 hin]at h;cases h;exact h1)
   |(rw[mP h0 hin]at h;cases h;exact h1)
  |some c=>
   first
   |(rw[rq h0 hin]at h;cases h
     intro t ht;rcases Xm.1 ht with ht|ht
     ·exact h1 t ht
     ·obtain rfl:=Vb.1 ht;exact⟨_,_,_,rfl⟩)
   |(rw[uG h0 hin]at h;cases h;exact h1)
theorem E7 (h:t∈gy w):∃j b k,t=⟨(w.take j).drop b,0,k,b,j⟩:=Jc w _ _ _ rfl t h
theorem BI (a:∀x∈w,x<256) (h:t∈gy w):(∀x∈t.text,x<256)∧t.text.length≤w.length:=by
 obtain⟨j,b,k,rfl⟩:=E7 h;refine⟨λx hx=>a x (Yq (Yp hx)),?_⟩;simp only[Yo,Yg];omega
theorem ox (w:List Nat):(gy w).length≤w.length+1:=(Ak w (w.length+1) _ _ rfl).1
def me (p:FV) (t:Tok):Option Tok:=match lx p t.text with
 |some u=>if u.length≤64 then some ⟨u,t.value,t.pos,t.st,t.en⟩else none
 |none=>none
def fF (p:FV) (w:List Nat):List Tok:=
 if p.kind=1 then(gy w).filterMap (me p)
 else if p.kind=2 then(if w.length≤64 then [⟨w,0,0,0,w.length⟩]else [])
 else if p.kind=3 then(match iI w with
  |some n=>[⟨kZ n,0,0,0,w.length⟩]
  |none=>[])
 else []
theorem CW (h:rY (lx p t.text) r b) (a:b=true):me p t=some ⟨dC r,t.value,t.pos,t.st,t.en⟩:=by
 rw[me];cases hc:lx p t.text with
 |none=>rw[hc]at h;subst a;exact absurd h (by simp[rY])
 |some u=>
  rw[hc]at h;obtain⟨h1,h2⟩:=h;subst a;have h3:u.length≤64:=by simpa using h2.symm
  simp only[h3,↓reduceIte,h1]
theorem GN (h:rY (lx p t.text) r b) (a:b=false):me p t=none:=by
 rw[me];cases hc:lx p t.text with
 |none=>rfl
 |some u=>
  rw[hc]at h;obtain⟨h1,h2⟩:=h;subst a;have h3:¬u.length≤64:=by simpa using h2.symm
  simp only[h3,↓reduceIte]
theorem GY {α β:Type}{f:α→Option β}{l:List α}{i:Nat}{x:α}(h:l[i]? =some x):(l.take (i+1)).filterMap f=(l.take i).filterMap f++(f x).toList:=by
 rw[Um,h,List.filterMap_append];simp only[R4,List.filterMap_cons,List.filterMap_nil];cases f x <;> rfl
theorem Mi {α β:Type}(f:α→Option β) (l:List α) (i:Nat):((l.take i).filterMap f).length≤l.length:=
 Xi (List.length_filterMap_le _ _) az
theorem O3 {s d:SV}(hm:Stp.stop s∈qI p d) (h:Sl H d eS (bif p.stop then jj else [])):Sl H s eS jj:=by
 obtain⟨n,k,a,b,c⟩:=p;simp only[qI,Xm]at hm;rcases hm with(hm|hm)|hm
 ·cases a <;> simp at hm
 ·cases b with
  |false=>simp at hm
  |true=>simp at hm;subst hm;exact h
 ·cases c <;> simp at hm
theorem HT (p:FV) (s:SV):(qI p s).length≤3:=by
 obtain⟨n,k,a,b,c⟩:=p;cases a <;> cases b <;> cases c <;> (simp[qI])
theorem L9 {o:Option Int}{v:Value}(h:Nd o v):∃n b,v=.tuple #[.int .i64 n,.bool b]∧((b=true∧o=some n∧ -9223372036854775808≤n∧n≤9223372036854775807)∨(b=false∧o=none)):=by
 cases o with
 |none=>exact⟨0,false,h,.inr ⟨rfl,rfl⟩⟩
 |some n=>exact⟨n,true,h.1,.inl ⟨rfl,rfl,h.2⟩⟩
theorem G2 (c:q.size≤1000000000):SC G prog 209 [.string q] H (λv a=>∃n b,v=.tuple #[.int .i64 n,.bool b]∧((b=true∧iI (dC q)=some n∧ -9223372036854775808≤n∧n≤9223372036854775807)∨(b=false∧iI (dC q)=none))∧a=H):=
 (RJ c).mono λv a h=>dj
theorem Gm (c:q.size≤1000000000):SC G prog 146 [.string q] H (λv a=>∃n b,v=.tuple #[.int .i64 n,.bool b]∧((b=true∧iI (dC q)=some n∧ -9223372036854775808≤n∧n≤9223372036854775807)∨(b=false∧iI (dC q)=none))∧a=H):=
 (SM c).mono λv a h=>dj
theorem QT {u:ByteArray}:SC G prog 145 [.string q,.string u] H (λv a=>∃s:SV,v=s.val∧a=Row s eT [⟨dC q,0,0,0,u.size⟩]::H):=by
 refine sWk func145 ?_;refine ws_ (wr_ (e_ asn (on_ (qn_ (ws_ (wr_ (e_ mv (e_ mv (e_ xO (e_ (bld [(0,_),(4,_)]) (fS eT (k:=λs9=>?_))))))))))));refine gR ?_;exact⟨_,hsb,_,rfl,rfl⟩
end
theorem tOf {G:dJ}{H:dD}{q:ByteArray}(p:FV) [Spc H] (A:kh G) (hq:q.size≤3000000):SC G prog 210 [.agg #[.string p.name,.int .i64 p.kind,.bool p.fold,.bool p.stop,.bool p.stem],.string q] H (λv B=>∃s:SV,v=s.val∧B=Row s eT (fF p (dC q))::H):=by
 have hl:=dI q;refine sWk func210 ?_;refine gk (k:=bxx (k:=λb2=>?_));refine e_ asn (on_ (qn_ (ws_ (wr_ (e_ mv (e_ mv (e_ xO (e_ (bld [(0,_),(4,_)]) (alc (k:=λb5=>?_))))))))));refine go ?_;refine gW (λh1=>?_) λh1=>?_
 ·have hk:p.kind=1:=h1;have hT:fF p (dC q)=(gy (dC q)).filterMap (me p):=by rw[fF,if_pos hk]
  refine go ?_;refine c1_ rfl (Sn p A) ?_;rintro _ _ ⟨c7,x,rfl,rfl⟩;refine go ?_;refine c1_ rfl (JH a8) ?_;rintro _ _ ⟨s25,rfl,rfl⟩;have hwn:=ox (dC q);refine gk (k:=e8 (SV×Nat) (λy=>y.2≤(gy (dC q)).length) (λy=>[(6,y.1.val),(27,iN y.2)]) [(7,_),(25,_),(26,_)] (λy=>[Row y.1 eT (((gy (dC q)).take y.2).filterMap (me p))]) _ (λy=>(gy (dC q)).length-y.2) ((SV.nil,0)) (h0:=?_) (k:=?_))
  ·exact Yl _
  rintro⟨s,i⟩ hi
  try dsimp only[Yd,Ye]at*
  refine gW (λh2=>?_) λh2=>?_
  ·obtain⟨t,w⟩:∃t,(gy (dC q))[i]? =some t:=⟨_,Yi a8⟩;obtain⟨j,htz⟩:=BI (lZ q) (Yj w);have m:=fD j;have hts:=j9 t.text;have c:=GY (f:=me p) w;have hfl:=Mi (me p) (gy (dC q)) i;refine gk (k:=alc (k:=λb9=>?_));refine go ?_;refine c2_ rfl (JK (HT p x) a8 (λs hm=>O3 hm inferInstance)) ?_;rintro _ _ ⟨r,b,rfl,hr,rfl⟩;rw[Ed,m]at hr;refine gW (λh3=>?_) λh3=>?_
   ·have a:=CW hr h3;rw[a,R4]at c;refine gk (k:=fS eT (k:=λs43=>?_));refine app (k:=λh=>?_);rw[←c];refine go ?_;refine lN ((h,i+1)) ?_
    try dsimp only
    omega
   have l:=GN hr h3;rw[l]at c;rw[Option.toList_none,Ym]at c;rw[←c];refine go ?_;refine lN ((s,i+1)) ?_
   try dsimp only
   omega
  obtain rfl:i=(gy (dC q)).length:=a8;rw[Xn]at*;refine go ?_;refine rT (k:=?_);rw[hT];exact⟨_,hsb,s,rfl,rfl⟩
 have a:¬p.kind=1:=h1;refine gW (λh4=>?_) λh4=>?_
 ·have hk2:p.kind=2:=h4;refine gW (λh5=>?_) λh5=>?_
  ·have hT:fF p (dC q)= [⟨dC q,0,0,0,q.size⟩]:=by rw[fF,if_neg a,if_pos hk2,if_pos a8,hl]
   refine gk (k:=fS eT (k:=λs53=>?_));refine gR ?_;rw[hT];exact⟨_,hsb,_,rfl,rfl⟩
  have hT:fF p (dC q)= []:=by rw[fF,if_neg a,if_pos hk2,if_neg a8]
  refine gR ?_;rw[hT];exact⟨_,hsb,SV.nil,rfl,rfl⟩
 have hk2:¬p.kind=2:=h4;refine gW (λh6=>?_) λh6=>?_
 ·have d:p.kind=3:=h6;refine go ?_;refine c1_ rfl (G2 a8) ?_;rintro _ _ ⟨n,b,rfl,e,rfl⟩;refine gW (λg=>?_) λg=>?_
  ·obtain⟨u,z⟩:iI (dC q)=some n∧(-9223372036854775808≤n∧n≤9223372036854775807):=by
    rcases e with⟨_,h1,h2⟩|⟨h1,_⟩
    ·exact⟨h1,h2⟩
    ·rw[h1]at g;cases g
   have hT:fF p (dC q)= [⟨kZ n,0,0,0,q.size⟩]:=by rw[fF,if_neg a,if_neg hk2,if_pos d,u,hl]
   refine go ?_;refine d1_ rfl (VZ z) (gk (k:=fS eT (k:=λs66=>?_)));refine gR ?_;rw[hT,fD (GC n)];exact⟨_,hsb,_,rfl,rfl⟩
  have u:iI (dC q)=none:=by
   rcases e with⟨h1,_⟩|⟨_,h1⟩
   ·rw[h1]at g;cases g
   ·exact h1
  have hT:fF p (dC q)= []:=by rw[fF,if_neg a,if_neg hk2,if_pos d,u]
  refine gR ?_;rw[hT];exact⟨_,hsb,SV.nil,rfl,rfl⟩
 have d:¬p.kind=3:=h6;have hT:fF p (dC q)= []:=by rw[fF,if_neg a,if_neg hk2,if_neg d]
 refine gR ?_;rw[hT];exact⟨_,hsb,SV.nil,rfl,rfl⟩
theorem rOf {G:dJ}{H:dD}{q:ByteArray}(p:FV) (hq:q.size≤3000000):SC G prog 96 [.agg #[.string p.name,.int .i64 p.kind,.bool p.fold,.bool p.stop,.bool p.stem],.string q] H (λv A=>∃s:SV,v=s.val∧A=Row s eT (fF p (dC q))::H):=by
 have hl:=dI q;refine sWk func96 ?_;refine gk (k:=bxx (k:=λb2=>?_));refine go ?_;refine s_ (fk eT rfl) ?_;rintro _ _ ⟨j,rfl,rfl⟩;refine go ?_;refine gW (λh1=>?_) λh1=>?_
 ·have hk:p.kind=1:=h1;have hT:fF p (dC q)=(gy (dC q)).filterMap (me p):=by rw[fF,if_pos hk]
  refine go ?_;refine c1_ rfl (Kt a8) ?_;rintro _ _ ⟨s18,rfl,rfl⟩;have hwn:=ox (dC q);refine gk (k:=e8 (SV×Nat) (λy=>y.2≤(gy (dC q)).length) (λy=>[(5,y.1.val),(20,iN y.2)]) [(2,_),(18,_),(19,_)] (λy=>[Row y.1 eT (((gy (dC q)).take y.2).filterMap (me p))]) _ (λy=>(gy (dC q)).length-y.2) ((j,0)) (h0:=?_) (k:=?_))
  ·exact Yl _
  rintro⟨s,i⟩ hi
  try dsimp only[Yd,Ye]at*
  refine gW (λh2=>?_) λh2=>?_
  ·obtain⟨t,x⟩:∃t,(gy (dC q))[i]? =some t:=⟨_,Yi a8⟩;obtain⟨l,htz⟩:=BI (lZ q) (Yj x);have u:=fD l;have hts:=j9 t.text;have c:=GY (f:=me p) x;have hfl:=Mi (me p) (gy (dC q)) i;refine gk (k:=alc (k:=λb7=>?_));refine go ?_;refine c2_ rfl (KD p a8) ?_;rintro _ _ ⟨r,b,rfl,hr,rfl⟩;rw[u]at hr;refine gW (λh3=>?_) λh3=>?_
   ·have a:=CW hr h3;rw[a,R4]at c;refine gk (k:=fS eT (k:=λs36=>?_));refine app (k:=λh=>?_);rw[←c];refine go ?_;refine lN ((h,i+1)) ?_
    try dsimp only
    omega
   have m:=GN hr h3;rw[m]at c;rw[Option.toList_none,Ym]at c;rw[←c];refine go ?_;refine lN ((s,i+1)) ?_
   try dsimp only
   omega
  obtain rfl:i=(gy (dC q)).length:=a8;rw[Xn]at*;refine gR ?_;rw[hT];exact⟨_,hsb,s,rfl,rfl⟩
 have a:¬p.kind=1:=h1;refine gW (λh4=>?_) λh4=>?_
 ·have hk2:p.kind=2:=h4;refine gW (λh5=>?_) λh5=>?_
  ·have hT:fF p (dC q)= [⟨dC q,0,0,0,q.size⟩]:=by rw[fF,if_neg a,if_pos hk2,if_pos a8,hl]
   refine go ?_;refine c2_ rfl QT ?_;rintro _ _ ⟨s46,rfl,rfl⟩;refine gR ?_;rw[hT];exact⟨_,hsb,_,rfl,rfl⟩
  have hT:fF p (dC q)= []:=by rw[fF,if_neg a,if_pos hk2,if_neg a8]
  refine gR ?_;rw[hT];exact⟨_,hsb,_,rfl,rfl⟩
 have hk2:¬p.kind=2:=h4;refine gW (λh6=>?_) λh6=>?_
 ·have d:p.kind=3:=h6;refine go ?_;refine c1_ rfl (Gm a8) ?_;rintro _ _ ⟨n,b,rfl,e,rfl⟩;refine gW (λg=>?_) λg=>?_
  ·obtain⟨w,z⟩:iI (dC q)=some n∧(-9223372036854775808≤n∧n≤9223372036854775807):=by
    rcases e with⟨_,h1,h2⟩|⟨h1,_⟩
    ·exact⟨h1,h2⟩
    ·rw[h1]at g;cases g
   have hT:fF p (dC q)= [⟨kZ n,0,0,0,q.size⟩]:=by rw[fF,if_neg a,if_neg hk2,if_pos d,w,hl]
   refine go ?_;refine d1_ rfl (WM z) (go ?_);refine c2_ rfl QT ?_;rintro _ _ ⟨s58,rfl,rfl⟩;refine gR ?_;rw[hT,fD (GC n)];exact⟨_,hsb,_,rfl,rfl⟩
  have w:iI (dC q)=none:=by
   rcases e with⟨h1,_⟩|⟨_,h1⟩
   ·rw[h1]at g;cases g
   ·exact h1
  have hT:fF p (dC q)= []:=by rw[fF,if_neg a,if_neg hk2,if_pos d,w]
  refine gR ?_;rw[hT];exact⟨_,hsb,_,rfl,rfl⟩
 have d:¬p.kind=3:=h6;have hT:fF p (dC q)= []:=by rw[fF,if_neg a,if_neg hk2,if_neg d]
 refine gR ?_;rw[hT];exact⟨_,hsb,_,rfl,rfl⟩
section
variable {i:Nat}{out:List Tok}{p:FV}{v:ByteArray×ByteArray}{vs:List (ByteArray×ByteArray)}
def eVl:Enc (ByteArray×ByteArray):=⟨λp=>[.string p.1,.string p.2],2,true,λ_=>rfl,λp v h=>by simp at h;rcases h with rfl|rfl <;> rfl,ae,λh=>aK,ae⟩
instance {p:ByteArray×ByteArray}:kV eVl p (.agg [.string p.1,.string p.2].toArray):=⟨rfl⟩
instance {a b:ByteArray}:gP eVl (.agg [.string a,.string b].toArray) (a,b):=⟨rfl⟩
instance {l:List Nat}{a b c d:Nat}:gP eT (.agg [.string (eG l),.int .i64 ((a:Nat):Int),.int .i64 ((b:Nat):Int),.int .i64 ((c:Nat):Int),.int .i64 ((d:Nat):Int)].toArray) ⟨l,a,b,c,d⟩:=⟨rfl⟩
theorem evq {G:dJ}{P:Program}{o:Oper}{t:Tm}{H:dD}{u v:Value}(h:Ev G P o t H u) (e:u=v):Ev G P o t H v:=e ▸ h
theorem Nl (w:List Nat):∀(i:Nat) (a:Option Nat) (out:List Tok),gj w i=(a,out)→∀t∈out,t.pos≤out.length:=by
 intro i
 induction i with
 |zero=>intro a out h;cases h;simp
 |succ i ih=>
  intro a out h;obtain⟨b,c,h0⟩:∃b c,gj w i=(b,c):=⟨_,_,rfl⟩;have h1:=ih b c h0;cases hin:inW w i <;> cases b with
  |none=>
   first
   |(rw[rp h0 hin]at h;cases h;exact h1)
   |(rw[mP h0 hin]at h;cases h;exact h1)
  |some b=>
   first
   |(rw[rq h0 hin]at h;cases h
     intro t ht;simp only[Ya,Yb,Yc];rcases Xm.1 ht with ht|ht
     ·have:=h1 t ht;omega
     ·obtain rfl:=Vb.1 ht;show c.length≤_;omega)
   |(rw[uG h0 hin]at h;cases h;exact h1)
theorem BP {w:List Nat}{t:Tok}(h:t∈fF p w):t.pos≤w.length+1:=by
 rw[fF]at h
 split at h
 ·obtain⟨a,h0,hk⟩:=List.mem_filterMap.1 h;have h1:a.pos≤(gy w).length:=Nl w _ _ _ rfl a h0;have h2:=ox w;rw[me]at hk
  split at hk
  ·split at hk
   ·cases hk;show a.pos≤_;omega
   ·cases hk
  ·cases hk
 ·split at h
  ·split at h
   ·obtain rfl:=Vb.1 h;exact Yl _
   ·cases h
  ·split at h
   ·split at h
    ·obtain rfl:=Vb.1 h;exact Yl _
    ·cases h
   ·cases h
theorem tt (p:FV) (w:List Nat):(fF p w).length≤w.length+1:=by
 rw[fF]
 split
 ·exact Xi (List.length_filterMap_le _ _) (ox w)
 ·split
  ·split <;> simp
  ·split
   ·split <;> simp
   ·simp
def vV (i b:Nat) (t:Tok):Tok:=⟨t.text,i,t.pos+b,t.st,t.en⟩
def ir (p:FV) (w:List Nat):Nat:=if p.kind=1 then(gy w).length else 1
def gM (p:FV) (vs:List (ByteArray×ByteArray)):Nat→Nat×List Tok
 | 0=>(0, [])
 |i+1=>match vs[i]? with
  |none=>gM p vs i
  |some v=>if dC v.1=dC p.name then((gM p vs i).1+(ir p (dC v.2)+16),(gM p vs i).2++(fF p (dC v.2)).map (vV i (gM p vs i).1))else gM p vs i
def eZ (fs:List FV) (k:Nat) (vs:List (ByteArray×ByteArray)):List Tok:=match fs[k]? with
 |some p=>(gM p vs vs.length).2
 |none=>[]
def vsz (vs:List (ByteArray×ByteArray)):Nat:=(vs.map λv=>v.2.size+20).sum
theorem wQ (h:vs[i]? =some v):vsz (vs.take (i+1))=vsz (vs.take i)+(v.2.size+20):=by
 simp[vsz,Um,h]
theorem qH:∀(l:List Nat) (i:Nat),(l.take i).sum≤l.sum
 | [],i=>aq
 |x::l,0=>aq
 |x::l,i+1=>by
  have:=qH l i;simp only[Vq,Vv];omega
theorem wR (vs:List (ByteArray×ByteArray)) (i:Nat):vsz (vs.take i)≤vsz vs:=by
 rw[vsz,vsz,List.map_take];exact qH _ _
theorem B6 {b:Nat}(h:gM p vs i=(b,out)) (hv:vs[i]? =some v) (hn:¬dC v.1=dC p.name):gM p vs (i+1)=(b,out):=by
 rw[gM,hv];simp only[if_neg hn];exact h
theorem wz {b:Nat}(h:gM p vs i=(b,out)) (hv:vs[i]? =some v) (hn:dC v.1=dC p.name):gM p vs (i+1)=(b+(ir p (dC v.2)+16),out++(fF p (dC v.2)).map (vV i b)):=by
 rw[gM,hv];simp only[if_pos hn,h]
theorem wN (p:FV) (w:List Nat):ir p w≤w.length+1:=by
 rw[ir];split
 ·exact ox w
 ·omega
theorem B7 (p:FV) (vs:List (ByteArray×ByteArray)):∀(i b:Nat) (out:List Tok),gM p vs i=(b,out)→b≤vsz (vs.take i)∧out.length≤vsz (vs.take i):=by
 intro i
 induction i with
 |zero=>intro b out h;cases h;simp
 |succ i ih=>
  intro b out h;obtain⟨c,a,h0⟩:∃c a,gM p vs i=(c,a):=⟨_,_,rfl⟩;obtain⟨h1,h2⟩:=ih c a h0;cases hv:vs[i]? with
  |none=>
   have e:gM p vs (i+1)=gM p vs i:=by rw[gM,hv]
   rw[e,h0]at h;cases h;have:vs.take (i+1)=vs.take i:=by rw[Um,hv];simp
   rw[this];exact⟨h1,h2⟩
  |some v=>
   rw[wQ hv];have hl:=dI v.2
   by_cases hn:dC v.1=dC p.name
   ·rw[wz h0 hv hn]at h;cases h;have h3:=wN p (dC v.2);have h4:=tt p (dC v.2);simp only[Ya,Yh];omega
   ·rw[B6 h0 hv hn]at h;cases h;omega
theorem tS {α β:Type}{f:α→β}{l:List α}{j:Nat}{x:α}(h:l[j]? =some x):(l.take (j+1)).map f=(l.take j).map f++ [f x]:=by
 rw[Um,h];simp
end
theorem Sf {G:dJ}{H:dD}{fv u:SV}{fs:List FV}{k:Nat}{vs:List (ByteArray×ByteArray)} [hf:Sl H fv eF fs] [hv:Sl H u eVl vs] [Spc H] (B:kh G) (hk:k≤1000000) (hfl:fs.length≤1000000) (hn:vs.length≤100000000) (A:∀v∈vs,v.2.size≤3000000) (hz:vsz vs≤1000000000):SC G prog 159 [.agg #[fv.val],iN k,u.val] H (λv C=>∃s:SV,v=s.val∧C=Row s eT (eZ fs k vs)::H):=by
 refine sWk func159 ?_;refine ws_ (wr_ (bxx (k:=λb3=>?_)));refine e_ asn (on_ (qn_ (ws_ (ws_ (wr_ (e_ mv (e_ ilt (e_ mv (ep 6 23 (k:=λh1=>eg_ mv (eg_ fla (eg_ ldv (eg_ lnn (eg_ ige (e_ pkf (on_ edq))))))) (q:=on_ (qn_ (wi_ (k:=λh2=>?_) (m:=λh2=>?_)))))))))))))
 ·have hT:eZ fs k vs= []:=by rw[eZ,Xz a8]
  refine ws_ (wr_ (e_ asn (on_ (qn_ (wt_ (qr_ (rT (k:=?_))))))));rw[hT];exact⟨_,hsb,SV.nil,rfl,rfl⟩
 obtain⟨p,hp⟩:=gE fs k;have hT:eZ fs k vs=(gM p vs vs.length).2:=by rw[eZ,hp]
 refine wk_ (qn_ (ws_ (wr_ (e_ fla (e_ ldv (e_ mv (e_ ixa (e_ gr (alc (k:=λb7=>?_))))))))));refine sto (k:=on_ (qn_ (ws_ (wr_ (e_ asn (on_ (qn_ (ws_ (wr_ (e_ asn (on_ (qn_ (ws_ ?_)))))))))))));refine ws_ (wr_ (e_ mv (e_ lnn (e_ mv (on_ (qn_ (wb_ (e8 (SV×Nat×Nat×(List Tok)) (λy=>y.2.1≤vs.length∧gM p vs y.2.1=(y.2.2.1,y.2.2.2)) (λy=>[(8,y.1.val),(9,iN y.2.2.1),(31,iN y.2.1)]) [(7,_),(29,_),(30,_)] (λy=>[Row y.1 eT y.2.2.2]) _ (λy=>vs.length-y.2.1) ((SV.nil,0,0, [])) (h0:=?_) (k:=?_)))))))))
 ·exact⟨Yl _,rfl⟩
 rintro⟨s,i,b,out⟩ ⟨hi,c⟩
 try dsimp only[Yd,Ye]at*
 refine ws_ (wr_ (e_ ilt (on_ (qn_ (ws_ (wi_ (k:=λh3=>?_) (m:=λh3=>?_)))))))
 ·obtain⟨v,a⟩:=gE vs i;have hvq:=A v (Yj a);have hvl:=dI v.2;have hle:=B7 p vs i b out c;have hzi:=wR vs i;have n:=wR vs (i+1);rw[wQ a]at n;refine wk_ (qn_ (ws_ (wb_ (ws_ (wr_ (e_ mv (e_ ixa (e_ gr (alc (k:=λb11=>?_))))))))));refine e_ asn (sto (k:=on_ (qn_ (ws_ (ws_ (wr_ (e_ fla (e_ ldv (e_ fla (e_ ldv (e_ Ka (on_ (qn_ ?_)))))))))))));refine wi_ (k:=λh4=>?_) (m:=λh4=>?_)
  ·have hno:=B6 c a h4;refine we_ (qe_ (bh_ (qn_ (wr_ (e_ iad (e_ mv (on_ ?_)))))));refine lN ((s,i+1,b,out)) ?_
   exact⟨a8,hno⟩
  have e:=wz c a (by have h:=h4;simpa using h);have htl:=tt p (dC v.2);refine wk_ (qn_ (ws_ (ws_ (wr_ (e_ lds (e_ fla (e_ ldv ?_)))))));refine c2_ rfl (tOf p B a8) ?_;rintro _ _ ⟨s44,rfl,rfl⟩;refine e_ lnn (e_ mv (on_ (qn_ (wb_ (e8 (SV×Nat×(List Tok)) (λy=>y.2.1≤(fF p (dC v.2)).length∧y.2.2=out++((fF p (dC v.2)).take y.2.1).map (vV i b)) (λy=>[(8,y.1.val),(46,iN y.2.1)]) [(7,_),(9,_),(10,_),(11,_),(29,_),(30,_),(31,_),(44,_),(45,_)] (λy=>[Row y.1 eT y.2.2]) _ (λy=>(fF p (dC v.2)).length-y.2.1) ((s,0,out)) (h0:=?_) (k:=?_))))))
  ·exact⟨Yl _,aq⟩
  rintro⟨w,j,g⟩ ⟨hj,d⟩
  try dsimp only[Yd,Ye]at*
  refine ws_ (wr_ (e_ ilt (on_ (qn_ (ws_ (wi_ (k:=λh5=>?_) (m:=λh5=>?_)))))))
  ·obtain⟨t,x⟩:∃t,(fF p (dC v.2))[j]? =some t:=⟨_,Yi a8⟩;have htp:=BP (Yj x);have r:=tS (f:=vV i b) x;have hol:g.length≤out.length+j:=by rw[d,Ya,Yh,Yg];omega
   refine wk_ (qn_ (ws_ (wb_ (ws_ (wr_ (e_ ixa (e_ gr (alc (k:=λb13=>?_)))))))));refine sto (k:=on_ (qn_ (ws_ (wr_ (e_ mv (e_ fla (sto (k:=on_ (qn_ (ws_ (wr_ (e_ fla (e_ ldv ?_)))))))))))));refine e_ mv ?_;refine e_ (evq iad (congrArg (Value.int .i64) (show _=((t.pos+b:Nat):Int)from a8))) ?_;refine e_ fla (sto (k:=on_ (qn_ (wr_ (e_ mv (e_ lds (fS eT (k:=λs59=>?_))))))));refine app (k:=λl=>?_);refine e_ asn (on_ (bn_ (qn_ (wr_ (e_ iad (e_ mv (on_ ?_)))))));refine lN ((l,j+1,g++ [vV i b t])) ?_
   try dsimp only
   exact⟨a8,by rw[r,←Yf,←d]⟩
  obtain rfl:j=(fF p (dC v.2)).length:=a8;rw[Xn]at d;rw[←d]at e;have hwl:=wN p (dC v.2);refine we_ (qe_ (le_ (bh_ (qn_ (ws_ (wr_ (e_ asn (on_ (qn_ (ws_ (ws_ (wr_ (e_ fla ?_)))))))))))));refine e_ ldv (e_ ieq (on_ (qn_ (wi_ (k:=λh6=>?_) (m:=λh6=>?_)))))
  ·have z:ir p (dC v.2)=(gy (dC v.2)).length:=by rw[ir,if_pos dy]
   refine wr_ (e_ fla (e_ ldv ?_));refine c1_ rfl (JH a8) ?_;rintro _ _ ⟨s67,rfl,rfl⟩;refine e_ lnn (e_ asn (on_ (qn_ (wr_ (e_ mv (e_ mv (e_ iad ?_)))))));refine e_ (evq iad (congrArg (Value.int .i64) (show _=((b+(ir p (dC v.2)+16):Nat):Int)from a8))) ?_;refine e_ asn (on_ (bn_ (qn_ (wr_ (e_ iad (e_ mv (on_ ?_)))))));refine lN ((w,i+1,b+(ir p (dC v.2)+16),g)) ?_
   exact⟨a8,e⟩
  have z:ir p (dC v.2)=1:=by rw[ir,if_neg dy]
  refine wk_ (qn_ (wr_ (e_ mv (e_ mv (e_ iad ?_)))));refine e_ (evq iad (congrArg (Value.int .i64) (show _=((b+(ir p (dC v.2)+16):Nat):Int)from a8))) ?_;refine e_ asn (on_ (bn_ (qn_ (wr_ (e_ iad (e_ mv (on_ ?_)))))));refine lN ((w,i+1,b+(ir p (dC v.2)+16),g)) ?_
  exact⟨a8,e⟩
 obtain rfl:i=vs.length:=a8;rw[c]at hT;refine we_ (qe_ (le_ (bh_ (qn_ (ws_ (wr_ (e_ mv (e_ asn (on_ (qn_ (wt_ (rT (k:=?_)))))))))))));rw[hT];exact⟨_,hsb,s,rfl,rfl⟩
theorem KB {G:dJ}{H:dD}{fv w:SV}{fs:List FV}{k:Nat}{vs:List (ByteArray×ByteArray)} [hf:Sl H fv eF fs] [hv:Sl H w eVl vs] (hk:k≤1000000) (hfl:fs.length≤1000000) (hn:vs.length≤100000000) (B:∀v∈vs,v.2.size≤3000000) (hz:vsz vs≤1000000000):SC G prog 37 [.agg #[fv.val],iN k,w.val] H (λv C=>∃s:SV,v=s.val∧C=Row s eT (eZ fs k vs)::H):=by
 refine sWk func37 ?_;refine ws_ (wr_ (bxx (k:=λb3=>?_)));refine e_ asn (on_ (qn_ (ws_ (wr_ ?_))));refine s_ (fk eT rfl) ?_;rintro _ _ ⟨n,rfl,rfl⟩;refine e_ asn (on_ (qn_ (ws_ (ws_ (wr_ (e_ mv (e_ ilt (e_ mv (ep 6 24 (k:=λh1=>eg_ mv (eg_ fla (eg_ ldv (eg_ lnn (eg_ ige (e_ pkf (on_ edq))))))) (q:=on_ (qn_ (wi_ (k:=λh2=>?_) (m:=λh2=>?_)))))))))))))
 ·have hT:eZ fs k vs= []:=by rw[eZ,Xz a8]
  refine ws_ (wr_ (e_ mv (e_ asn (on_ (qn_ (wt_ (qr_ (rT (k:=?_)))))))));rw[hT];exact⟨_,hsb,_,rfl,rfl⟩
 obtain⟨p,hp⟩:=gE fs k;have hT:eZ fs k vs=(gM p vs vs.length).2:=by rw[eZ,hp]
 refine wk_ (qn_ (ws_ (wr_ (e_ fla (e_ ldv (e_ mv (e_ ixa (e_ gr (alc (k:=λb8=>?_))))))))));refine sto (k:=on_ (qn_ (ws_ (wr_ (e_ asn (on_ (qn_ (ws_ (ws_ (wr_ (e_ mv (e_ lnn (e_ mv ?_)))))))))))));refine on_ (qn_ (wb_ (e8 (SV×Nat×Nat×(List Tok)) (λy=>y.2.1≤vs.length∧gM p vs y.2.1=(y.2.2.1,y.2.2.2)) (λy=>[(7,y.1.val),(9,iN y.2.2.1),(33,iN y.2.1)]) [(8,_),(31,_),(32,_)] (λy=>[Row y.1 eT y.2.2.2]) _ (λy=>vs.length-y.2.1) ((n,0,0, [])) (h0:=?_) (k:=?_))))
 ·exact⟨Yl _,rfl⟩
 rintro⟨s,i,b,out⟩ ⟨hi,c⟩
 try dsimp only[Yd,Ye]at*
 refine ws_ (wr_ (e_ ilt (on_ (qn_ (ws_ (wi_ (k:=λh3=>?_) (m:=λh3=>?_)))))))
 ·obtain⟨v,a⟩:=gE vs i;have hvq:=B v (Yj a);have hvl:=dI v.2;have hle:=B7 p vs i b out c;have hzi:=wR vs i;have r:=wR vs (i+1);rw[wQ a]at r;refine wk_ (qn_ (ws_ (wb_ (ws_ (wr_ (e_ mv (e_ ixa (e_ gr (alc (k:=λb11=>?_))))))))));refine e_ asn (sto (k:=on_ (qn_ (ws_ (ws_ (wr_ (e_ fla (e_ ldv (e_ fla (e_ ldv (e_ Ka (on_ (qn_ ?_)))))))))))));refine wi_ (k:=λh4=>?_) (m:=λh4=>?_)
  ·have hno:=B6 c a h4;refine we_ (qe_ (bh_ (qn_ (wr_ (e_ iad (e_ mv (on_ ?_)))))));refine lN ((s,i+1,b,out)) ?_
   exact⟨a8,hno⟩
  have e:=wz c a (by have h:=h4;simpa using h);have htl:=tt p (dC v.2);refine wk_ (qn_ (ws_ (ws_ (wr_ (e_ lds (e_ fla (e_ ldv ?_)))))));refine c2_ rfl (rOf p a8) ?_;rintro _ _ ⟨s46,rfl,rfl⟩;refine e_ lnn (e_ mv (on_ (qn_ (wb_ (e8 (SV×Nat×(List Tok)) (λy=>y.2.1≤(fF p (dC v.2)).length∧y.2.2=out++((fF p (dC v.2)).take y.2.1).map (vV i b)) (λy=>[(7,y.1.val),(48,iN y.2.1)]) [(8,_),(9,_),(10,_),(11,_),(31,_),(32,_),(33,_),(46,_),(47,_)] (λy=>[Row y.1 eT y.2.2]) _ (λy=>(fF p (dC v.2)).length-y.2.1) ((s,0,out)) (h0:=?_) (k:=?_))))))
  ·exact⟨Yl _,aq⟩
  rintro⟨x,j,g⟩ ⟨hj,d⟩
  try dsimp only[Yd,Ye]at*
  refine ws_ (wr_ (e_ ilt (on_ (qn_ (ws_ (wi_ (k:=λh5=>?_) (m:=λh5=>?_)))))))
  ·obtain⟨t,z⟩:∃t,(fF p (dC v.2))[j]? =some t:=⟨_,Yi a8⟩;have htp:=BP (Yj z);have u:=tS (f:=vV i b) z;have hol:g.length≤out.length+j:=by rw[d,Ya,Yh,Yg];omega
   refine wk_ (qn_ (ws_ (wb_ (ws_ (wr_ (e_ ixa (e_ gr (alc (k:=λb13=>?_)))))))));refine sto (k:=on_ (qn_ (ws_ (wr_ (e_ mv (e_ fla (sto (k:=on_ (qn_ (ws_ (wr_ (e_ fla (e_ ldv ?_)))))))))))));refine e_ mv ?_;refine e_ (evq iad (congrArg (Value.int .i64) (show _=((t.pos+b:Nat):Int)from a8))) ?_;refine e_ fla (sto (k:=on_ (qn_ (wr_ (e_ mv (e_ lds (fS eT (k:=λs61=>?_))))))));refine app (k:=λl=>?_);refine e_ asn (on_ (bn_ (qn_ (wr_ (e_ iad (e_ mv (on_ ?_)))))));refine lN ((l,j+1,g++ [vV i b t])) ?_
   try dsimp only
   exact⟨a8,by rw[u,←Yf,←d]⟩
  obtain rfl:j=(fF p (dC v.2)).length:=a8;rw[Xn]at d;rw[←d]at e;have hwl:=wN p (dC v.2);refine we_ (qe_ (le_ (bh_ (qn_ (ws_ (wr_ (e_ asn (on_ (qn_ (ws_ (ws_ (wr_ (e_ fla ?_)))))))))))));refine e_ ldv (e_ ieq (on_ (qn_ (wi_ (k:=λh6=>?_) (m:=λh6=>?_)))))
  ·have A:ir p (dC v.2)=(gy (dC v.2)).length:=by rw[ir,if_pos dy]
   refine wr_ (e_ fla (e_ ldv ?_));refine c1_ rfl (Kt a8) ?_;rintro _ _ ⟨s69,rfl,rfl⟩;refine e_ lnn (e_ asn (on_ (qn_ (wr_ (e_ mv (e_ mv (e_ iad ?_)))))));refine e_ (evq iad (congrArg (Value.int .i64) (show _=((b+(ir p (dC v.2)+16):Nat):Int)from a8))) ?_;refine e_ asn (on_ (bn_ (qn_ (wr_ (e_ iad (e_ mv (on_ ?_)))))));refine lN ((x,i+1,b+(ir p (dC v.2)+16),g)) ?_
   exact⟨a8,e⟩
  have A:ir p (dC v.2)=1:=by rw[ir,if_neg dy]
  refine wk_ (qn_ (wr_ (e_ mv (e_ mv (e_ iad ?_)))));refine e_ (evq iad (congrArg (Value.int .i64) (show _=((b+(ir p (dC v.2)+16):Nat):Int)from a8))) ?_;refine e_ asn (on_ (bn_ (qn_ (wr_ (e_ iad (e_ mv (on_ ?_)))))));refine lN ((x,i+1,b+(ir p (dC v.2)+16),g)) ?_
  exact⟨a8,e⟩
 obtain rfl:i=vs.length:=a8;rw[c]at hT;refine we_ (qe_ (le_ (bh_ (qn_ (ws_ (wr_ (e_ mv (e_ asn (on_ (qn_ (wt_ (rT (k:=?_)))))))))))));rw[hT];exact⟨_,hsb,s,rfl,rfl⟩
section
variable {G:dJ}{H:dD}{fs:List FV}{q:ByteArray}{s:SV}{w:List Nat}
def kL (k:Int) (w:List Nat):Bool:=
 if k=2 then !decide (w= [])&&decide (w.length≤64)else if k=3 then(iI w).isSome else true
theorem RA {k:Int}(hq:q.size≤1000000000):SC G prog 158 [.int .i64 k,.string q] H (λv d=>v=.bool (kL k (dC q))∧d=H):=by
 have hl:=dI q;refine sWk func158 ?_;refine go ?_;refine gW (λh1=>?_) λh1=>?_
 ·have hk:k=2:=h1;refine gk (k:=e_ Ka (gk (k:=dV 4 16 (k:=λh2=>gk (k:=edq)) (q:=gR ?_))));refine⟨_,hsb,vb ?_,rfl⟩;rw[kL,if_pos hk,hl];simp only[Xu,Uf,Xy,Xq]
  constructor
  ·rintro⟨h1,h2⟩;exact⟨h1,a8⟩
  ·rintro⟨h1,h2⟩;exact⟨h1,a8⟩
 have hk2:¬k=2:=h1;refine gW (λh3=>?_) λh3=>?_
 ·have a:k=3:=h3;refine go ?_;refine c1_ rfl (G2 a8) ?_;rintro _ _ ⟨n,b,rfl,c,rfl⟩;refine go ?_;refine gR ?_;refine⟨_,hsb,?_,rfl⟩;rw[kL,if_neg hk2,if_pos a];rcases c with⟨h1,h2,_⟩|⟨h1,h2⟩ <;> rw[h1,h2] <;> rfl
 have a:¬k=3:=h3;refine gR ?_;refine⟨_,hsb,?_,rfl⟩;rw[kL,if_neg hk2,if_neg a];rfl
def ig (fs:List FV) (w:List Nat):Option Nat:=fs.findIdx? λp=>decide (dC p.name=w)
theorem Ba {i:Nat}{p:FV}(h:fs[i]? =some p) (hn:dC p.name=w) (a:∀j p',j<i→fs[j]? =some p'→¬dC p'.name=w):ig fs w=some i:=by
 have hi:=(Yk.1 h).1;have e:fs[i]=p:=(Yk.1 h).2;rw[ig,List.findIdx?_eq_some_iff_getElem];refine⟨hi,by simp[e,hn],λj hj=>?_⟩;have:=a j fs[j] hj (Yi a8)
 simpa using this
theorem vo (a:∀j p',j<fs.length→fs[j]? =some p'→¬dC p'.name=w):ig fs w=none:=by
 rw[ig,List.findIdx?_eq_none_iff];intro p hp;obtain⟨j,hj⟩:=Vh.1 hp
 simpa using a j p (Yk.1 hj).1 hj
theorem WX [hs:Sl H s eF fs] (hn:fs.length≤1000000000):SC G prog 155 [.agg #[s.val],.string q] H (λv g=>∃(k:Nat) (b:Bool),v=.tuple #[iN k,.bool b]∧((b=true∧ig fs (dC q)=some k)∨(b=false∧ig fs (dC q)=none))∧g=H):=by
 refine sWk func155 ?_;refine gk (k:=bxx (k:=λb2=>?_));refine go ?_;refine e8 Nat (λy=>y≤fs.length∧∀j p,j<y→fs[j]? =some p→¬dC p.name=dC q) (λy=>[(11,iN y)]) [(1,_),(9,_),(10,_)] (λy=>[]) _ (λy=>fs.length-y) (0) (h0:=?_) (k:=?_)
 ·exact⟨Yl _,λj e hj=>absurd hj (Up _)⟩
 rintro i ⟨hi,a⟩
 try dsimp only[Yd,Ye]at*
 refine gW (λh1=>?_) λh1=>?_
 ·obtain⟨p,hp⟩:=gE fs i;refine gk (k:=alc (k:=λb7=>?_));refine gk (k:=e_ tH (gW (λh2=>?_) (λh2=>?_)))
  ·have d:=Ba hp h2 a;refine gR ?_;exact⟨_,hsb,i,true,rfl,.inl ⟨rfl,d⟩,rfl⟩
  have hno:=h2;refine go ?_;refine lN (i+1) ?_
  try dsimp only
  refine⟨a8,λj f hj c=>?_⟩
  by_cases e0:j=i
  ·subst e0;rw[hp]at c;cases c;exact hno
  ·exact a j f a8 c
 have d:ig fs (dC q)=none:=vo λj p hj=>a j p a8;refine gR ?_;exact⟨_,hsb,0,false,rfl,.inr ⟨rfl,d⟩,rfl⟩
theorem Wh [hs:Sl H s eF fs] (hn:fs.length≤1000000000):SC G prog 223 [.agg #[s.val],.string q] H (λv g=>∃(k:Nat) (b:Bool),v=.tuple #[iN k,.bool b]∧((b=true∧ig fs (dC q)=some k)∨(b=false∧ig fs (dC q)=none))∧g=H):=by
 refine sWk func223 ?_;refine gk (k:=bxx (k:=λb2=>?_));refine go ?_;refine e8 Nat (λy=>y≤fs.length∧∀j p,j<y→fs[j]? =some p→¬dC p.name=dC q) (λy=>[(11,iN y)]) [(1,_),(9,_),(10,_)] (λy=>[]) _ (λy=>fs.length-y) (0) (h0:=?_) (k:=?_)
 ·exact⟨Yl _,λj e hj=>absurd hj (Up _)⟩
 rintro i ⟨hi,a⟩
 try dsimp only[Yd,Ye]at*
 refine gW (λh1=>?_) λh1=>?_
 ·obtain⟨p,hp⟩:=gE fs i;refine gk (k:=alc (k:=λb7=>?_));refine gk (k:=e_ tH (gW (λh2=>?_) (λh2=>?_)))
  ·have d:=Ba hp h2 a;refine gR ?_;exact⟨_,hsb,i,true,rfl,.inl ⟨rfl,d⟩,rfl⟩
  have hno:=h2;refine go ?_;refine lN (i+1) ?_
  try dsimp only
  refine⟨a8,λj f hj c=>?_⟩
  by_cases e0:j=i
  ·subst e0;rw[hp]at c;cases c;exact hno
  ·exact a j f a8 c
 have d:ig fs (dC q)=none:=vo λj p hj=>a j p a8;refine gR ?_;exact⟨_,hsb,0,false,rfl,.inr ⟨rfl,d⟩,rfl⟩
end
section
variable {G:dJ}{H:dD}
theorem Cr (s:ByteArray) (hn:s.size≤1000000000000):SC G prog 110 [.string s] H (λv d=>v=.bool (ju (dC s))∧d=H):=by
 have hs:=dI s;refine sWk func110 ?_;refine ws_ (wr_ (e_ asn (on_ (qn_ (ws_ (ws_ (wr_ (e_ mv (e_ xO (e_ ilt (sp_ mv (k:=λh1=>?_) (m:=λh1=>?_))))))))))))
 ·refine gk (k:=ift (k:=go ?_));refine rT (k:=?_);have e:ju (dC s)=false:=bL;exact⟨_,dH.refl,by rw[e];rfl,rfl⟩
 refine gW (λh2=>?_) λh2=>?_
 ·refine gR ?_;have e:ju (dC s)=false:=bL;exact⟨_,dH.refl,by rw[e];rfl,rfl⟩
 have e:ju (dC s)=sI 0 (dC s):=by unfold ju;rw[Ys a8];rfl
 refine gk (k:=wl_ Nat (λi=>i≤s.size∧ju (dC s)=sI i ((dC s).drop i)) (λi=>[(0,.string s),(3,iN i)]) (λ_=>H) (λi=>s.size-i) (0) (h0:=?_) (k:=?_))
 ·try dsimp only
  exact⟨Yl _,by rw[e,Va]⟩
 rintro i ⟨hi,hI⟩
 try dsimp only at*
 refine gW (λh3=>?_) λh3=>?_
 ·obtain⟨c,hc⟩:=gE (dC s) i;rw[eh hc,sI]at hI;refine wk_ (qn_ (ws_ (wb_ (ws_ (wr_ (e_ mv (e_ mv ?_)))))));refine e_ (qb rfl rfl _ rfl _ (by first|assumption|rfl|exact Yi a8)) ?_;refine e_ asn (on_ (qn_ (ws_ (wr_ (e_ mv (e_ ige (sp_ mv (k:=λh4=>?_) (m:=λh4=>?_))))))))
  ·refine eg_ mv (eg_ ile (e_ pkt (e_ asn (on_ (qn_ (ws_ (wr_ (e_ mv (e_ mN (sp_ mv (k:=λh5=>?_) (m:=λh5=>?_)))))))))))
   ·refine eg_ mv (eg_ ieq (tB mv (k:=λh6=>?_) (m:=λh6=>?_)))
    ·refine go ?_;refine ift (k:=gR ?_);exact⟨_,dH.refl,au,rfl⟩
    refine eg_ mv (eg_ ine (tB mv (k:=λb=>?_) (m:=λb=>?_)))
    ·refine eg_ mv (eg_ ilt (tB mv (k:=λh8=>?_) (m:=λh8=>?_)))
     ·refine gk (k:=ift (k:=go ?_));refine gR ?_;exact⟨_,dH.refl,au,rfl⟩
     refine gW (λh9=>?_) λh9=>?_
     ·refine gR ?_;exact⟨_,dH.refl,au,rfl⟩
     refine go ?_;refine lN (i+1) ?_
     try dsimp only
     refine⟨a8,?_⟩;rw[hI,show nD i c=true from Ys a8,Xv]
    refine gk (k:=fM (k:=go ?_));refine go ?_;refine lN (i+1) ?_
    try dsimp only
    refine⟨a8,?_⟩;rw[hI,show nD i c=true from Ys a8,Xv]
   refine go ?_;refine gk (k:=fM (k:=go ?_));refine lN (i+1) ?_
   try dsimp only
   refine⟨a8,?_⟩;rw[hI,show nD i c=true from Ys a8,Xv]
  refine of_ (of_ (e_ pkf (e_ asn (on_ (qn_ (ws_ (wr_ (e_ mv (e_ mN (e_ mv (eg_ mv (eg_ ieq (tB mv (k:=λh10=>?_) (m:=λh10=>?_))))))))))))))
  ·refine go ?_;refine ift (k:=gR ?_);exact⟨_,dH.refl,au,rfl⟩
  refine eg_ mv (eg_ ine (tB mv (k:=λh11=>?_) (m:=λh11=>?_)))
  ·refine eg_ mv (eg_ ilt (tB mv (k:=λh12=>?_) (m:=λh12=>?_)))
   ·refine gk (k:=ift (k:=go ?_));refine gR ?_;exact⟨_,dH.refl,au,rfl⟩
   refine gW (λa=>?_) λa=>?_
   ·refine gR ?_;exact⟨_,dH.refl,au,rfl⟩
   refine go ?_;refine lN (i+1) ?_
   try dsimp only
   refine⟨a8,?_⟩;rw[hI,show nD i c=true from Ys a8,Xv]
  refine gk (k:=fM (k:=go ?_));refine go ?_;refine lN (i+1) ?_
  try dsimp only
  refine⟨a8,?_⟩;rw[hI,show nD i c=true from Ys a8,Xv]
 obtain rfl:i=s.size:=a8;rw[Vn a8,sI]at hI;refine gR ?_;exact⟨_,dH.refl,by rw[hI];rfl,rfl⟩
theorem Kr {s:SV}{fs:List FV} [hs:Sl H s eF fs] (hn:fs.length≤1000000000) (hf:∀f∈fs,f.name.size≤1000000000000):SC G prog 44 [.agg #[s.val]] H (λv E=>E=H∧((iK fs=false∧v=.int .i64 11)∨(iK fs=true∧v=.int .i64 0))):=by
 refine sWk func44 ?_;refine gk (k:=bxx (k:=λu=>?_));refine e_ asn (on_ (qn_ (ws_ (ws_ (wr_ (e_ fla (e_ ldv (e_ lnn (e_ ilt (sp_ mv (k:=λh1=>?_) (m:=λh1=>?_)))))))))))
 ·refine gk (k:=ift (k:=go ?_));refine gR ?_;have e:iK fs=false:=bP;exact⟨_,hsb,rfl,.inl ⟨e,rfl⟩⟩
 refine gW (λh2=>?_) λh2=>?_
 ·refine gR ?_;have e:iK fs=false:=bP;exact⟨_,hsb,rfl,.inl ⟨e,rfl⟩⟩
 refine wk_ (qn_ (ws_ (ws_ (wr_ ?_))));have e:iK fs=uw [] fs:=by unfold iK;rw[Ys a8];rfl
 refine gk (k:=wl_ Nat (λi=>i≤fs.length∧iK fs=uw ((fs.take i).map nm) (fs.drop i)) (λi=>[(1,pA u),(18,s.val),(19,iN fs.length),(20,iN i)]) (λ_=>Vr u [s.val]::H) (λi=>fs.length-i) (0) (h0:=?_) (k:=?_))
 ·try dsimp only
  exact⟨Yl _,by rw[e,Va];rfl⟩
 rintro i ⟨hi,hI⟩
 try dsimp only at*
 refine gW (λh3=>?_) λh3=>?_
 ·obtain⟨f,l⟩:=gE fs i;have y:=hf f (Yj l);rw[eh l,uw]at hI;refine gk (k:=alc (k:=λw=>?_));refine go ?_;refine d1_ rfl (Cr f.name y) (e_ asn (on_ (qn_ (ws_ (ws_ (wr_ (e_ mv (e_ mN (sp_ mv (k:=λh4=>?_) (m:=λh4=>?_))))))))))
  ·refine gk (k:=ift (k:=go ?_));refine gR ?_;have hk:ju (dC f.name)=false∨iG f=false:=by
    first
     |exact .inl aU
     |exact .inr cB
   rcases hk with hk|hk <;> exact⟨_,hsb,rfl,.inl ⟨dk,rfl⟩⟩
  refine eg_ fla (eg_ ldv (eg_ ilt (e_ pkf (sp_ mv (k:=λh5=>?_) (m:=λh5=>?_)))))
  ·refine gk (k:=ift (k:=go ?_));refine gR ?_;have hk:ju (dC f.name)=false∨iG f=false:=by
    first
     |exact .inl aU
     |exact .inr cB
   rcases hk with hk|hk <;> exact⟨_,hsb,rfl,.inl ⟨dk,rfl⟩⟩
  refine gW (λh6=>?_) λh6=>?_
  ·refine gR ?_;have hk:ju (dC f.name)=false∨iG f=false:=by
    first
     |exact .inl aU
     |exact .inr cB
   rcases hk with hk|hk <;> exact⟨_,hsb,rfl,.inl ⟨dk,rfl⟩⟩
  refine wk_ (qn_ (ws_ (ws_ (wr_ (e_ fla (e_ ldv (e_ ine (sp_ mv (k:=λC=>?_) (m:=λC=>?_)))))))))
  ·refine eg_ fla (eg_ ldv (tB mv (k:=λh8=>?_) (m:=λh8=>?_)))
   ·refine gk (k:=ift (k:=go ?_));refine gR ?_;have hk:iG f=false:=by
     clear hI;unfold iG;rw[if_neg a8,if_pos a8];simp_all
    exact⟨_,hsb,rfl,.inl ⟨dk,rfl⟩⟩
   refine eg_ fla (eg_ ldv (eg_ pkf (tB mv (k:=λh9=>?_) (m:=λh9=>?_))))
   ·refine gk (k:=ift (k:=go ?_));refine gR ?_;have hk:iG f=false:=by
     clear hI;unfold iG;rw[if_neg a8,if_pos a8];simp_all
    exact⟨_,hsb,rfl,.inl ⟨dk,rfl⟩⟩
   refine gW (λh10=>?_) λh10=>?_
   ·refine gR ?_;have hk:iG f=false:=by
     clear hI;unfold iG;rw[if_neg a8,if_pos a8];simp_all
    exact⟨_,hsb,rfl,.inl ⟨dk,rfl⟩⟩
   refine wk_ (qn_ (ws_ (wr_ ?_)));have r:ju (dC f.name)=true:=aU;have t:iG f=true:=by
    clear hI;unfold iG
    by_cases hk1:f.kind=1
    ·rw[if_pos hk1]
    ·rw[if_neg hk1,if_pos a8];simp_all
   rw[r,t]at hI;refine gk (k:=wl_ Nat (λj=>j≤i∧∀d g,d<j→fs[d]? =some g→dC g.name≠dC f.name) (λj=>[(1,pA u),(3,iN i),(4,pA w),(6,iN j),(18,s.val),(19,iN fs.length),(20,iN i)]) (λ_=>Vr w [.string f.name,.int .i64 f.kind,.bool f.fold,.bool f.stop,.bool f.stem]::Vr u [s.val]::H) (λj=>i-j) (0) (h0:=?_) (k:=?_))
   ·exact⟨Yl _,λd g h=>absurd h (Up _)⟩
   rintro j ⟨hj,a⟩
   try dsimp only at*
   refine gW (λh11=>?_) λh11=>?_
   ·obtain⟨g,b⟩:=gE fs j;refine go ?_;refine dX dN (as_ 0 (q:=fla) (k:=as_ 1 (q:=ldv) (k:=as_ 2 (q:=mv) (k:=?_))));refine dS 3 rfl rfl aa rfl (ey (er rfl rfl j rfl a8)) ?_;refine as_ 4 (q:=fle) (k:=?_);refine dS 5 rfl rfl aa rfl (ey (ta rfl bH g b bH)) ?_;refine as_ 6 (q:=fla) (k:=as_ 7 (q:=ldv) (k:=?_));refine dS 8 rfl rfl aa rfl (ey (qc rfl rfl)) ?_;refine gW (λh12=>?_) λh12=>?_
    ·refine go ?_;refine gR ?_;refine⟨_,hsb,rfl,.inl ⟨?_,rfl⟩⟩;have hm:dC f.name∈(fs.take i).map nm:=by
         refine Xt.2 ⟨g,?_,aU⟩;exact Yj (i:=j) (by rw[Vp a8];exact b)
     rw[hI,Ys hm];rfl
    refine go ?_;refine lN (j+1) ?_
    try dsimp only
    refine⟨a8,λd B p c=>?_⟩;rcases Uq (V9 p)with h|rfl
    ·exact a d B h c
    ·rw[b]at c;cases c;assumption
   obtain rfl:i=j:=a8;have hno:dC f.name ∉(fs.take i).map nm:=by
    intro hm;obtain⟨g,x,he⟩:=Xt.1 hm;obtain⟨k,hk⟩:=Vh.1 x;have n:=(Yk.1 hk).1;rw[Yg]at n;rw[Vp a8]at hk;exact a k g a8 hk he
   rw[Yr hno]at hI;refine go ?_;refine lN (i+1) ?_
   try dsimp only
   refine⟨a8,?_⟩;rw[hI,dK l,Xp];rfl
  refine gk (k:=fM (k:=?_));refine wk_ (qn_ (ws_ (wr_ ?_)));have r:ju (dC f.name)=true:=aU;have t:iG f=true:=by
   clear hI;unfold iG
   by_cases hk1:f.kind=1
   ·rw[if_pos hk1]
   ·rw[if_neg hk1,if_pos a8];simp_all
  rw[r,t]at hI;refine gk (k:=wl_ Nat (λj=>j≤i∧∀d g,d<j→fs[d]? =some g→dC g.name≠dC f.name) (λj=>[(1,pA u),(3,iN i),(4,pA w),(6,iN j),(18,s.val),(19,iN fs.length),(20,iN i)]) (λ_=>Vr w [.string f.name,.int .i64 f.kind,.bool f.fold,.bool f.stop,.bool f.stem]::Vr u [s.val]::H) (λj=>i-j) (0) (h0:=?_) (k:=?_))
  ·exact⟨Yl _,λd g h=>absurd h (Up _)⟩
  rintro j ⟨hj,a⟩
  try dsimp only at*
  refine gW (λA=>?_) λA=>?_
  ·obtain⟨g,b⟩:=gE fs j;refine go ?_;refine dX dN (as_ 0 (q:=fla) (k:=as_ 1 (q:=ldv) (k:=as_ 2 (q:=mv) (k:=?_))));refine dS 3 rfl rfl aa rfl (ey (er rfl rfl j rfl a8)) ?_;refine as_ 4 (q:=fle) (k:=?_);refine dS 5 rfl rfl aa rfl (ey (ta rfl bH g b bH)) ?_;refine as_ 6 (q:=fla) (k:=as_ 7 (q:=ldv) (k:=?_));refine dS 8 rfl rfl aa rfl (ey (qc rfl rfl)) ?_;refine gW (λz=>?_) λz=>?_
   ·refine go ?_;refine gR ?_;refine⟨_,hsb,rfl,.inl ⟨?_,rfl⟩⟩;have hm:dC f.name∈(fs.take i).map nm:=by
     refine Xt.2 ⟨g,?_,aU⟩;exact Yj (i:=j) (by rw[Vp a8];exact b)
    rw[hI,Ys hm];rfl
   refine go ?_;refine lN (j+1) ?_
   try dsimp only
   refine⟨a8,λd B p c=>?_⟩;rcases Uq (V9 p)with h|rfl
   ·exact a d B h c
   ·rw[b]at c;cases c;assumption
  obtain rfl:i=j:=a8;have hno:dC f.name ∉(fs.take i).map nm:=by
   intro hm;obtain⟨g,x,he⟩:=Xt.1 hm;obtain⟨k,hk⟩:=Vh.1 x;have n:=(Yk.1 hk).1;rw[Yg]at n;rw[Vp a8]at hk;exact a k g a8 hk he
  rw[Yr hno]at hI;refine go ?_;refine lN (i+1) ?_
  try dsimp only
  refine⟨a8,?_⟩;rw[hI,dK l,Xp];rfl
 obtain rfl:i=fs.length:=a8;rw[Vn (Xl _),uw]at hI;refine gR ?_;exact⟨_,hsb,rfl,.inr ⟨hI,rfl⟩⟩
end
end Go.Sx
