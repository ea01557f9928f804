import Derived.Test.YtcokhbglfaakjaaGreatDoorQ10
import Derived.Laws.StructEq
import Derived.ScopeJumps
set_option linter.all false
set_option maxHeartbeats 0
namespace Go.Sx
open Go Go.Proofs
set_option maxRecDepth 100000
section
variable {j:Nat}{l:List En}
theorem lr (l:List En) (k:Nat):∀n,k≤n→∃r r',(eH l n).1=(eH l k).1++r∧(eH l n).2=(eH l k).2++r'
 | 0,h=> by obtain rfl:k=0:=by omega
            exact⟨[], [],aq,aq⟩
 |n+1,h=> by
  by_cases he:k=n+1
  ·subst he;exact⟨[], [],aq,aq⟩
  ·obtain⟨r,r',h1,h2⟩:=lr l k n a8
   exact⟨r++uv (fe [] (gB l n)).length,r'++fe [] (gB l n),by rw[eH];simp only[h1,Yf],by rw[eH];simp only[h2,Yf]⟩
theorem IU (h:j<gO l):∃r,(iC l).drop ((uv l.length).length+(eH l j).1.length)=uv (fe [] (gB l j)).length++r∧(fe [] (gB l j)).length≤r.length:=by
 obtain⟨r,a,h1,h2⟩:=lr l (j+1) (gO l) a8;rw[eH]at h1 h2;simp only at h1 h2;refine⟨r++((eH l j).2++fe [] (gB l j)++a),?_,aj⟩;rw[iC,h1,h2,←Ya];simp only[Yf];rw[←Yf,Vg]
theorem MG (h:j<gO l):∃r,(iC l).drop ((uv l.length).length+(eH l (gO l)).1.length+(eH l j).2.length)=fe [] (gB l j)++r:=by
 obtain⟨r,a,h1,h2⟩:=lr l (j+1) (gO l) a8;rw[eH]at h2;simp only at h2;refine⟨a,?_⟩;have e:iC l=(uv l.length++(eH l (gO l)).1++(eH l j).2)++(fe [] (gB l j)++a):=by rw[iC,h2];simp only[Yf]
 rw[e,←Ya,←Ya,Vg]
theorem Mz (p:List Nat) (e:En):1≤(oX p e).length:=by
 have:=sM (eY p (dC e.key));simp only[oX,Ya];omega
theorem Dh:∀(l:List En) (p:List Nat),l.length≤(fe p l).length
 | [],_=>aq
 |e::r,p=>by
  have h1:=Mz p e;have h2:=Dh r (dC e.key);simp only[fe,Ya,Yb];omega
theorem zX (l:List En):∀k,min (16*k) l.length≤(eH l k).2.length
 | 0=>aq
 |k+1=>by
  have h1:=zX l k;have h2:=Dh (gB l k) [];rw[ri]at h2;simp only[eH,Ya];omega
theorem MH (l:List En):l.length≤(iC l).length:=by
 have h1:=zX l (gO l);have h2:l.length≤16*gO l:=cS;simp only[iC,Ya];omega
theorem IW (l:List En):(iC l).length=(uv l.length).length+(eH l (gO l)).1.length+(eH l (gO l)).2.length:=by simp only[iC,Ya]
theorem Ql {k:Nat}{e:En}{xs r:List Nat}{P:Nat}(hx:xs.drop P=fe [] (gB l j)++r) (hk:k<16) (he:l[16*j+k]? =some e):∃b,xs.drop (P+(fe [] ((gB l j).take k)).length)=oX (nk [] ((gB l j).take k)) e++b:=by
 have a:=DL l j k hk;rw[he]at a;have h1:gB l j=(gB l j).take (k+1)++(gB l j).drop (k+1):=(Vd ..).symm;have h2:fe [] (gB l j)=fe [] ((gB l j).take (k+1))++fe (nk [] ((gB l j).take (k+1))) ((gB l j).drop (k+1)):=by
  conv=>lhs;rw[h1]
  exact rN _ _ _
 rw[qe a]at h2;refine⟨fe (nk [] ((gB l j).take (k+1))) ((gB l j).drop (k+1))++r,?_⟩;rw[←Vt,hx,h2];simp only[Yf];rw[Vg]
def n5 (l:List En) (j:Nat):List Int:=(List.range j).map λk=>(((fe [] (gB l k)).length:Nat):Int)
theorem Cg (l:List En) (j:Nat):n5 l (j+1)=n5 l j++ [(((fe [] (gB l j)).length:Nat):Int)]:=by simp[n5,X9]
theorem xd (l:List En) (j:Nat):(n5 l j).length=j:=by simp[n5]
theorem Eo {n:Nat}(h:j<n):(n5 l n)[j]? =some (((fe [] (gB l j)).length:Nat):Int):=by
 rw[n5,Xd,Ur h];all_goals rfl
end
section
variable {f:FuncId}{vs:List Value}
theorem qM {G:dJ}{P:Program}{t:Tm}{H:dD}{dst:Option Tmp}{c:Operand}{fi ca:List Value}{xs:List Operand}{a:Array TypeId}{ty:TypeId}{pos:String}{after:Array Edge}{g:Option (Nat×Bool)}{K:Value→dD→Prop}(h0:evo t c=some (.func (.func f) fi.toArray ca.toArray)) (hx:ui t xs=some vs) (hc:SC G P f (fi++vs++ca) H K):St G P ⟨dst,.call ⟨.value c,xs.toArray,a⟩,ty,pos,after,g⟩ t H K:=by
 intro ρ hρ w b;have h1:ρ c=.func (.func f) fi.toArray ca.toArray:=hρ _ _ h0;have h2:xs.toArray.map ρ=vs.toArray:=cz;have:(execOp ρ ⟨dst,.call ⟨.value c,xs.toArray,a⟩,ty,pos,after,g⟩).run P w=.ok (.enter f (fi++vs++ca).toArray) w:=by
  simp only[execOp,resolve,h1,h2,Deferred.ofValue,Sem.run_bind,Sem.run_pure,Result.andThen_ok];simp only[invoke,List.append_toArray];exact hc.enter _ _
 rw[this];exact hc.call w b
section
variable {G:dJ}{P:Program}{N:Nat}{Q:Post}{t:Tm}{H:dD}
def E3 {α:Type}(l:Nat) (I:α→Prop) (fr:α→Tm) (hp:α→dD) (μ:α→Nat) (m:Nat) (Q:Post):Post:=λe t H=>match e with
 | .goto l'=>l'=l∧∃y,I y∧μ y<m∧Sub (fr y) t∧dH H (hp y)
 |e=>Q e t H
theorem Nn {l:Nat}(h:Q .normal t H):W G P N (.label l) Q t H:=⟨λ_ _ ha a=>wp_label ⟨t,H,ha,a,h⟩⟩
theorem Ji {l:Nat}(h:Q (.goto l) t H):W G P N (.goto l) Q t H:=⟨λ_ _ ha a=>wp_goto ⟨t,H,ha,a,h⟩⟩
theorem qg_ {y:Code}{l:Nat}(h:Q (.goto l) t H):J7 G P N y Q (.goto l) t H:=h
section
variable {α:Type}{I:α→Prop}{fr:α→Tm}{hp:α→dD}{μ:α→Nat}{l m:Nat}
theorem jg_ (y:α) (hI:I y) (hm:μ y<m) (hs:Sub (fr y) t) (hh:dH H (hp y)):E3 l I fr hp μ m Q (.goto l) t H:=⟨rfl,y,hI,hm,hs,hh⟩
theorem jt_ (h:Q .ret t H):E3 l I fr hp μ m Q .ret t H:=h
end
end
section
variable {G:dJ}{P:Program}{N:Nat}{Q:Post}{t:Tm}{H:dD}
def Hy {α:Type}(l:Nat) (I:α→Prop) (fr:α→Tm) (hp:α→dD) (Q:Post):Post:=λe t H=>match e with
 | .goto l'=>l'=l∧∃y,I y∧Sub (fr y) t∧dH H (hp y)
 |e=>Q e t H
section
variable {α:Type}{I:α→Prop}{fr:α→Tm}{hp:α→dD}{l:Nat}
theorem ft_ (h:Q .ret t H):Hy l I fr hp Q .ret t H:=h
end
theorem BK {c i:Code}(l:Nat) (hf:findLabel c l=some (.seq .skip i)) (α:Type) (I:α→Prop) (fr:α→Tm) (hp:α→dD) (μ:α→Nat)
 (pass:∀x,I x→W G P N i (E3 l I fr hp μ (μ x) Q) (fr x) (hp x))
 (first:(∀y t H,I y→Sub (fr y) t→dH H (hp y)→W G P N (.seq (.label l) i) (Hy l I fr hp Q) t H)→W G P N c (Hy l I fr hp Q) t H):W G P N (.scope c) Q t H:=by
 have hm:∀(m:Nat) e t H,E3 l I fr hp μ m Q e t H→Hy l I fr hp Q e t H:=λm e t H h=>by
  cases e with
  |goto l'=>obtain⟨h1,y,h2,_,h3,h4⟩:=h;exact⟨h1,y,h2,h3,h4⟩
  |normal=>exact h
  |exit id=>exact h
  |ret=>exact h
  |panic ch=>exact h
  |outgrown=>exact h
 have hmax:∃m0:Nat,True:=⟨0,trivial⟩;have A:=first λy s u hy X Y=>yV (Nn (FR X (wO Y (Al (pass y hy) (hm _)))))
 refine⟨λa w ha L=>?_⟩;intro b k E;have U:gotoIn l (.inScope c::k)=some (.code (.seq .skip i):: .inScope c::k):=by simp[gotoIn,hf]
 have B:∀x,I x→W G P N (.seq .skip i) (E3 l I fr hp μ (μ x) Q) (fr x) (hp x):=λx hx=>yV (Jf (pass x hx));have J:∀n x,μ x=n→I x→∀a w,Fr N (fr x) a→Sat G w (hp x)→
  ∃e V T,up G N Q e V T∧Arrives P (lone (b.at a (.code (.seq .skip i):: .inScope c::k)) E w) b k E e V T:=by
  intro n
  induction n using Nat.strongRecOn with
  |_ n ih=>
   intro x hn hI a w ha L;obtain⟨e,r,q,j,d⟩:=(B x hI).go a w ha L b (.inScope c::k) E;obtain⟨s,u,g,f,j⟩:=j;cases e with
   |normal=>exact⟨.normal,r,q,⟨s,u,g,f,j⟩,Steps.trans d (.one step_inScope)⟩
   |exit id=>exact⟨.exit id,r,q,⟨s,u,g,f,j⟩,λK hk=>d K (by simp[exitTo,hk])⟩
   |goto l'=>
    obtain⟨rfl,y,hy,M,v,z⟩:=j;obtain⟨R,S,F,C,p⟩:=ih (μ y) (hn ▸ M) y rfl hy r q (g.sub v) (z.sat f);exact⟨R,S,F,C,.of_steps (d _ U) p⟩
   |ret=>exact⟨_,r,q,⟨s,u,g,f,j⟩,d⟩
   |panic ch=>exact⟨_,r,q,⟨s,u,g,f,j⟩,d⟩
   |outgrown=>exact⟨_,r,q,⟨s,u,g,f,j⟩,d⟩
 obtain⟨e,r,q,j,d⟩:=A.go a w ha L b (.inScope c::k) E;obtain⟨s,u,g,f,j⟩:=j;cases e with
 |normal=>exact⟨.normal,r,q,⟨s,u,g,f,j⟩,.head step_scope (Steps.trans d (.one step_inScope))⟩
 |exit id=>exact⟨.exit id,r,q,⟨s,u,g,f,j⟩,λK hk=>.head step_scope (d K (by simp[exitTo,hk]))⟩
 |goto l'=>
  obtain⟨rfl,y,hy,v,z⟩:=j;obtain⟨R,S,F,C,p⟩:=J _ y rfl hy r q (g.sub v) (z.sat f);exact⟨R,S,F,C,.of_steps (.head step_scope (d _ U)) p⟩
 |ret=>exact⟨_,r,q,⟨s,u,g,f,j⟩,.of_steps (.one step_scope) d⟩
 |panic ch=>exact⟨_,r,q,⟨s,u,g,f,j⟩,.of_steps (.one step_scope) d⟩
 |outgrown=>exact⟨_,r,q,⟨s,u,g,f,j⟩,.of_steps (.one step_scope) d⟩
end
section
variable {G:dJ}{P:Program}{t:Tm}{H:dD}{dst:Option Tmp}{ty:TypeId}{pos:String}{after:Array Edge}{g:Option (Nat×Bool)}
theorem jz {T ft off b k:Nat}{x:Operand}{fs:Array Field}{z v:Value}{l:List Value}(a:P.underlying T=some (.struct fs)) (hf:(fs[k]?).map (λf=>(f.offset,f.type))=some (off,ft)) (hx:evo t x=some (.agg l.toArray)) (hv:l[off]? =some v) [hO:One P ft] [hE:Inf P ft 1 b z]:
 Ev G P ⟨dst,.field T x k,ty,pos,after,g⟩ t H v:=
 fun ρ hρ w _=>by
  cases hk:fs[k]? with
  |none=>rw[hk]at hf;cases hf
  |some f=>
   rw[hk]at hf;simp only[Vs,Option.some.injEq,Prod.mk.injEq]at hf;obtain⟨h1,h2⟩:=hf;subst h1;subst h2;have h3:(l.toArray)[f.offset]? =some v:=by simpa using hv
   simp only[execOp,hρ _ _ hx,Instr.field,Sem.run_bind,ef (T:=T) (d:=.struct fs) (h:=⟨a⟩),Result.andThen_ok,hk,asAgg,part,Sem.run_pure,iZ (T:=f.type),Xx,↓reduceIte];simp[hv]
theorem mkf {fi ca:List Operand}{ws:List Value}(h1:ui t fi=some vs:=by exact rfl) (h2:ui t ca=some ws:=by exact rfl):
 Ev G P ⟨dst,.makeFunc (.func f) fi.toArray ca.toArray,ty,pos,after,g⟩ t H (.func (.func f) vs.toArray ws.toArray):=
 fun ρ hρ w _=>by
  have b:fi.toArray.map ρ=vs.toArray:=by rw[Uy,nv hρ h1]
  have a:ca.toArray.map ρ=ws.toArray:=by rw[Uy,nv hρ h2]
  simp only[execOp,Instr.makeFunc,b,a,Sem.run_bind,Sem.run_pure,Result.andThen_ok]
end
end
open Tryz
section
variable {h i:Nat}{hs:Hs}{x:Operand}
section
variable {G:dJ}{P:Program}{t:Tm}{H:dD}{dst:Option Tmp}{ty:TypeId}{pos:String}{after:Array Edge}{g:Option (Nat×Bool)}
theorem vZ {T U:TypeId}{y:Operand}{a b:Bool} [hT:Und P T .bool] (hx:evo t x=some (.bool a)) (hy:evo t y=some (.bool b)):Ev G P ⟨dst,.binOp .neq T x y U,ty,pos,after,g⟩ t H (.bool (a !=b)):=fun ρ hρ w _=>by
 have h2:=jX (P:=P) (w:=w) (T:=T) (x:=.bool a) (y:=.bool b) (r:=(a==b)) (λd=>aI);simp[execOp,hρ _ _ hx,hρ _ _ hy,eqGuard,binOp,h2,bne]
theorem PM {y z:Operand}{d:Array TypeId}{k:IntKind}{a b c:Int}(hx:evo t x=some (.int k a)) (hy:evo t y=some (.int k b)) (f:evo t z=some (.int k c)):
 Ev G P ⟨dst,.call ⟨.builtin .max, #[x,y,z],d⟩,ty,pos,after,g⟩ t H (.int k (max (max a b) c)):=
 fun ρ hρ w _=>by
  have e:∀a b:Int,(if b > a then b else a)=max a b:=λa b=>by rw[Int.max_def];split <;> split <;> omega
  simp[execOp,resolve,invoke,builtin,Builtin.max_,Builtin.max2,hρ _ _ hx,hρ _ _ hy,hρ _ _ f,e]
theorem yQ {T E U:TypeId} [hT:Und P T (.slice E)] (hx:evo t x=some (.slice none 0 0)):Ev G P ⟨dst,.binOp .eql T x (.const (.slice none 0 0)) U,ty,pos,after,g⟩ t H (.bool true):=
 fun ρ hρ w hw=>by
  have h1:=ie (P:=P) (op:=.eql) (T:=T) (x:=x) (y:=.const (.slice none 0 0)) (w:=w) (a:=.slice none 0 0) (b:=.slice none 0 0) (.inr rfl) (λc h=>bx);have h2:=jX (P:=P) (w:=w) (T:=T) (x:=.slice none 0 0) (y:=.slice none 0 0) (r:=true) (λd=>by simp only[Op.equalIn,Sem.run_bind,ef (T:=T),Result.andThen_ok,Sem.run_pure,Option.isNone_none]);have h5:(binOp .eql T (.slice none 0 0) (.slice none 0 0)).run P w=.ok (.bool true) w:=by
   simp only[binOp,Sem.run_bind,h2,Result.andThen_ok,Sem.run_pure]
  simp only[execOp,hρ _ _ hx,hρ (.const (.slice none 0 0)) _ rfl,Sem.run_bind,h1,Result.andThen_ok,h5,Sem.run_pure]
end
def ohI:Option Nat→Int
 |none=>-1
 |some h=>(h:Int)
abbrev hsI (hs:Hs):List Int:=hs.map ohI
theorem pV (hi:i<hs.length):(hsI hs)[i]? =some (ohI (hs.getD i none)):=by
 rw[Xd,Xj,Yi hi];all_goals rfl
theorem wy:(hsI hs).set i (h:Int)=hsI (hs.set i (some h)):=by
 rw[hsI,hsI,R9];all_goals rfl
theorem tU {a:Hs}(he:kD hs i h=some a):a.length=hs.length:=by
 unfold kD at he
 split at he
 ·cases he;exact Ub
 ·split at he
  ·cases he;rfl
  ·cases he
theorem uc (hi:i<hs.length):(hs.set i (some h)).getD i none=some h:=by
 rw[Xj,Ue hi];all_goals rfl
theorem QI {G:dJ}{H R:dD}{sl:SV}{b:Nat} [hb:dQ R b [sl.val]] [hr:mh H sl eI (hsI hs) R] (hi:i<hs.length):SC G prog 127 [iN i,iN h,pA b] H (λv g=>((∃d,kD hs i h=some d∧v=.bool true∧g=Row sl eI (hsI d)::R)∨(kD hs i h=none∧v=.bool false∧g=R))):=by
 refine SC.less (gi hr dH.refl) ?_;have f:i<(hsI hs).length:=by rw[Yh];exact hi
 refine sWk func127 ?_;refine ws_ (wr_ (e_ asn (on_ (qn_ (ws_ (ws_ (wr_ (e_ ldv (e_ mv (e_ ixa (e_ (lel (hy:=pV hi)) (go ?_))))))))))));refine gW (λh1=>?_) λh1=>?_
 ·obtain hno:hs.getD i none=none:=by
   have h9:=h1;cases hc:hs.getD i none with
   |none=>rfl
   |some q=>rw[hc,ohI]at h9;omega
  have c:=uc (h:=h) hi;have a:i<(hs.set i (some h)).length:=by rw[Ub];exact hi
  have hil3:i<(hsI (hs.set i (some h))).length:=by rw[Yh];exact a
  refine go ?_;refine s_ (et rfl rfl bH f) ?_;rintro _ _ ⟨rfl,rfl⟩;rw[wy];refine on_ (qn_ (ws_ (wr_ (e_ ldv (e_ mv (e_ ixa (e_ (lel (hy:=(pV a).trans (by rw[c,ohI]))) (go ?_))))))));refine rT (k:=?_);exact⟨_,hsb,.inl ⟨_,by rw[kD,hno],by simp[jt],rfl⟩⟩
 obtain⟨q,e⟩:∃q,hs.getD i none=some q:=by
  have h9:=h1;cases hc:hs.getD i none with
  |none=>rw[hc,ohI]at h9;exact absurd ae h9
  |some q=>exact⟨q,rfl⟩
 refine wk_ (qn_ (ws_ (wr_ (e_ ldv (e_ mv (e_ ixa (e_ (lel (hy:=(pV hi).trans (by rw[e,ohI]))) (go ?_))))))));refine rT (k:=?_)
 by_cases hqh:q=h
 ·exact⟨_,hsb,.inl ⟨hs,by rw[kD,e];simp[hqh],by simp[jt,hqh],rfl⟩⟩
 ·exact⟨_,hsb,.inr ⟨by rw[kD,e];simp[hqh],by simp[jt];omega,rfl⟩⟩
end
section
variable {G:dJ}{H:dD}
theorem k8 {P:Program}{t:Tm}{dst:Option Tmp}{ty:TypeId}{pos:String}{after:Array Edge}{g:Option (Nat×Bool)}{T U:TypeId}{x y:Operand}{i j:Int}(hx:evo t x=some (.int .u64 i)) (hy:evo t y=some (.int .u64 j)) (a b:Nat) (ha:i=a) (c:j=b) (h:a*b<18446744073709551616):
 Ev G P ⟨dst,.binOp .mul T x y U,ty,pos,after,g⟩ t H (uN (a*b)):=by
 have:=nZ (G:=G) (P:=P) (H:=H) (dst:=dst) (ty:=ty) (pos:=pos) (after:=after) (g:=g) (T:=T) (U:=U) (k:=.u64) 18446744073709551616 rfl hx hy rfl a b ha c
 rwa [Xw h]at this
theorem Bu (n:Nat):fm n≤1048576:=Nat.min_le_right _ _
theorem x6 {n:Int}:SC G prog 231 [.int .i64 n] H (λv a=>v=uN (fm n.toNat)∧a=H):=by
 have hc:=Bu n.toNat;refine sWk func231 ?_;refine ws_ (wr_ (e_ asn (on_ (qn_ (ws_ (wr_ (e_ mv ?_)))))));refine e_ (nw rfl rfl) ?_;refine e_ (evq (oh rfl rfl) (congrArg (Value.int .i64) (show _=((fm n.toNat:Nat):Int)from by unfold fm;omega))) ?_;refine e_ (dW 18446744073709551616 rfl rfl rfl (fm n.toNat) rfl a8) ?_;exact gZ
theorem Z7 {f l a:Int}:SC G prog 182 [.int .i64 f,.int .i64 l,.int .i64 a] H (λv d=>v=uN (Co f.toNat l.toNat a.toNat)∧d=H):=by
 have c:=Bu f.toNat;have hl:=Bu l.toNat;have ha:=Bu a.toNat;have hA1:1≤max (fm a.toNat) 1:=Nat.le_max_right _ _;have b:max (fm a.toNat) 1≤1048576:=a8;have hm1:10240*fm f.toNat*max (fm a.toNat) 1≤10240*1048576*1048576:=Uv (Uv (Xl _) c) b;have hm2:10*fm f.toNat*max (fm a.toNat) 1≤10*1048576*1048576:=Uv (Uv (Xl _) c) b;refine sWk func182 ?_;refine go ?_;refine d1_ rfl x6 (go ?_);refine d1_ rfl x6 (go ?_);refine d1_ rfl x6 ?_;refine e_ (evq (nw rfl rfl) (congrArg (Value.int .u64) (show _=((max (fm a.toNat) 1:Nat):Int)from a8))) ?_;refine e_ asn (e_ asn (e_ asn (on_ (qn_ (ws_ (wr_ (e_ mv ?_)))))));refine e_ (k8 rfl rfl 10240 (fm f.toNat) rfl rfl a8) ?_;refine e_ mv ?_;refine e_ (k8 rfl rfl (10240*fm f.toNat) (max (fm a.toNat) 1) rfl rfl a8) ?_;refine e_ mv ?_;refine e_ (k8 rfl rfl 10 (fm f.toNat) rfl rfl a8) ?_;refine e_ mv ?_;refine e_ (k8 rfl rfl (10*fm f.toNat) (max (fm a.toNat) 1) rfl rfl a8) ?_;refine e_ mv ?_;refine e_ (k8 rfl rfl 3 (max (fm a.toNat) 1) rfl rfl a8) ?_;refine e_ (jo 18446744073709551616 rfl rfl rfl rfl (10*fm f.toNat*max (fm a.toNat) 1) (3*max (fm a.toNat) 1) rfl rfl a8) ?_;refine e_ mv ?_;refine e_ (k8 rfl rfl 9 (fm l.toNat) rfl rfl a8) ?_;refine e_ (jo 18446744073709551616 rfl rfl rfl rfl (10*fm f.toNat*max (fm a.toNat) 1+3*max (fm a.toNat) 1) (9*fm l.toNat) rfl rfl a8) ?_;refine e_ (fX rfl rfl (10240*fm f.toNat*max (fm a.toNat) 1) (10*fm f.toNat*max (fm a.toNat) 1+3*max (fm a.toNat) 1+9*fm l.toNat) rfl rfl a8 (by show _≤(18446744073709551615:Int);omega)) ?_;exact gZ
end
section
variable {b slop x:Int}{hs:List Nat}{l:List Int}{lists:List (List Int)}{m:Nat}{r:Bool×List Nat}{w:Bool}
theorem Oa (hx:l[m]? =some x) (h:x<b):gG l m b=gG l (m+1) b:=by
 unfold gG;rw[eh hx,List.findIdx_cons,Yr a8];simp only[cond_false];omega
theorem Kb (h:l.length≤m):gG l m b=m:=by
 unfold gG;rw[S7 h,List.findIdx_nil,X6]
theorem Oc (hx:l[m]? =some x) (h:b≤x):gG l m b=m:=by
 unfold gG;rw[eh hx,List.findIdx_cons,Ys h];simp
theorem LY (hx:m<l.length→l[m]? =some x):pX l m b slop=(decide (((m:Nat):Int)<(l.length:Int))&&decide (x≤b+slop)):=by
 unfold pX;rw[show decide (((m:Nat):Int)<(l.length:Int))=decide (m<l.length)from Vm.2 a8]
 by_cases h:m<l.length
 ·rw[hx h,Ys h,Xv]
 ·rw[Xz a8,Yr h,Vk]
theorem MR {j a:Nat}(hl:lists[j]? =some l) (ha:hs[j]? =some a) (h:r=(w&&(gS b slop (lists.drop j) (hs.drop j)).1,hs.take j++(gS b slop (lists.drop j) (hs.drop j)).2)):
 r=((w&&pX l (gG l a b) b slop)&&(gS b slop (lists.drop (j+1)) ((hs.set j (gG l a b)).drop (j+1))).1,(hs.set j (gG l a b)).take (j+1)++(gS b slop (lists.drop (j+1)) ((hs.set j (gG l a b)).drop (j+1))).2):=by
 have hj:=(Yk.1 ha).1;have hd:(hs.set j (gG l a b)).drop (j+1)=hs.drop (j+1):=by rw[List.drop_set_of_lt a8]
 have c:(hs.set j (gG l a b)).take (j+1)=hs.take j++ [gG l a b]:=by
  rw[dK (Ue hj),List.take_set_of_le (Xl _)]
 rw[h,eh hl,eh ha,gS,hd,c,Bool.and_assoc,Yf];all_goals rfl
theorem Qn {n:Nat}(hl:lists.length=n) (hh:hs.length=n) (h:r=(w&&(gS b slop (lists.drop n) (hs.drop n)).1,hs.take n++(gS b slop (lists.drop n) (hs.drop n)).2)):r=(w,hs):=by
 rw[h,S7 a8,S7 a8,gS,Bool.and_true,Ym,Xr a8]
 ·intros;contradiction
theorem LC {l:List Nat}{i x:Nat}:(dT l).set i (x:Int)=dT (l.set i x):=by rw[dT,dT,R9]
theorem O1 {G:dJ}{H:dD}{sl X:SV}{ss:List SV}{all:List Int} [hsl:Sl H sl eSV ss] [hsa:Sl H X eI all] (M:ss.length=lists.length) (S:∀(i:Nat) (s:SV) (l:List Int),ss[i]? =some s→lists[i]? =some l→Sl H s eI l) (hn:ss.length≤1000000000) (hs1:0≤slop) (hs2:slop≤2147483647) (hal:all.length≤1000000000000) (V:∀x∈all, -4294967296≤x∧x≤4294967296) (N:∀l∈lists,l.length≤1000000000000):SC G prog 185 [X.val,sl.val,.int .i64 slop] H (λv Y=>v=iN (kd slop lists all (List.replicate lists.length 0))∧Y=H):=by
 have A:(List.replicate ss.length (0:Int))=dT (List.replicate lists.length 0):=by rw[M,dT,List.map_replicate];all_goals rfl
 refine sWk func185 ?_;refine go ?_;refine s_ (gn eI 0 rfl rfl _ _ rfl rfl rfl a8 a8 a8) ?_;rintro _ _ ⟨r,rfl,hs16n,hs16c,rfl⟩;rw[A];refine go ?_;refine gk (k:=e8 (Nat×(List Nat)×Nat) (λy=>y.1≤all.length∧y.2.1.length=lists.length∧y.2.2≤y.1∧y.2.2+kd slop lists (all.drop y.1) y.2.1=kd slop lists all (List.replicate lists.length 0)) (λy=>[(8,iN y.2.2),(19,iN y.1)]) [(1,_),(2,_),(7,_),(17,_),(18,_)] (λy=>[Row r eI (dT y.2.1)]) _ (λy=>all.length-y.1) ((0,List.replicate lists.length 0,0)) (h0:=?_) (k:=?_))
 ·try dsimp only
  exact⟨Yl _,Xe,Xl _,by rw[Va,Vw]⟩
 rintro⟨i,hd,u⟩ ⟨hi,hdl,hct,d⟩
 try dsimp only[Yd,Ye]at*
 refine gW (λh1=>?_) λh1=>?_
 ·obtain⟨b,U⟩:=gE all i;have hbb:=V b (Yj U);rw[eh U,kd]at d;refine wk_ (qn_ (ws_ (wb_ (ws_ (wr_ (e_ ixa (e_ (lel (hy:=U)) (go ?_))))))));refine gk (k:=e8 (Nat×(List Nat)×Bool) (λy=>y.1≤lists.length∧y.2.1.length=lists.length∧gS b slop lists hd=(y.2.2&&(gS b slop (lists.drop y.1) (y.2.1.drop y.1)).1,y.2.1.take y.1++(gS b slop (lists.drop y.1) (y.2.1.drop y.1)).2)) (λy=>[(11,.bool y.2.2),(25,iN y.1)]) [(1,_),(2,_),(7,_),(8,_),(10,_),(17,_),(18,_),(19,_),(23,_),(24,_)] (λy=>[Row r eI (dT y.2.1)]) _ (λy=>lists.length-y.1) ((0,hd,true)) (h0:=?_) (k:=?_))
  ·exact⟨Yl _,hdl,aq⟩
  rintro⟨j,he,w⟩ ⟨hj,n,B⟩
  try dsimp only[Yd,Ye]at*
  refine gW (λh2=>?_) λh2=>?_
  ·obtain⟨l,hl⟩:=gE lists j;obtain⟨s,hs⟩:=gE ss j;obtain⟨a,ha⟩:=gE he j;haveI hsj:Sl H s eI l:=S j s l hs hl;have hlen:=N l (Yj hl);have R:=(Yk.1 ha).1;have z:he.set j a=he:=by rw[←(Yk.1 ha).2,List.set_getElem_self]
   refine wk_ (qn_ (ws_ (wb_ (ws_ (wr_ (e_ mv (e_ ixa (e_ (lel (hy:=hs)) (go ?_)))))))));refine gk (k:=e8 ((List Nat)×Nat) (λy=>y.1=he.set j y.2∧(y.2=a∨y.2≤l.length)∧gG l y.2 b=gG l a b) (λy=>[]) [(1,_),(2,_),(7,_),(8,_),(10,_),(11,_),(12,_),(13,_),(17,_),(18,_),(19,_),(23,_),(24,_),(25,_)] (λy=>[Row r eI (dT y.1)]) _ (λy=>l.length-y.2) ((he,a)) (h0:=?_) (k:=?_))
   ·exact⟨z.symm,.inl rfl,rfl⟩
   rintro⟨T,m⟩ ⟨f,hm,t⟩
   try dsimp only[Yd,Ye]at*
   have e:(dT T)[j]? =some (m:Int):=by rw[f];exact gh (Ue R)
   have hrl:(dT T).length=lists.length:=by rw[eJ,f,Ub,n]
   obtain⟨x,hx⟩:∃x:Int,m<l.length→l[m]? =some x:=by
    by_cases h9:m<l.length
    ·exact⟨l[m],λ_=>Yi h9⟩
    ·exact⟨0,λh=>absurd h h9⟩
   refine ws_ (ws_ (wr_ (e_ mv (e_ mv (e_ ixa (e_ (lel (hy:=e)) (gk (k:=dV 10 47 (c:=decide (x<b)) (k:=λh4=>?_) (q:=?_)))))))))
   ·have F:=hx aJ;refine eg_ mv (eg_ mv (eg_ mv (eg_ ixa (eg_ (lel (hy:=e)) (eg_ ixa (eg_ (lel (hy:=F)) (gk (k:=edq))))))))
   refine gW (λh5=>?_) λh5=>?_
   ·have L:m<l.length:=by have h9:=h5;omega
    have C:x<b:=aW;refine wk_ (qn_ (wb_ (wr_ (e_ mv (e_ mv (e_ ixa (e_ (lel (hy:=e)) (go ?_))))))));refine s_ (et (a:=((m+1:Nat):Int)) rfl rfl bH a8) ?_;rintro _ _ ⟨rfl,rfl⟩;rw[LC,f,List.set_set];refine go ?_;refine lN ((he.set j (m+1),m+1)) ?_
    try dsimp only
    exact⟨rfl,.inr a8,by rw[←t,Oa (hx L) C]⟩
   have K:gG l m b=m:=by
    by_cases h8:m<l.length
    ·exact Oc (hx h8) aW
    ·exact Kb a8
   rw[K]at t;have p:=MR hl ha B;rw[←t,LY hx,←Bool.and_assoc]at p;refine we_ (qe_ (le_ (bh_ (qn_ (wr_ (e_ mv (e_ mv (dV 8 63 (k:=λh6=>eg_ mv (eg_ mv (eg_ ixa (eg_ (lel (hy:=e)) (eg_ mv (eg_ lnn (eg_ ilt (e_ pkt (on_ edq))))))))) (q:=e_ mv (dV 12 76 (c:=decide (x≤b+slop)) (k:=λh8=>?_) (q:=?_)))))))))))
   ·have E:=hx (by have h9:=h8;omega);refine eg_ mv (eg_ mv (eg_ mv (eg_ ixa (eg_ (lel (hy:=e)) (eg_ ixa (eg_ (lel (hy:=E)) (gk (k:=edq))))))))
   refine go ?_;refine lN ((j+1,T,w&&decide (((m:Nat):Int)<((l.length:Nat):Int))&&decide (x≤b+slop))) ?_
   try dsimp only
   exact⟨a8,by rw[f,Ub,n],by rw[f];exact p⟩
  obtain rfl:j=lists.length:=a8;have g:=Qn rfl n B;rw[g]at d;refine gW (λh9=>?_) λh9=>?_
  ·have J:w=true:=h9;rw[J]at d;simp only[if_true]at d;refine go ?_;refine lN ((i+1,he,u+1)) ?_
   exact⟨a8,n,a8,a8⟩
  have J:w=false:=by have h9:=h9;simpa using h9
  rw[J]at d;simp only[Xx,if_false]at d;refine go ?_;refine lN ((i+1,he,u)) ?_
  exact⟨a8,n,a8,a8⟩
 have g:u=kd slop lists all (List.replicate lists.length 0):=by
  rw[S7 ao,kd]at d;omega
 refine gR ?_;exact⟨_,hsb,by rw[g];all_goals rfl,rfl⟩
end
section
variable {H:dD}{i:Nat}{l offs:List Int}{lists:List (List Nat)}{slop:Int}{α:Type}
def ph:Prop:=∀(G:dJ) (H R:dD) (s:SV) (xs:List Int),mh H s eI xs R→xs.length≤1000000000000→SC G prog 184 [s.val] H (λv H'=>v=.tuple #[]∧H'=Row s eI (jO xs)::R)
def jf:Prop:=∀(G:dJ) (H R:dD) (s:SV) (xs:List Int),mh H s eI xs R→xs.length≤1000000000000→SC G prog 186 [s.val] H (λv H'=>∃s':SV,v=s'.val∧H'=Row s' eI (kc xs)::R)
theorem vh (x:Int):∀l:List Int,(It x l).Perm (x::l)
 | []=>.refl _
 |y::l=>by
  rw[It]
  split
  ·exact .refl _
  ·exact((vh x l).cons y).trans (.swap x y l)
theorem jN:∀l:List Int,(jO l).Perm l
 | []=>.refl _
 |x::l=>(vh x (jO l)).trans ((jN l).cons x)
theorem rA (l:List Int):(jO l).length=l.length:=(jN l).length_eq
theorem zd {x:Int}(h:x∈jO l):x∈l:=(jN l).mem_iff.1 h
theorem rh:∀{l:List Int}{x:Int},x∈kc l→x∈l
 | [],x,h=>h
 | [y],x,h=>h
 |y::z::l,x,h=>by
  rw[kc]at h
  split at h
  ·exact Xa _ (rh h)
  ·rcases Xo.1 h with rfl|h
   ·simp
   ·exact Xa _ (rh h)
theorem um:∀l:List Int,(kc l).length≤l.length
 | []=>Xl _
 | [y]=>Xl _
 |y::z::l=>by
  rw[kc];have h:=um (z::l)
  split
  ·simp only[Yb]at h⊢;omega
  ·simp only[Yb]at h⊢;omega
theorem qO:∀{lists:List (List Nat)}{offs:List Int}{i:Nat}{l:List Nat}{o:Int},lists[i]? =some l→offs[i]? =some o→gX (lists.take (i+1)) (offs.take (i+1))=gX (lists.take i) (offs.take i)++ [sR l o]
 | [],_,_,_,_,h,_=>aK
 |_::_, [],_,_,_,_,h=>aK
 |l0::ls,o0::os,0,l,o,h1,h2=>by
  simp only[Xb,Option.some.injEq]at h1 h2;subst h1;subst h2;rfl
 |l0::ls,o0::os,i+1,l,o,h1,h2=>by
  simp only[Xc]at h1 h2;have:=qO h1 h2;simp only[Vq,gX,Yd]at this⊢;rw[this]
theorem xf:∀{lists:List (List Nat)}{offs:List Int},lists.length=offs.length→(gX lists offs).length=lists.length
 | [], [],_=>rfl
 | [],_::_,h=>aK
 |_::_, [],h=>aK
 |l::ls,o::os,h=>by simp only[gX,Yb];rw[xf bA]
theorem Oj (A B:List α) (s t:α) (h:A.length=i):(A++s::B).set i t=A++t::B:=by
 subst h;rw[Ux _ _ (Xl _),Ui];all_goals rfl
theorem Py (A B:List α) (s:α) (h:A.length=i):(A++s::B)[i]? =some s:=by
 subst h;rw[Yu (Xl _),Ui];all_goals rfl
theorem C4 {l:List (List Nat)}{x:List Nat}(h:l[i]? =some x):((l.take (i+1)).map List.length).sum=((l.take i).map List.length).sum+x.length:=by
 rw[dK h];simp
theorem Ay (l:List (List Nat)) (i:Nat):((l.take i).map List.length).sum≤(l.map List.length).sum:=by
 have:=congrArg (λz=>(z.map List.length).sum) (Vd i l);simp only[Xp,S3]at this;omega
def shH (z:SV×List Int):dD:= [Row z.1 eI z.2]
theorem Gh {l:List (SV×List Int)}(s:SV) (ys:List Int):dH (Row s eI ys::Cl shH l::H) (Cl shH (l++ [(s,ys)])::H):=o4 (f:=shH) (s,ys)
theorem xz {l:List Nat}{p:Nat}(h1:l∈lists) (h2:p∈l) (h3:2147483646<p):jF lists offs slop=0:=by
 unfold jF;rw[if_pos];rw[S8];exact⟨l,h1,by rw[S8];exact⟨p,h2,Ys h3⟩⟩
theorem vR (h:∀l∈lists,∀p∈l,p≤2147483646):jF lists offs slop=kd slop (gX lists offs) (kc (jO (gX lists offs).flatten)) (List.replicate lists.length 0):=by
 unfold jF;rw[if_neg];rw[S8];rintro⟨l,h1,h2⟩;rw[S8]at h2;obtain⟨p,h3,h4⟩:=h2;have:=h l h1 p h3;have:=Yt h4;omega
theorem Wq {zs:List (SV×List Int)}{rw:List SV}{q:Nat}{s:SV}(a:rw=zs.map (·.1)) (h1:rw[q]? =some s) (h2:(zs.map (·.2))[q]? =some l) (h:∀z∈zs,Sl H z.1 eI z.2):Sl H s eI l:=by
 subst a;rw[Xd]at h1 h2;cases hz:zs[q]? with
 |none=>rw[hz]at h1;cases h1
 |some z=>
  rw[hz]at h1 h2;obtain rfl:=Xk h1;obtain rfl:=Xk h2;exact h z (Yj hz)
theorem CU:∀{L:List (List Int)}{l:List Int},l∈L→l.length≤L.flatten.length
 | [],_,h=>bx
 |x::L,l,h=>by
  rw[List.flatten_cons,Ya];rcases Xo.1 h with rfl|h
  ·omega
  ·have:=CU h;omega
theorem BV {G:dJ}{sl U:SV}{ss:List SV} [hsl:Sl H sl eSV ss] [hso:Sl H U eI offs] (hS:ph) (hC:jf) (a4:ss.length=lists.length) (a5:∀(i:Nat) (s:SV) (l:List Nat),ss[i]? =some s→lists[i]? =some l→Sl H s eI (dT l)) (hlo:lists.length=offs.length) (hn0:0<lists.length) (hn:lists.length≤100000000) (L:∀o∈offs,0≤o∧o≤2147483646) (Z:0≤slop) (Y:slop≤2147483647) (htot:(lists.map List.length).sum≤1000000000000):
 SC G prog 135 [sl.val,U.val,.int .i64 slop] H (λv H'=>v=iN (jF lists offs slop)∧H'=H):=by
 refine sWk func135 ?_;refine ws_ (wr_ (e_ asn (on_ (qn_ (ws_ (ws_ (wr_ (e_ mv (e_ lnn (e_ ieq (e_ mv (ep 6 22 (k:=λh1=>eg_ mv (eg_ lnn (eg_ mv (eg_ lnn (eg_ ine (e_ pkf (on_ edq))))))) (q:=e_ mv ?_)))))))))))));refine ep 3 26 (k:=λh2=>eg_ mv (eg_ ilt (e_ pkf (on_ edq)))) (q:=e_ mv (ep 3 30 (k:=λh3=>eg_ mv (eg_ igt (e_ pkf (on_ edq)))) (q:=on_ (qn_ (wi_ (k:=λh4=>?_) (m:=λh4=>?_))))))
 ·exact absurd h4 aQ
 refine go ?_;refine s_ (gn eSV SV.nil rfl rfl _ _ rfl rfl rfl a8 a8 a8) ?_;rintro _ _ ⟨a,rfl,hs33n,hs33c,rfl⟩;refine e_ asn (on_ (qn_ (ws_ (ws_ (wr_ ?_)))));refine eu ((dH.nilRow (e:=eI) dH.refl).trans (ga (f:=shH) dH.refl)) ?_;refine gk (k:=e8 (Nat×(List (SV×List Int))×(List SV)×SV×(List Int)) (λy=>y.1≤lists.length∧y.2.1.length=y.1∧y.2.2.1=y.2.1.map (·.1)++List.replicate (lists.length-y.1) SV.nil∧y.2.1.map (·.2)=gX (lists.take y.1) (offs.take y.1)∧y.2.2.2.2=(y.2.1.map (·.2)).flatten∧y.2.2.2.2.length≤((lists.take y.1).map List.length).sum∧(∀l∈lists.take y.1,∀p∈l,p≤2147483646)∧∀x∈y.2.2.2.2, -2147483646≤x∧x≤2147483646) (λy=>[(7,y.2.2.2.1.val),(36,iN y.1)]) [(1,_),(2,_),(8,_),(34,_),(35,_)] (λy=>[Row a eSV y.2.2.1,Cl shH y.2.1,Row y.2.2.2.1 eI y.2.2.2.2]) _ (λy=>lists.length-y.1) ((0, [],List.replicate ss.length SV.nil,SV.nil, [])) (h0:=?_) (k:=?_))
 ·try dsimp only
  exact⟨Yl _,rfl,by rw[a4];all_goals rfl,by simp[gX],rfl,Yl _,aq,aq⟩
 rintro⟨i,zs,rw,sa,B⟩ ⟨hi,hzl,c,hzs,A,hall,u,T⟩
 try dsimp only[Yd,Ye]at*
 refine gW (λh5=>?_) λh5=>?_
 ·obtain⟨l,hl⟩:=gE lists i;obtain⟨s0,hs0⟩:=gE ss i;obtain⟨o,M⟩:=gE offs i;haveI hsi:Sl H s0 eI (dT l):=a5 i s0 l hs0 hl;have hob:=L o (Yj M);have a3:=Yj hl;have hsum:=C4 hl;have J:=Ay lists (i+1);have hil:=eJ l;have F:(zs.map (·.1)).length=i:=cj;have K:rw=zs.map (·.1)++SV.nil::List.replicate (lists.length-i-1) SV.nil:=by
   rw[c,show lists.length-i=(lists.length-i-1)+1 from a8,V6];all_goals rfl
  refine wk_ (qn_ (ws_ (wb_ (ws_ (wr_ (e_ mv (e_ ixa (e_ (lel (hy:=hs0)) (e_ asn (e_ asn (on_ (qn_ (ws_ ?_)))))))))))));refine ws_ (wr_ (e_ mv (e_ mv (e_ ixa (e_ (lel (hy:=M)) (e_ ilt (e_ mv (ep 6 52 (k:=λh6=>eg_ mv (eg_ mv (eg_ ixa (eg_ (lel (hy:=M)) (eg_ igt (e_ pkf (on_ edq))))))) (q:=on_ (qn_ (wi_ (k:=λh7=>?_) (m:=λh7=>?_))))))))))))
  ·exact absurd h7 a8
  refine wk_ (qn_ (ws_ (ws_ (wr_ ?_))));refine eu (dH.nilRow (e:=eI) dH.refl) ?_;refine gk (k:=e8 (Nat×SV×(List Int)×(List SV)) (λy=>y.1≤l.length∧y.2.2.2=zs.map (·.1)++y.2.1::List.replicate (lists.length-i-1) SV.nil∧y.2.2.1=(l.take y.1).map (λp:Nat=>(p:Int)-o)∧∀p∈l.take y.1,p≤2147483646) (λy=>[(55,iN y.1)]) [(1,_),(2,_),(7,_),(8,_),(9,_),(34,_),(35,_),(36,_),(53,_),(54,_)] (λy=>[Row a eSV y.2.2.2,Row y.2.1 eI y.2.2.1]) _ (λy=>l.length-y.1) ((0,SV.nil, [],rw)) (h0:=?_) (k:=?_))
  ·exact⟨Yl _,K,rfl,aq⟩
  rintro⟨j,s,d,n⟩ ⟨hj,t,b,g⟩
  try dsimp only[Yd,Ye]at*
  have h:n[i]? =some s:=by rw[t];exact Py _ _ _ F
  have hyl:d.length=j:=by rw[b,Yh,Yg];omega
  have V:i<n.length:=(Yk.1 h).1;refine gW (λh8=>?_) λh8=>?_
  ·obtain⟨p,hp⟩:=gE l j;have a0:(dT l)[j]? =some ((p:Nat):Int):=gh hp;have N:l.length≤1000000000000:=a8;refine wk_ (qn_ (ws_ (wb_ (ws_ (wr_ (e_ ixa (e_ (lel (hy:=a0)) (e_ asn (on_ (qn_ (ws_ (ws_ (wr_ ?_)))))))))))));refine e_ mv (e_ ilt (e_ mv (ep 3 64 (k:=λh9=>eg_ mv (eg_ igt (e_ pkf (on_ edq)))) (q:=on_ (qn_ (wi_ (k:=λh10=>?_) (m:=λh10=>?_)))))))
   ·have hbad:=xz (offs:=offs) (slop:=slop) a3 (Yj hp) cg;refine go ?_;refine gR ?_;exact⟨_,hsb,cE,rfl⟩
   have a2:p≤2147483646:=cg;refine go ?_;refine wD [12,13,15] (λk H=>(k=4→Sl H a eSV n)∧(k=5→Sl H a eSV n)∧(k=9→Sl H U eI offs)∧(k=10→Sl H U eI offs)∧(k=14→Sl H a eSV n)) (aF 0 (k:=aF 1 (k:=aF 2 (k:=aF 3 (k:=?_)))));refine aN 4 rfl (λH hH=>by have hN:=hH.1 rfl;exact ixa) ?_;refine aN 5 rfl (λH hH=>by have hN:=hH.2.1 rfl;exact lel (hy:=h)) ?_;refine aF 6 (k:=aF 7 (k:=aF 8 (k:=?_)));refine aN 9 rfl (λH hH=>aG) ?_;refine aN 10 rfl (λH hH=>by have hN:=hH.2.2.2.1 rfl;exact lel (hy:=M)) (go ?_);refine aS 12 rfl (fK eI rfl rfl) ?_;rintro _ _ ⟨s77,rfl,rfl⟩;refine aS 13 rfl (gf rfl rfl rfl rfl ab ab) ?_;rintro _ _ ⟨E,rfl,rfl⟩;refine go ?_;refine aS 15 rfl (et (i:=i) rfl rfl bH V) ?_;rintro _ _ ⟨rfl,rfl⟩;refine aZ (go ?_);refine lN ((j+1,E,d++ [((p:Nat):Int)-o],n.set i E)) ?_
   try dsimp only
   exact⟨a8,by rw[t,Oj _ _ _ _ F],by rw[dK hp,Xp,←b];all_goals rfl,λq hq=>by
    rw[dK hp]at hq;rcases Xm.1 hq with hq|hq
    ·exact g q hq
    ·rw[Vb.1 hq];exact a2⟩
  obtain rfl:j=l.length:=a8;rw[Xn]at b g;have X:jO d=sR l o:=by rw[b];all_goals rfl
  have N:l.length≤1000000000000:=a8;have r:=rA d;refine we_ (qe_ (le_ (bh_ (qn_ (ws_ (wr_ (e_ mv (e_ mv (e_ ixa (e_ (lel (hy:=h)) ?_))))))))));refine d1_ rfl (hS _ _ _ s d inferInstance a8) (on_ (qn_ (wr_ (e_ mv (e_ mv (e_ mv (e_ ixa (e_ (lel (hy:=h)) (app (k:=λC=>?_))))))))));refine e_ asn (on_ (bn_ (qn_ (wr_ ?_))));refine eu (dH.trans (H':=Row s eI (jO d)::Cl shH zs::Row a eSV n::Row C eI (B++jO d)::H) hsb (Gh s (jO d))) ?_;refine go ?_;refine lN ((i+1,zs++ [(s,jO d)],n,C,B++jO d)) ?_
  try dsimp only
  exact⟨a8,by rw[Ya,hzl];all_goals rfl,by rw[t,Xp,Nat.sub_sub];simp,by rw[Xp,hzs,qO hl M,←X];all_goals rfl,by rw[Xp,List.flatten_append,←A];simp,bz,λl2 S q hq=>by
   rw[dK hl]at S;rcases Xm.1 S with h9|h9
   ·exact u l2 h9 q hq
   ·rw[Vb.1 h9]at hq;exact g q hq,λx hx=>by
   rcases Xm.1 hx with h9|h9
   ·exact T x h9
   ·have h8:=zd h9;rw[b,Xt]at h8;obtain⟨q,a1,hq2⟩:=h8;have:=g q a1;omega⟩
 obtain rfl:i=lists.length:=a8;have J:=Ay lists lists.length;rw[Xn]at u;rw[Xr (Xl _),Xr a8]at hzs;have w:=vR (offs:=offs) (slop:=slop) u;have r:=rA B;have hdlen:=um (jO B);rw[Ui,List.replicate_zero,Ym]at c;refine go ?_;refine d1_ rfl (hS _ _ _ sa B inferInstance a8) (go ?_);refine c1_ rfl (hC _ _ _ sa (jO B) inferInstance a8) ?_;rintro _ _ ⟨s96,rfl,rfl⟩;refine go ?_;refine d3_ rfl (O1 (ss:=rw) (lists:=zs.map (·.2)) (all:=kc (jO B)) (by rw[c,Yh,Yh]) (λq s l h1 h2=>Wq c h1 h2 (λz hz=>by haveI:∀R,Sl (Cl shH zs::R) z.1 eI z.2:=λR=>MK (Vh.1 hz).choose_spec (λR=>(inferInstance:Sl (Row z.1 eI z.2::R) z.1 eI z.2));infer_instance)) (by rw[c,Yh];omega) Z Y a8 (λx hx=>by have:=T x (zd (rh hx));omega) (λl hl=>by have:=CU hl;rw[←A]at this;omega)) (gR ?_);exact⟨_,hsb,by rw[w,←hzs,←A,Yh,hzl];all_goals rfl,rfl⟩
end
section
variable {M S:List (List Int)}{a:Nat}{b slop:Int}{l:List Int}
theorem GO (x:Int):∀{l:List Int},l.Pairwise (· ≤ ·)→(It x l).Pairwise (· ≤ ·)
 | [],_=>Uk ..
 |y::l,h=>by
  obtain⟨h1,h2⟩:=Vl.1 h;rw[It]
  split
  ·rename_i a;refine Vl.2 ⟨λz hz=>?_,h⟩;rcases Xo.1 hz with rfl|hz
   ·exact a
   ·have:=h1 z hz;omega
  ·rename_i a;refine Vl.2 ⟨λz hz=>?_,GO x h2⟩;rcases Xo.1 ((vh x l).mem_iff.1 hz)with rfl|hz
   ·omega
   ·exact h1 z hz
theorem tD:∀l:List Int,(jO l).Pairwise (· ≤ ·)
 | []=>List.Pairwise.nil
 |x::l=>GO x (tD l)
abbrev Asc (l:List Int):Prop:=l.Pairwise (· < ·)
theorem wF:∀{l:List Int}{x:Int},x∈l→x∈kc l
 | [],_,h=>h
 | [y],_,h=>h
 |y::z::l,x,h=>by
  rw[kc]
  split
  ·rename_i e;rcases Xo.1 h with rfl|h
   ·exact wF (e ▸ Yz)
   ·exact wF h
  ·rcases Xo.1 h with rfl|h
   ·exact Yz
   ·exact Xa _ (wF h)
theorem yt:∀{l:List Int},l.Pairwise (· ≤ ·)→Asc (kc l)
 | [],_=>List.Pairwise.nil
 | [y],_=>Uk ..
 |y::z::l,h=>by
  obtain⟨h1,h2⟩:=Vl.1 h;rw[kc]
  split
  ·exact yt h2
  ·rename_i hne;refine Vl.2 ⟨λx hx=>?_,yt h2⟩;have a:=rh hx;have h3:=h1 z Yz;rcases Xo.1 a with rfl|hx3
   ·omega
   ·have:=(Vl.1 h2).1 x hx3;omega
theorem Ht:∀{a b:List Int},Asc a→Asc b→(∀x,x∈a↔x∈b)→a=b
 | [], [],_,_,_=>rfl
 | [],y::b,_,_,h=>by have:=(h y).2 Yz;cases this
 |x::a, [],_,_,h=>by have:=(h x).1 Yz;cases this
 |x::a,y::b,ha,hb,h=>by
  obtain⟨e,i⟩:=Vl.1 ha;obtain⟨d,g⟩:=Vl.1 hb;have f:x=y:=by
   rcases Xo.1 ((h x).1 Yz)with h1|h1
   ·exact h1
   ·rcases Xo.1 ((h y).2 Yz)with h2|h2
    ·exact h2.symm
    ·have:=d x h1;have:=e y h2;omega
  subst f;congr 1;refine Ht i g λz=>⟨λc=>?_,λc=>?_⟩
  ·rcases Xo.1 ((h z).1 (Xa _ c))with rfl|h1
   ·have:=e z c;omega
   ·exact h1
  ·rcases Xo.1 ((h z).2 (Xa _ c))with rfl|h1
   ·have:=d z c;omega
   ·exact h1
def kC (b slop:Int) (l:List Int):Bool:=l.any λx=>decide (b≤x)&&decide (x≤b+slop)
theorem uZ:kC b slop l=true↔∃x∈l,b≤x∧x≤b+slop:=by
 rw[kC,S8];exact⟨λ⟨x,h1,h2⟩=>⟨x,h1,cD⟩,λ⟨x,h1,h2⟩=>⟨x,h1,cD⟩⟩
def nL (b:Int):List (List Int)→List Nat→Prop
 | [], []=>True
 |l::ls,a::as_=>(∀x∈l.take a,x<b)∧nL b ls as_
 |_,_=>False
theorem nL.zero (b:Int):∀ls:List (List Int),nL b ls (List.replicate ls.length 0)
 | []=>trivial
 |l::ls=>⟨λx hx=>by simp at hx,nL.zero b ls⟩
theorem nL.mono {c:Int}(h:b≤c):∀{ls:List (List Int)}{as_:List Nat},nL b ls as_→nL c ls as_
 | [], [],_=>trivial
 |l::ls,a::as_,hh=>⟨λx hx=>by have:=hh.1 x hx;omega,hh.2.mono h⟩
 | [],_::_,hh=>hh.elim
 |_::_, [],hh=>hh.elim
theorem Gg (h:∀x∈l.take a,x<b):∀x∈l.take (gG l a b),x<b:=λx hx=>by
 rw[gG,List.take_add]at hx;rcases Xm.1 hx with hx|hx
 ·exact h x hx
 ·obtain⟨j,hj⟩:=Vo hx;rw[X3]at hj
  split at hj
  ·rename_i c;have h5:=List.not_of_lt_findIdx c;have h6:=(Yk.1 hj).2;rw[h6]at h5;have:=of_decide_eq_false h5;omega
  ·cases hj
theorem Ob {x:Int}(h:l[gG l a b]? =some x):b≤x:=by
 rw[gG,←Xh]at h;have c:=(Yk.1 h).1;have h5:=List.findIdx_getElem (w:=c);rw[(Yk.1 h).2]at h5;exact Yt h5
theorem zD (hs:l.Pairwise (· ≤ ·)) (h:∀x∈l.take a,x<b):pX l (gG l a b) b slop=kC b slop l:=by
 have h1:=Gg h;have h2:=λx=>Ob (l:=l) (a:=a) (b:=b) (x:=x);generalize gG l a b=q at*;rw[U2,uZ,pX];have hc:∀y∈l,b≤y→∃x,l[q]? =some x∧x≤y:=λy hy hb=>by
  obtain⟨j,hj⟩:=Vo hy;have f:=(Yk.1 hj).1;have e:q≤j:=by
   rcases Us j q with c|hge
   ·have:=h1 y (Yj (by rw[X3,if_pos c];exact hj));omega
   ·exact hge
  refine⟨_,Yi a8,?_⟩;rcases Uq e with c|rfl
  ·have:=T4.1 hs q j a8 f c;rw[(Yk.1 hj).2]at this;exact this
  ·rw[(Yk.1 hj).2];exact T8 _
 constructor
 ·intro d;cases hx:l[q]? with
  |none=>rw[hx]at d;cases d
  |some x=>rw[hx]at d;exact⟨x,Yj hx,h2 x hx,Yt d⟩
 ·rintro⟨y,hy,g,hb2⟩;obtain⟨x,hx,hxy⟩:=hc y hy g;rw[hx];exact Ys a8
theorem DM {b slop:Int}:∀{ls:List (List Int)}{as_:List Nat},(∀l∈ls,l.Pairwise (· ≤ ·))→nL b ls as_→(gS b slop ls as_).1=ls.all (kC b slop)∧nL b ls (gS b slop ls as_).2
 | [], [],_,_=>⟨rfl,trivial⟩
 |l::ls,a::as_,hs,hh=>by
  obtain⟨h1,h2⟩:=DM (slop:=slop) (λl hl=>hs l (Xa _ hl)) hh.2;rw[gS,List.all_cons];exact⟨by rw[h1,zD (hs l Yz) hh.1],Gg hh.1,h2⟩
 | [],_::_,_,hh=>hh.elim
 |_::_, [],_,hh=>hh.elim
theorem A8 {slop:Int}{ls:List (List Int)}(hs:∀l∈ls,l.Pairwise (· ≤ ·)):∀{D:List Int}{as_:List Nat},Asc D→(∀b,D.head? =some b→nL b ls as_)→kd slop ls D as_=(D.filter λb=>ls.all (kC b slop)).length
 | [],_,_,_=>rfl
 |b::D,as_,hD,hh=>by
  obtain⟨h1,h2⟩:=Vl.1 hD;obtain⟨h3,h4⟩:=DM (slop:=slop) hs (hh b rfl);have ih:=A8 (slop:=slop) hs h2 (as_:=(gS b slop ls as_).2) (λc hc=>h4.mono (by
   have:=h1 c (List.mem_of_mem_head? hc);omega))
  rw[kd,ih,h3,List.filter_cons]
  split <;> simp <;> omega
def sJ (S M:List (List Int)):Prop:=S.length=M.length∧∀(i:Nat) (s m:List Int),S[i]? =some s→M[i]? =some m→∀x,x∈s↔x∈m
theorem sJ.all:∀{S M:List (List Int)},sJ S M→S.all (kC b slop)=M.all (kC b slop)
 | [], [],_=>rfl
 | [],_::_,h=>by have:=h.1;cases this
 |_::_, [],h=>by have:=h.1;cases this
 |s::S,m::M,h=>by
  have h1:=h.2 0 s m rfl rfl;have a:S.all (kC b slop)=M.all (kC b slop):=sJ.all ⟨by have:=h.1;simpa using this,λi s m c hm=>h.2 (i+1) s m c hm⟩;rw[List.all_cons,List.all_cons,a,U2.2 (show kC b slop s=true↔kC b slop m=true from by rw[uZ,uZ];exact⟨λ⟨x,h2,h3⟩=>⟨x,(h1 x).1 h2,h3⟩,λ⟨x,h2,h3⟩=>⟨x,(h1 x).2 h2,h3⟩⟩)]
theorem sJ.mem (h:sJ S M) (x:Int):(∃s∈S,x∈s)↔∃m∈M,x∈m:=by
 constructor
 ·rintro⟨s,a,hx⟩;obtain⟨i,hi⟩:=Vo a;have b:=(Yk.1 hi).1;have hm:M[i]? =some (M[i]'(by have:=h.1;omega)):=Yi _;exact⟨_,Yj hm,(h.2 i s _ hi hm x).1 hx⟩
 ·rintro⟨m,hm,hx⟩;obtain⟨i,hi⟩:=Vo hm;have b:=(Yk.1 hi).1;have a:S[i]? =some (S[i]'(by have:=h.1;omega)):=Yi _;exact⟨_,Yj a,(h.2 i _ m a hi x).2 hx⟩
theorem sJ.snoc {s m:List Int}(h:sJ S M) (hx:∀x,x∈s↔x∈m):sJ (S++ [s]) (M++ [m]):=by
 refine⟨by simp[h.1],λi a b ha c=>?_⟩;rcases Us i S.length with hi|hi
 ·rw[Yv hi]at ha;rw[Yv (by have:=h.1;omega)]at c;exact h.2 i a b ha c
 ·have h1:=(Yk.1 ha).1;have h2:=h.1;have d:i=S.length:=by simp at h1;omega
  subst d;rw[Yu (Xl _),Ui]at ha;rw[h2,Yu (Xl _),Ui]at c;cases ha;cases c;exact hx
theorem ze:∀{lists:List (List Nat)}{offs:List Int},∀l∈gX lists offs,l.Pairwise (· ≤ ·)
 | [],_,l,h=>by simp[gX]at h
 |_::_, [],l,h=>by simp[gX]at h
 |a::ls,o::os,l,h=>by
  rw[gX]at h;rcases Xo.1 h with rfl|h
  ·exact tD _
  ·exact ze l h
theorem Ep {l:List Nat}{o x:Int}:x∈sR l o↔∃p∈l,x=(p:Int)-o:=by
 rw[sR,(jN _).mem_iff,Xt];exact⟨λ⟨p,h1,h2⟩=>⟨p,h1,h2.symm⟩,λ⟨p,h1,h2⟩=>⟨p,h1,h2.symm⟩⟩
theorem Ie {lists:List (List Nat)}{offs:List Int}{D:List Int}(c:∀l∈lists,∀p∈l,p≤2147483646) (hl:lists.length=offs.length) (hs:sJ (gX lists offs) M) (a:Asc D) (hm:∀x,x∈D↔∃m∈M,x∈m):jF lists offs slop=(D.filter λb=>M.all (kC b slop)).length:=by
 rw[vR c,←xf hl];have hd:kc (jO (gX lists offs).flatten)=D:=Ht (yt (tD _)) a λx=>by
  rw[hm x,←hs.mem x]
  constructor
  ·intro h;exact List.mem_flatten.1 ((jN _).mem_iff.1 (rh h))
  ·intro h;exact wF ((jN _).mem_iff.2 (List.mem_flatten.2 h))
 rw[hd,A8 ze a λb _=>nL.zero b _];exact congrArg (λf=>(D.filter f).length) (funext λb=>hs.all)
end
section
variable {i i':Nat}{l:List Int}{x:Int}
structure UnI (a b out:List Int) (i j:Nat):Prop where
 up:Asc out
 mem:∀x,x∈out↔x∈a.take i∨x∈b.take j
 la:∀x∈out,∀y∈a.drop i,x<y
 lb:∀x∈out,∀y∈b.drop j,x<y
 len:out.length≤i+j
def rl (l:List Int) (i i':Nat) (x:Int):Prop:=(i'=i+1∧l[i]? =some x)∨(i'=i∧∀y∈l.drop i,x<y)
theorem UnI.zero (a b:List Int):UnI a b [] 0 0:=⟨List.Pairwise.nil,aq,aq,aq,Xl _⟩
theorem yA (h:Asc l) (hx:l[i]? =some x):∀y∈l.drop (i+1),x<y:=λy hy=>by
 obtain⟨j,hj⟩:=Vo hy;rw[Xh]at hj;obtain⟨h1,h2⟩:=Yk.1 hx;obtain⟨h3,h4⟩:=Yk.1 hj;have:=T4.1 h i (i+1+j) h1 h3 a8;rw[h2,h4]at this;exact this
theorem rl.low (h:Asc l) (hs:rl l i i' x):∀y∈l.drop i',x<y:=by
 rcases hs with⟨rfl,hx⟩|⟨rfl,hx⟩
 ·exact yA h hx
 ·exact hx
theorem rl.sub (hs:rl l i i' x):∀y∈l.drop i',y∈l.drop i:=by
 rcases hs with⟨rfl,hx⟩|⟨rfl,hx⟩
 ·intro y hy;rw[eh hx];exact Xa _ hy
 ·exact λy hy=>hy
theorem rl.take (hs:rl l i i' x) (y:Int):y∈l.take i'↔y∈l.take i∨(i'=i+1∧y=x):=by
 rcases hs with⟨rfl,hx⟩|⟨rfl,hx⟩
 ·rw[dK hx];simp
 ·constructor
  ·exact .inl
  ·rintro(h|h)
   ·exact h
   ·omega
theorem UnI.step {a b out:List Int}{j d:Nat}(h:UnI a b out i j) (ha:Asc a) (f:Asc b) (hx:x∈a.drop i∨x∈b.drop j) (h1:rl a i i' x) (h2:rl b j d x):UnI a b (out++ [x]) i' d:=by
 have c:i'=i+1∨d=j+1:=by
  rcases hx with hx|hx
  ·rcases h1 with h1|h1
   ·exact .inl h1.1
   ·have:=h1.2 x hx;omega
  ·rcases h2 with h2|h2
   ·exact .inr h2.1
   ·have:=h2.2 x hx;omega
 have e:∀z∈out,z<x:=λz hz=>by
  rcases hx with hx|hx
  ·exact h.la z hz x hx
  ·exact h.lb z hz x hx
 refine⟨Uj.2 ⟨h.up,Uk ..,λz hz y hy=>by rw[Vb.1 hy];exact e z hz⟩,λz=>?_,λz hz y hy=>?_,λz hz y hy=>?_,?_⟩
 ·rw[Xm,Vb,h.mem z,h1.take z,h2.take z]
  constructor
  ·rintro((g|g)|rfl)
   ·exact .inl (.inl g)
   ·exact .inr (.inl g)
   ·rcases c with g|g
    ·exact .inl (.inr ⟨g,rfl⟩)
    ·exact .inr (.inr ⟨g,rfl⟩)
  ·rintro((g|g)|(g|g))
   ·exact .inl (.inl g)
   ·exact .inr g.2
   ·exact .inl (.inr g)
   ·exact .inr g.2
 ·rcases Xm.1 hz with hz|hz
  ·exact h.la z hz y (h1.sub y hy)
  ·rw[Vb.1 hz];exact h1.low ha y hy
 ·rcases Xm.1 hz with hz|hz
  ·exact h.lb z hz y (h2.sub y hy)
  ·rw[Vb.1 hz];exact h2.low f y hy
 ·have:=h.len;rw[Ya,Ul];rcases h1 with h1|h1 <;> rcases h2 with h2|h2 <;> omega
theorem rj (h:Asc l) (hx:l[i]? =some x):∀y∈l.drop i,x≤y:=λy hy=>by
 rw[eh hx]at hy;rcases Xo.1 hy with rfl|hy
 ·exact T8 _
 ·exact Int.le_of_lt (yA h hx y hy)
theorem Ga (h:Asc l) (a:∀y∈l.drop i,x≤y) (hn:¬l[i]? =some x):rl l i i x:=.inr ⟨rfl,λy hy=>by
 have h1:=a y hy;rcases Int.lt_or_eq_of_le h1 with h2|h2
 ·exact h2
 ·exfalso;subst h2;obtain⟨j,hj⟩:=Vo hy;rw[Xh]at hj;have hil:=(Yk.1 hj).1;have hi:l[i]? =some (l[i]'(a8)):=Yi _;have h3:=a _ (by rw[eh hi];exact Yz);rcases Un j with h4|h4
  ·subst h4;exact hn hj
  ·have h5:=rj h hi x (by rw[eh hi];exact Xa _ (Yj (i:=j-1) (by rw[Xh];rw[show i+1+(j-1)=i+j from a8];exact hj)));have h6:=yA h hi x (Yj (i:=j-1) (by rw[Xh];rw[show i+1+(j-1)=i+j from a8];exact hj));omega⟩
theorem Im {lo slop:Int}{f:Nat}(h:Asc l) (hf:f≤l.length) (h1:∀j x,j<f→l[j]? =some x→x<lo) (h2:∀x,l[f]? =some x→lo≤x):kC lo slop l=pX l f lo slop:=by
 have c:l.Pairwise (· ≤ ·):=h.imp fun{a b} h=>Int.le_of_lt h;have hk:=zD (a:=f) (b:=lo) (slop:=slop) c (λx hx=>by
  obtain⟨j,hj⟩:=Vo hx;rw[X3]at hj
  split at hj
  ·exact h1 j x aU hj
  ·cases hj)
 have d:gG l f lo=f:=by
  rw[gG];have:(l.drop f).findIdx (λx=>decide (lo≤x))=0:=by
   cases hd:l[f]? with
   |none=>rw[Vn (by rw[List.getElem?_eq_none_iff]at hd;exact hd)];all_goals rfl
   |some x=>rw[eh hd,List.findIdx_cons,Ys (h2 x hd)];all_goals rfl
  omega
 rw[←hk,d]
end
section
variable {G:dJ}{H:dD}{l:List Int}{o slop:Int}{s:SV}
theorem Ku {s2:SV}{a b:List Int} [h1:Sl H s eI a] [h2:Sl H s2 eI b] (ha:Asc a) (R:Asc b) (hn:a.length≤1000000000000) (hm:b.length≤1000000000000):SC G prog 243 [s.val,s2.val] H (λv H'=>∃(s':SV) (out:List Int),v=s'.val∧Asc out∧(∀x,x∈out↔x∈a∨x∈b)∧out.length≤a.length+b.length∧H'=Row s' eI out::H):=by
 refine sWk func243 ?_;refine ws_ (wr_ (e_ asn (on_ (qn_ (ws_ (wr_ (e_ asn (on_ (qn_ (ws_ (wr_ ?_)))))))))));refine eu (dH.nilRow (e:=eI) dH.refl) ?_;refine gk (k:=e8 (Nat×Nat×SV×(List Int)) (λy=>y.1≤a.length∧y.2.1≤b.length∧UnI a b y.2.2.2 y.1 y.2.1) (λy=>[(5,y.2.2.1.val),(6,iN y.1),(7,iN y.2.1)]) [(0,_),(1,_)] (λy=>[Row y.2.2.1 eI y.2.2.2]) _ (λy=>a.length+b.length-y.1-y.2.1) ((0,0,SV.nil, [])) (h0:=?_) (k:=?_))
 ·exact⟨Yl _,Yl _,UnI.zero a b⟩
 rintro⟨i,j,u,out⟩ ⟨hi,hj,l⟩
 try dsimp only[Yd,Ye]at*
 have X:=l.len;refine gk (k:=ep 5 18 (k:=λh1=>gk (k:=edq)) (q:=gW (λh2=>?_) (λh2=>?_)))
 ·have hor:=h2;obtain⟨F,f⟩:∃w:Int,i<a.length→a[i]? =some w:=by
   rcases Us i a.length with h8|h8
   ·exact⟨_,λ_=>Yi h8⟩
   ·exact⟨0,λh9=>a8⟩
  obtain⟨E,d⟩:∃w:Int,j<b.length→b[j]? =some w:=by
   rcases Us j b.length with h8|h8
   ·exact⟨_,λ_=>Yi h8⟩
   ·exact⟨0,λh9=>a8⟩
  refine wk_ (qn_ (wb_ (ws_ (wr_ (e_ asn (on_ (qn_ (iu Int (λy=>(y∈a.drop i∨y∈b.drop j)∧(∀z∈a.drop i,y≤z)∧(∀z∈b.drop j,y≤z)) (λy=>[(8,.int .i64 y)]) [8,19,20,21,22,23,24,25,26,27,28,29,30,31,32,33,34,35,36,37,38,39,40,41,42,43,44,45,46,47] ?_ ?_))))))))
  ·refine iu Bool (λy=>(y=true→i<a.length∧(j<b.length→F≤E))∧(y=false→j<b.length∧(i<a.length→E<F))) (λy=>[(39,.bool y)]) [19,20,21,22,23,24,25,26,27,28,29,30,31,32,33,34,35,36,37,38,39] ?_ ?_
   ·refine dX dN (as_ 0 (q:=mv) (k:=as_ 1 (q:=mv) (k:=as_ 2 (q:=lnn) (k:=as_ 3 (q:=ige) (k:=?_)))));refine fH 4 rfl rfl aa rfl (ey mv) (λh3=>?_) (λh3=>?_)
    ·replace h3:=nrm h3;refine go ?_;refine gk (k:=jnE true (q:=?_));exact⟨λ_=>⟨aD,λ_=>aD⟩,λh9=>(by cases h9)⟩
    replace h3:=nrm h3;refine at2 5 (q:=mv) (k:=at2 6 (q:=mv) (k:=at2 7 (q:=lnn) (k:=at2 8 (q:=ilt) (k:=?_))));refine o9 9 rfl rfl rfl rfl aa rfl (ey mv) (λh4=>?_) (λh4=>?_)
    ·replace h4:=nrm h4;have M:=f aJ;have K:=d a8;refine at2 10 (q:=mv) (k:=at2 11 (q:=mv) (k:=at2 12 (q:=ixa) (k:=at2 13 (q:=lel (hy:=M)) (k:=at2 14 (q:=mv) (k:=at2 15 (q:=mv) (k:=at2 16 (q:=ixa) (k:=at2 17 (q:=lel (hy:=K)) (k:=gk (k:=jnE (decide (F≤E)) (q:=?_))))))))));exact⟨λh9=>⟨a8,λ_=>Yt h9⟩,λh9=>⟨a8,λ_=>by have:=of_decide_eq_false h9;omega⟩⟩
    replace h4:=nrm h4;refine gk (k:=jnE false (q:=?_));exact⟨λh9=>(by cases h9),λ_=>⟨a8,λ_=>aJ⟩⟩
   rintro c ⟨a0,a1⟩
   try dsimp only at*
   refine wi_ (k:=λh5=>?_) (m:=λh5=>?_)
   ·obtain⟨C,A⟩:=a0 h5;have h:=f C;refine wr_ (e_ mv (e_ mv (e_ ixa (e_ (lel (hy:=h)) (gk (k:=jnE F (q:=?_)))))));refine⟨.inl (by rw[eh h];exact Yz),rj ha h,λy hy=>?_⟩;rcases Us j b.length with h8|h8
    ·have:=rj R (d h8) y hy;have:=A h8;omega
    ·rw[Vn h8]at hy;cases hy
   obtain⟨B,A⟩:=a1 (by have h9:=h5;simpa using h9);have g:=d B;refine wr_ (e_ mv (e_ mv (e_ ixa (e_ (lel (hy:=g)) (gk (k:=jnE E (q:=?_)))))));refine⟨.inr (by rw[eh g];exact Yz),λy hy=>?_,rj R g⟩;rcases Us i a.length with h8|h8
   ·have:=rj ha (f h8) y hy;have:=A h8;omega
   ·rw[Vn h8]at hy;cases hy
  rintro x ⟨t,V,U⟩
  try dsimp only[Yd,Ye]at*
  refine iu Nat (λy=>y≤a.length∧rl a i y x) (λy=>[(6,iN y)]) [6,48,49,50,51,52,53,54,55,56,57,58,59,60,61] ?_ ?_
  ·refine gk (k:=dV 7 59 (c:=decide (F=x)) (k:=λh7=>?_) (q:=?_))
   ·have L:=f (by have h9:=h7;omega);refine eg_ mv (eg_ mv (eg_ ixa (eg_ (lel (hy:=L)) (gk (k:=edq)))))
   refine gW (λh8=>?_) λh8=>?_
   ·have C:=f (by have h9:=h8;omega);refine gk (k:=jnE (i+1) (q:=?_));exact⟨a8,.inl ⟨rfl,by rw[C];have h9:=h8;rw[h9.2]⟩⟩
   refine gk (k:=jnE i (q:=?_));exact⟨hi,Ga ha V λr=>by
   have T:=(Yk.1 r).1;rw[f T]at r;rcases h8 with c9|c9
   ·omega
   ·exact c9 (Xk r)⟩
  rintro i2 ⟨Z,p⟩
  try dsimp only[Yd,Ye]at*
  refine iu Nat (λy=>y≤b.length∧rl b j y x) (λy=>[(7,iN y)]) [7,62,63,64,65,66,67,68,69,70,71,72,73,74,75] ?_ ?_
  ·refine gk (k:=dV 7 73 (c:=decide (E=x)) (k:=λh10=>?_) (q:=?_))
   ·have J:=d cg;refine eg_ mv (eg_ mv (eg_ ixa (eg_ (lel (hy:=J)) (gk (k:=edq)))))
   refine gW (λh11=>?_) λh11=>?_
   ·have B:=d bE;refine gk (k:=jnE (j+1) (q:=?_));exact⟨a8,.inl ⟨rfl,by rw[B];have h9:=h11;rw[h9.2]⟩⟩
   refine gk (k:=jnE j (q:=?_));exact⟨hj,Ga R U λr=>by
   have T:=(Yk.1 r).1;rw[d T]at r;rcases h11 with c9|c9
   ·omega
   ·exact c9 (Xk r)⟩
  rintro j2 ⟨Y,n⟩
  try dsimp only[Yd,Ye]at*
  refine gk (k:=fS eI (k:=λs78=>?_));refine app (k:=λS=>?_);refine go ?_;have hprog:i+j<i2+j2:=by
   have h9:=(l.step ha R t p n).len;rcases p with h1|h1 <;> rcases n with h2|h2
   ·omega
   ·omega
   ·omega
   ·exfalso;rcases t with h3|h3
    ·have:=h1.2 x h3;omega
    ·have:=h2.2 x h3;omega
  refine lN ((i2,j2,S,out++ [x])) ?_
  exact⟨Z,Y,l.step ha R t p n⟩
 obtain rfl:i=a.length:=aw;obtain rfl:j=b.length:=aw;have N:=l.mem;rw[Xn,Xn]at N;refine gR ?_;exact⟨_,hsb,u,out,rfl,l.up,N,X,rfl⟩
abbrev N5 (G:dJ) (H:dD) (s:SV) (l:List Int) (o:Int):Prop:=SC G prog 242 [s.val,.int .i64 o] H (λv H'=>∃(s':SV) (out:List Int),v=s'.val∧Asc out∧(∀x,x∈out↔∃p∈l,x=p-o)∧out.length≤l.length∧H'=Row s' eI out::H)
theorem xq [hs:Sl H s eI l] (hb:l.length≤100000000) (hv:∀x∈l, -4611686018427387904≤x∧x≤4611686018427387904) (ho:0≤o∧o≤4611686018427387903) (t:∀{H:dD}{s:SV}{l':List Int},Sl H s eI l'→l'.length<l.length→(∀x∈l', -4611686018427387904≤x∧x≤4611686018427387904)→N5 G H s l' o):SC G prog 242 [s.val,.int .i64 o] H (λv z=>∃(s':SV) (out:List Int),v=s'.val∧Asc out∧(∀x,x∈out↔∃p∈l,x=p-o)∧out.length≤l.length∧z=Row s' eI out::H):=by
 refine sWk func242 ?_;refine gW (λh1=>?_) λh1=>?_
 ·obtain rfl:l= []:=Uc ao;refine gR ?_;exact⟨_,dH.nilRow (e:=eI) dH.refl,SV.nil, [],rfl,List.Pairwise.nil,aq,Xl _,rfl⟩
 refine gW (λh2=>?_) λh2=>?_
 ·obtain⟨x,rfl⟩:∃x,l= [x]:=List.length_eq_one_iff.1 aw;have hx:=hv x aq;refine ws_ (wr_ (e_ mv (e_ (ixa (i:=0)) (e_ (lel (hy:=show([x]:List Int)[0]? =some x from rfl)) (gk (k:=fS eI (k:=λh=>?_)))))));refine gR ?_;exact⟨_,hsb,h, [x-o],rfl,Uk ..,aq,Xl _,rfl⟩
 refine wk_ (qn_ (ws_ (wr_ (e_ mv (e_ mv (e_ lnn ?_))))));refine e_ (fX rfl rfl l.length 2 rfl rfl ae ai) ?_;refine kJ H rfl (0) (l.length/2) rfl ⟨_,_,rfl,(aT)⟩ a8 aP rfl (λsa w=>?_);have hla:((l.take (l.length/2)).drop 0).length=l.length/2:=aQ;refine go ?_;refine c2_ rfl (t w a8 (λx hx=>hv x (Yq (Yp hx)))) ?_;rintro _ _ ⟨d,u,rfl,m,r,hna,rfl⟩;refine e_ asn (on_ (qn_ (ws_ (wr_ (e_ mv (e_ mv (e_ lnn ?_)))))));refine e_ (fX rfl rfl l.length 2 rfl rfl ae ai) ?_;refine kJ H rfl (l.length/2) l.length ⟨_,_,rfl,(aT)⟩ rfl a8 aP rfl (λsb ib=>?_);have hlb:((l.take l.length).drop (l.length/2)).length=l.length-l.length/2:=aq;refine go ?_;refine c2_ rfl (t (H:=Row d eI u::H) inferInstance a8 (λx hx=>hv x (Yq (Yp hx)))) ?_;rintro _ _ ⟨g,y,rfl,hub,q,hnb,rfl⟩;refine go ?_;refine c2_ rfl (Ku (s:=d) (s2:=g) (a:=u) (b:=y) m hub a8 a8) ?_;rintro _ _ ⟨f,out,rfl,j,n,hno,rfl⟩;refine gR ?_;refine⟨_,hsb,f,out,rfl,j,λx=>?_,a8,rfl⟩;rw[n x,r x,q x];have c:∀p,p∈l↔p∈(l.take (l.length/2)).drop 0∨p∈(l.take l.length).drop (l.length/2):=λp=>by
  rw[Va,Xn,←Xm,Vd]
 constructor
 ·rintro(⟨p,h1,h2⟩|⟨p,h1,h2⟩)
  ·exact⟨p,(c p).2 (.inl h1),h2⟩
  ·exact⟨p,(c p).2 (.inr h1),h2⟩
 ·rintro⟨p,h1,h2⟩;rcases(c p).1 h1 with h1|h1
  ·exact .inl ⟨p,h1,h2⟩
  ·exact .inr ⟨p,h1,h2⟩
theorem Kv (c:0≤o∧o≤4611686018427387903):∀(n:Nat) {H:dD}{s:SV}{l:List Int},Sl H s eI l→l.length≤n→l.length≤100000000→(∀x∈l, -4611686018427387904≤x∧x≤4611686018427387904)→N5 G H s l o
 | 0,H,s,l,hs,hn,hb,hv=>xq (hs:=hs) hb hv c λ_ hl=>absurd hl a8
 |n+1,H,s,l,hs,hn,hb,hv=>xq (hs:=hs) hb hv c λb hl a=>Kv c n b a8 a8 a
theorem KE {lo:Int} [hs:Sl H s eI l] (h:Asc l) (hn:l.length≤1000000000000):SC G prog 244 [s.val,.int .i64 lo,.int .i64 (lo+slop)] H (λv u=>v=.bool (kC lo slop l)∧u=H):=by
 refine sWk func244 ?_;refine go ?_;refine gk (k:=e8 (Nat×Nat) (λy=>y.1≤y.2∧y.2≤l.length∧(∀j x,j<y.1→l[j]? =some x→x<lo)∧(∀x,l[y.2]? =some x→lo≤x)) (λy=>[(7,iN y.1),(8,iN y.2)]) [(0,_),(1,_),(2,_)] (λy=>[]) _ (λy=>y.2-y.1) ((0,l.length)) (h0:=?_) (k:=?_))
 ·try dsimp only
  exact⟨Yl _,Xl _,λj x h9=>a8,λx h9=>by rw[Xz (Xl _)]at h9;cases h9⟩
 rintro⟨f,t⟩ ⟨hft,e,g,i⟩
 try dsimp only[Yd,Ye]at*
 refine gW (λh1=>?_) λh1=>?_
 ·obtain⟨m,hm⟩:=ex ((f+t)/2);have hmb:f≤m∧m<t:=ao;obtain⟨y9,a⟩:=gE l m;refine wk_ (qn_ (wb_ (ws_ (wr_ (e_ mv (e_ mv ?_))))));refine e_ (evq iad (congrArg (Value.int .i64) (show _=((f+t:Nat):Int)from a8))) ?_;refine e_ (evq (fX rfl rfl (f+t) 2 rfl rfl ae ai) (congrArg (λn:Nat=>iN n) hm.symm)) ?_;refine e_ asn (on_ (qn_ (ws_ (wr_ (e_ mv (e_ mv (e_ ixa (e_ (lel (hy:=a)) (gW (λh2=>?_) (λh2=>?_))))))))))
  ·refine go ?_;refine lN ((m+1,t)) ?_
   try dsimp only
   exact⟨a8,e,λj x h8 h9=>by
   rcases Uq (V9 h8)with h7|rfl
   ·have h5:=T4.1 h j m (Yk.1 h9).1 a8 h7;rw[(Yk.1 h9).2,(Yk.1 a).2]at h5;have h6:=h2;omega
   ·rw[a]at h9;cases h9;exact h2,i⟩
  refine go ?_;refine lN ((f,m)) ?_
  try dsimp only
  exact⟨a8,a8,g,λx h9=>by rw[a]at h9;cases h9;have h8:=h2;omega⟩
 obtain rfl:f=t:=ao;have r:=Im (slop:=slop) h e g i;obtain⟨p,d⟩:∃w:Int,f<l.length→l[f]? =some w:=by
  rcases Us f l.length with h8|h8
  ·exact⟨_,λ_=>Yi h8⟩
  ·exact⟨0,λh9=>a8⟩
 refine gk (k:=dV 7 39 (c:=decide (p≤lo+slop)) (k:=λh4=>?_) (q:=?_))
 ·have b:=d aJ;refine eg_ mv (eg_ mv (eg_ ixa (eg_ (lel (hy:=b)) (gk (k:=edq)))))
 refine gR ?_;refine⟨_,hsb,?_,rfl⟩;rw[r];rcases Us f l.length with h8|h8
 ·rw[pX,d h8];show Value.bool (decide (((f:Nat):Int)<(l.length:Int))&&decide (p≤lo+slop))=_;rw[Ys a8,Xv]
 ·rw[pX,Xz h8];show Value.bool (decide (((f:Nat):Int)<(l.length:Int))&&decide (p≤lo+slop))=_;rw[Yr a8,Vk]
theorem Cw {sl so:SV}{ss:List SV}{lists:List (List Nat)}{offs:List Int} [hsl:Sl H sl eSV ss] [hso:Sl H so eI offs] (hll:ss.length=lists.length) (b6:∀(i:Nat) (s:SV) (l:List Nat),ss[i]? =some s→lists[i]? =some l→Sl H s eI (dT l)) (c5:lists.length=offs.length) (hn0:0<lists.length) (hn:lists.length≤100000000) (E:∀o∈offs,0≤o∧o≤2147483646) (hs1:0≤slop) (hs2:slop≤2147483647) (htot:(lists.map List.length).sum≤1000000000000) (b3:∀l∈lists,l.length≤100000000):
 SC G prog 208 [sl.val,so.val,.int .i64 slop] H (λv H'=>v=iN (jF lists offs slop)∧H'=H):=by
 refine sWk func208 ?_;refine gk (k:=ep 6 26 (k:=λh1=>gk (k:=edq)) (q:=go ?_));refine ep 3 30 (k:=λh2=>gk (k:=edq)) (q:=gk (k:=ep 3 34 (k:=λh3=>gk (k:=edq)) (q:=gW (λh4=>?_) (λh4=>?_))))
 ·exact absurd h4 aQ
 refine gk (k:=e8 Nat (λy=>y≤lists.length∧∀l∈lists.take y,∀p∈l,p≤2147483646) (λy=>[(7,iN y)]) [(0,_),(1,_),(2,_)] (λy=>[]) _ (λy=>lists.length-y) (0) (h0:=?_) (k:=?_))
 ·exact⟨Yl _,aq⟩
 rintro i ⟨hi,t⟩
 try dsimp only[Yd,Ye]at*
 refine gW (λh5=>?_) λh5=>?_
 ·obtain⟨l,hl⟩:∃l,lists[i]? =some l:=⟨_,Yi aW⟩;obtain⟨U,hs0⟩:∃s,ss[i]? =some s:=⟨_,Yi aW⟩;obtain⟨o,N⟩:∃o,offs[i]? =some o:=⟨_,Yi aW⟩;haveI c2:Sl H U eI (dT l):=b6 i U l hs0 hl;have c4:=E o (Yj N);have h:=Yj hl;have c7:=eJ l;have c6:=b3 l h;refine wk_ (qn_ (ws_ (wb_ (ws_ (ws_ (wr_ (e_ mv (e_ mv (e_ ixa (e_ (lel (hy:=N)) (e_ ilt (e_ mv (ep 6 52 (k:=λh6=>eg_ mv (eg_ mv (eg_ ixa (eg_ (lel (hy:=N)) (gk (k:=edq)))))) (q:=?_))))))))))))));refine gW (λV=>?_) λV=>?_
  ·exact absurd V a8
  refine gk (k:=e8 Nat (λy=>y≤l.length∧∀p∈l.take y,p≤2147483646) (λy=>[(8,iN y)]) [(0,_),(1,_),(2,_),(7,_)] (λy=>[]) _ (λy=>l.length-y) (0) (h0:=?_) (k:=?_))
  ·exact⟨Yl _,aq⟩
  rintro j ⟨hj,M⟩
  try dsimp only[Yd,Ye]at*
  refine ws_ (ws_ (wr_ (e_ mv (e_ mv (e_ mv (e_ ixa (e_ (lel (hy:=hs0)) (gW (λh8=>?_) (λh8=>?_)))))))))
  ·obtain⟨p,hp⟩:∃p,l[j]? =some p:=⟨_,Yi (by have h9:=h8;omega)⟩;have a9:(dT l)[j]? =some ((p:Nat):Int):=gh hp;refine wk_ (qn_ (ws_ (wb_ (ws_ (wr_ (e_ mv (e_ mv (e_ ixa (e_ (lel (hy:=hs0)) (e_ mv (e_ ixa (e_ (lel (hy:=a9)) (e_ ilt ?_)))))))))))));refine e_ mv (ep 9 79 (k:=λh9=>eg_ mv (eg_ mv (eg_ ixa (eg_ (lel (hy:=hs0)) (eg_ mv (eg_ ixa (eg_ (lel (hy:=a9)) (gk (k:=edq))))))))) (q:=gW (λh10=>?_) (λh10=>?_)))
   ·have hbad:=xz (offs:=offs) (slop:=slop) h (Yj hp) cg;refine go ?_;refine gR ?_;exact⟨_,hsb,cE,rfl⟩
   have c3:p≤2147483646:=cg;refine go ?_;refine lN (j+1) ?_
   try dsimp only
   exact⟨a8,λq hq=>by
    rw[dK hp]at hq;rcases Xm.1 hq with hq|hq
    ·exact M q hq
    ·rw[Vb.1 hq];exact c3⟩
  obtain rfl:j=l.length:=by have h9:=h8;omega
  rw[Xn]at M;refine go ?_;refine lN (i+1) ?_
  try dsimp only
  exact⟨a8,λl2 b4 q hq=>by
   rw[dK hl]at b4;rcases Xm.1 b4 with h9|h9
   ·exact t l2 h9 q hq
   ·rw[Vb.1 h9]at hq;exact M q hq⟩
 obtain rfl:i=lists.length:=aW;rw[Xn]at t;refine we_ (qe_ (le_ (bh_ (qn_ (ws_ (wr_ (e_ asn (on_ (qn_ (ws_ (wr_ ?_)))))))))));refine eu ((dH.nilRow (e:=eI) dH.refl).trans ((dH.nilRow (e:=eSV) dH.refl).trans (ga (f:=shH) dH.refl))) ?_;refine gk (k:=e8 (Nat×(List (SV×List Int))×SV×SV×(List Int)) (λy=>y.1≤lists.length∧y.2.1.length=y.1∧sJ (gX (lists.take y.1) (offs.take y.1)) (y.2.1.map (·.2))∧Asc y.2.2.2.2∧(∀x,x∈y.2.2.2.2↔∃m∈y.2.1.map (·.2),x∈m)∧y.2.2.2.2.length≤((lists.take y.1).map List.length).sum∧(∀z∈y.2.1,Asc z.2∧z.2.length≤1000000000)∧(∀x∈y.2.2.2.2, -2147483646≤x∧x≤2147483646)) (λy=>[(9,y.2.2.1.val),(10,y.2.2.2.1.val),(11,iN y.1)]) [(0,_),(1,_),(2,_)] (λy=>[Row y.2.2.1 eSV (y.2.1.map (·.1)),Cl shH y.2.1,Row y.2.2.2.1 eI y.2.2.2.2]) _ (λy=>lists.length-y.1) ((0, [],SV.nil,SV.nil, [])) (h0:=?_) (k:=?_))
 ·try dsimp only
  exact⟨Yl _,rfl,⟨rfl,λi s m h8=>by simp[gX]at h8⟩,List.Pairwise.nil,aq,Yl _,aq,aq⟩
 rintro⟨i,zs,sm,sa,B⟩ ⟨hi4,hzl,c,J,F,a6,a7,b7⟩
 try dsimp only[Yd,Ye]at*
 refine gW (λh11=>?_) λh11=>?_
 ·obtain⟨l,hl⟩:∃l,lists[i]? =some l:=⟨_,Yi bE⟩;obtain⟨U,hs0⟩:∃s,ss[i]? =some s:=⟨_,Yi bE⟩;obtain⟨o,N⟩:∃o,offs[i]? =some o:=⟨_,Yi bE⟩;haveI c2:Sl H U eI (dT l):=b6 i U l hs0 hl;have c4:=E o (Yj N);have h:=Yj hl;have c7:=eJ l;have c6:=b3 l h;have hsum:=C4 hl;have hsle:=Ay lists (i+1);have c0:(zs.map (·.1)).length=i:=cj;have b5:∀x∈dT l,0≤x∧x≤2147483646:=λx hx=>by
   obtain⟨p,hp,rfl⟩:=Xt.1 hx;have:=t l h p hp;omega
  refine go ?_;refine wD [8] (λk H=>(k=2→Sl H sl eSV ss)∧(k=3→Sl H sl eSV ss)∧(k=6→Sl H so eI offs)∧(k=7→Sl H so eI offs)) (aF 0 (k:=aF 1 (k:=?_)));refine aN 2 rfl (λH hH=>by have hN:=hH.1 rfl;exact ixa) ?_;refine aN 3 rfl (λH hH=>by have hN:=hH.2.1 rfl;exact lel (hy:=hs0)) ?_;refine aF 4 (k:=aF 5 (k:=?_));refine aN 6 rfl (λH hH=>aG) ?_;refine aN 7 rfl (λH hH=>by have hN:=hH.2.2.2 rfl;exact lel (hy:=N)) ?_;refine aS 8 rfl (lU (vs:= [_,_]) rfl (Kv a8 _ (H:=Row sm eSV (zs.map (·.1))::Cl shH zs::Row sa eI B::H) (s:=U) (l:=dT l) (o:=o) inferInstance (Xl _) a8 (λx hx=>by have:=b5 x hx;omega))) ?_;rintro _ _ ⟨g,L,rfl,b1,b0,hmn,rfl⟩;refine gk (k:=aZ (gk (k:=fS eSV (k:=λs97=>?_))));refine app (k:=λY=>?_);refine go ?_;refine c2_ rfl (Ku (s:=sa) (s2:=g) (a:=B) (b:=L) J b1 a8 a8) ?_;rintro _ _ ⟨C,b8,rfl,c8,b2,hn2,rfl⟩;refine e_ asn (on_ (bn_ (qn_ (wr_ ?_))));refine eu (dH.trans (H':=Row g eI L::Cl shH zs::Row Y eSV ((zs++ [(g,L)]).map (·.1))::Row C eI b8::H) (by rw[Xp];exact hsb) (Gh g L)) ?_;refine go ?_;refine lN ((i+1,zs++ [(g,L)],Y,C,b8)) ?_
  try dsimp only
  refine⟨a8,by rw[Ya,hzl];all_goals rfl,?_,c8,λx=>?_,a8,λz hz=>?_,λx hx=>?_⟩
  ·rw[qO hl N,Xp];refine c.snoc λx=>?_;rw[Ep,b0 x]
   constructor
   ·rintro⟨p,h8,h9⟩;exact⟨((p:Nat):Int),Vj h8,h9⟩
   ·rintro⟨y,h8,h9⟩;obtain⟨p,V,rfl⟩:=Xt.1 h8;exact⟨p,V,h9⟩
  ·rw[b2 x,F x,Xp]
   constructor
   ·rintro(⟨m,h8,h9⟩|h9)
    ·exact⟨m,Yy _ h8,h9⟩
    ·exact⟨L,Yx _ aq,h9⟩
   ·rintro⟨m,h8,h9⟩;rcases Xm.1 h8 with h8|h8
    ·exact .inl ⟨m,h8,h9⟩
    ·simp at h8;subst h8;exact .inr h9
  ·rcases Xm.1 hz with hz|hz
   ·exact a7 z hz
   ·rw[Vb.1 hz];exact⟨b1,by show L.length≤_;omega⟩
  ·rcases(b2 x).1 hx with h8|h8
   ·exact b7 x h8
   ·obtain⟨y,V,rfl⟩:=(b0 x).1 h8;have:=b5 y V;omega
 obtain rfl:i=lists.length:=bE;rw[Xn]at a6;rw[Xr (Xl _),Xr a8]at c;have a5:=Ie (slop:=slop) t c5 c J F;have c0:(zs.map (·.1)).length=zs.length:=Yh ..;have hzm2:(zs.map (·.2)).length=zs.length:=Yh ..;have c1:∀(k:Nat) (z:SV×List Int),zs[k]? =some z→Sl (Row sm eSV (zs.map (·.1))::Cl shH zs::Row sa eI B::H) z.1 eI z.2:=λk z hz=>by
  haveI:∀R,Sl (Cl shH zs::R) z.1 eI z.2:=λR=>MK hz (λR=>(inferInstance:Sl (Row z.1 eI z.2::R) z.1 eI z.2));infer_instance
 refine go ?_;refine gk (k:=e8 (Nat×Nat) (λy=>y.1≤B.length∧y.2≤y.1∧y.2=((B.take y.1).filter λb=>(zs.map (·.2)).all (kC b slop)).length) (λy=>[(13,iN y.2),(14,iN y.1)]) [(2,_),(9,_),(10,_)] (λy=>[]) _ (λy=>B.length-y.1) ((0,0)) (h0:=?_) (k:=?_))
 ·exact⟨Yl _,Xl _,rfl⟩
 rintro⟨Z,n⟩ ⟨hk1,hnk,r⟩
 try dsimp only[Yd,Ye]at*
 refine gW (λh12=>?_) λh12=>?_
 ·obtain⟨X,A⟩:∃x,B[Z]? =some x:=⟨_,Yi dm⟩;have hbb:=b7 X (Yj A);have w:((B.take (Z+1)).filter λb=>(zs.map (·.2)).all (kC b slop)).length=n+(if(zs.map (·.2)).all (kC X slop)=true then 1 else 0):=by
   rw[dK A,List.filter_append,Ya,←r,List.filter_cons]
   split <;> rfl
  refine go ?_;refine gk (k:=e8 (Nat×Bool) (λy=>y.1≤zs.length∧y.2=((zs.map (·.2)).take y.1).all (kC X slop)) (λy=>[(15,.bool y.2),(16,iN y.1)]) [(2,_),(9,_),(10,_),(13,_),(14,_)] (λy=>[]) _ (λy=>zs.length-y.1) ((0,true)) (h0:=?_) (k:=?_))
  ·exact⟨Yl _,rfl⟩
  rintro⟨m,ok⟩ ⟨hm,u⟩
  try dsimp only[Yd,Ye]at*
  refine gW (λT=>?_) λT=>?_
  ·obtain⟨z,hz⟩:∃z,zs[m]? =some z:=⟨_,Yi (by have h9:=T;omega)⟩;have a1:(zs.map (·.1))[m]? =some z.1:=by rw[Xd,hz];all_goals rfl
   have a0:(zs.map (·.2))[m]? =some z.2:=by rw[Xd,hz];all_goals rfl
   haveI:=c1 m z hz;have a2:=a7 z (Yj hz);have K:((zs.map (·.2)).take (m+1)).all (kC X slop)=(ok&&kC X slop z.2):=by rw[dK a0,List.all_append,←u];simp
   refine go ?_;refine dX dN (as_ 0 (q:=mv) (k:=?_));refine fH 1 rfl rfl aa rfl (ey mv) (λd=>?_) (λd=>?_)
   ·replace d:=nrm d;have a3:ok=true:=d;refine at2 2 (q:=mv) (k:=at2 3 (q:=mv) (k:=at2 4 (q:=ixa) (k:=at2 5 (q:=lel (hy:=a1)) (k:=at2 6 (q:=mv) (k:=at2 7 (q:=mv) (k:=at2 8 (q:=ixa) (k:=at2 9 (q:=lel (hy:=A)) (k:=at2 10 (q:=mv) (k:=at2 11 (q:=mv) (k:=at2 12 (q:=ixa) (k:=at2 13 (q:=lel (hy:=A)) (k:=go ?_))))))))))));refine lH 16 rfl rfl rfl rfl aa rfl (iR (vs:= [_,_,_]) rfl (KE (slop:=slop) a2.1 a8)) ?_;refine go ?_;refine lN ((m+1,kC X slop z.2)) ?_
    try dsimp only
    exact⟨a8,by rw[K,a3,Xv]⟩
   replace d:=nrm d;have a4:ok=false:=by have h9:=d;simpa using h9
   refine go ?_;refine lN ((m+1,false)) ?_
   try dsimp only
   exact⟨a8,by rw[K,a4,Vk]⟩
  obtain rfl:m=zs.length:=by have h9:=T;omega
  rw[Xr a8]at u;refine gW (λS=>?_) λS=>?_
  ·rw[if_pos (by rw[←u];exact S)]at w;refine go ?_;refine lN ((Z+1,n+1)) ?_
   exact⟨a8,a8,w.symm⟩
  rw[if_neg (by rw[←u];have h9:=S;simpa using h9)]at w;refine go ?_;refine lN ((Z+1,n)) ?_
  exact⟨a8,a8,w.symm⟩
 obtain rfl:Z=B.length:=dm;rw[Xn]at r;refine gR ?_;exact⟨_,hsb,by rw[a5,←r];all_goals rfl,rfl⟩
end
section
variable {G:dJ}{H:dD}
theorem EC {n:Nat}:SC G prog 276 [iN n] H (λv a=>v=uN (fm n)∧a=H):=by
 refine sWk func276 ?_;refine gW (λh1=>?_) λh1=>?_
 ·exact absurd h1 a8
 refine gW (λh2=>?_) λh2=>?_
 ·have hc:fm n=1048576:=by have h9:=h2;unfold fm;omega
  refine gR ?_;exact⟨_,hsb,by rw[hc];all_goals rfl,rfl⟩
 have hc:fm n=n:=by have h9:=h2;unfold fm;omega
 refine wk_ (qn_ (ws_ (wr_ (e_ mv ?_))));refine e_ (dW 18446744073709551616 rfl rfl rfl n rfl a8) ?_;refine gR ?_;exact⟨_,hsb,by rw[hc];all_goals rfl,rfl⟩
theorem Kk {c a s b:Nat}(hu:0<a) (h1:s*a≤c) (h2:c<(s+2*b)*a):(if(s+b)*a≤c then s+b else s)*a≤c∧c<((if(s+b)*a≤c then s+b else s)+b)*a:=by
 split
 ·rename_i h;exact⟨h,by rw[show s+b+b=s+2*b from a8];exact h2⟩
 ·rename_i h;exact⟨h1,a8⟩
theorem ZC {f l a:Nat}:SC G prog 241 [iN f,iN l,iN a] H (λv K=>v=uN (Co f l a)∧K=H):=by
 obtain⟨F,B⟩:=ex (fm f);obtain⟨L,hL⟩:=ex (fm l);obtain⟨A,hA⟩:=ex (max (fm a) 1);have z:F≤1048576:=by rw[B];unfold fm;omega
 have hLb:L≤1048576:=by rw[hL];unfold fm;omega
 have C:1≤A∧A≤1048576:=by rw[hA];unfold fm;omega
 have hFA:F*A≤1048576*1048576:=Uv z C.2;obtain⟨g,d⟩:=ex (10240*F*A);obtain⟨b,c⟩:=ex (10*F*A+3*A+9*L);have hov2:g=10240*(F*A):=by rw[d,V3]
 have hun2:b=10*(F*A)+3*A+9*L:=by rw[c,V3]
 have s:0<b:=a8;have hub:b≤20000000000000:=a8;have hlt:g<(0+2*1024)*b:=a8;have p:Co f l a=g/b:=by rw[d,c,B,hL,hA];all_goals rfl
 refine sWk func241 ?_;refine go ?_;refine d1_ rfl EC (go ?_);refine d1_ rfl EC (go ?_);refine d1_ rfl EC (e_ asn (e_ asn (e_ asn (on_ (qn_ (iu Nat (λy=>y=A) (λy=>[(9,uN y)]) [9,20,21] ?_ ?_))))))
 ·refine gW (λh1=>?_) λh1=>?_
  ·have m:A=1:=by have h9:=h1;rw[hA];omega
   refine gk (k:=jnE (1) (q:=?_));exact m.symm
  have m:fm a=A:=by have h9:=h1;rw[hA];omega
  refine gk (k:=jnE (fm a) (q:=?_));exact m
 rintro A2 E
 try dsimp only[Yd,Ye]at*
 rw[E];rw[←B,←hL];refine ws_ (wr_ (e_ mv ?_));refine e_ (k8 rfl rfl 10240 F rfl rfl a8) ?_;refine e_ mv ?_;refine e_ (evq (k8 rfl rfl (10240*F) A rfl rfl (by rw[←d];omega)) (congrArg (λn:Nat=>uN n) d.symm)) ?_;refine e_ mv ?_;refine e_ (k8 rfl rfl 10 F rfl rfl a8) ?_;refine e_ mv ?_;refine e_ (k8 rfl rfl (10*F) A rfl rfl (by rw[V3];omega)) ?_;refine e_ mv ?_;refine e_ (k8 rfl rfl 3 A rfl rfl a8) ?_;refine e_ (jo 18446744073709551616 rfl rfl rfl rfl (10*F*A) (3*A) rfl rfl (by rw[V3];omega)) ?_;refine e_ mv ?_;refine e_ (k8 rfl rfl 9 L rfl rfl a8) ?_;refine e_ (evq (jo 18446744073709551616 rfl rfl rfl rfl (10*F*A+3*A) (9*L) rfl rfl (by rw[←c];omega)) (congrArg (λn:Nat=>uN n) c.symm)) (go ?_);refine gk (k:=e8 (Nat×Nat) (λy=>y.1≤11∧y.2*b≤g∧g<(y.2+2^y.1)*b∧y.2≤2048) (λy=>[(12,uN y.2),(13,uN (2^y.1/2))]) [(10,_),(11,_)] (λy=>[]) _ (λy=>y.1) ((11,0)) (h0:=?_) (k:=?_))
 ·exact⟨Xl _,a8,a8,a8⟩
 rintro⟨k,h⟩ ⟨hk,t,i,hs3⟩
 try dsimp only[Yd,Ye]at*
 refine gW (λh2=>?_) λh2=>?_
 ·obtain⟨k,rfl⟩:∃j,k=j+1:=⟨k-1,by have h9:=h2;rcases k with _|k;simp at h9;omega⟩;have u:2^(k+1)/2=2^k:=by rw[Nat.pow_succ];omega
  have hpb:2^k≤2^10:=X0 ae a8;rw[u];rw[show(2:Nat)^(k+1)=2*2^k by rw[Nat.pow_succ];omega]at i;have e:=Kk s t i;have hmb:(h+2^k)*b≤4096*20000000000000:=Uv a8 hub;refine wk_ (qn_ (iu Nat (λy=>y*b≤g∧g<(y+2^k)*b) (λy=>[(12,uN y)]) [12,40,41,42,43,44,45,46,47,48,49] ?_ ?_))
  ·refine wb_ (ws_ (wr_ (e_ mv (e_ mv ?_))));refine e_ (jo 18446744073709551616 rfl rfl rfl rfl h (2^k) rfl rfl a8) ?_;refine e_ mv ?_;refine e_ (k8 rfl rfl (h+2^k) b rfl rfl a8) ?_;refine gW (λh3=>?_) λh3=>?_
   ·rw[if_pos aD]at e;refine wr_ (e_ mv (e_ mv ?_));refine e_ (jo 18446744073709551616 rfl rfl rfl rfl h (2^k) rfl rfl a8) ?_;refine gk (k:=jnE (h+2^k) (q:=?_));exact e
   rw[if_neg aD]at e;refine gk (k:=jnE h (q:=?_));exact e
  rintro r ⟨x,w⟩
  try dsimp only[Yd,Ye]at*
  refine wr_ (e_ mv ?_);refine e_ (fX rfl rfl (2^k) 2 rfl rfl ae (by show _≤(18446744073709551615:Int);omega)) (go ?_);refine lN ((k,r)) ?_
  try dsimp only
  refine⟨a8,x,w,?_⟩;rcases Us 2048 r with h8|h8
  ·exfalso;have h7:2049*b≤r*b:=Uv a8 (Xl _);omega
  ·exact h8
 obtain rfl:k=0:=by
  have h9:=h2;rcases k with _|k
  ·rfl
  ·exfalso;have h8:0<2^k:=U3 k;rw[Nat.pow_succ]at h9;omega
 have J:g/b=h:=by
  rw[Nat.pow_zero]at i;exact Nat.div_eq_of_lt_le a8 a8
 refine gR ?_;exact⟨_,hsb,by rw[p,J];all_goals rfl,rfl⟩
end
end Go.Sx
