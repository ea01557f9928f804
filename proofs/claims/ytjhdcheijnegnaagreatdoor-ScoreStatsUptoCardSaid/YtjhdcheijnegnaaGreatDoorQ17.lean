import Derived.Test.YtjhdcheijnegnaaGreatDoorQ14
import Derived.Test.YtjhdcheijnegnaaGreatDoorQ9
import Derived.Test.YtjhdcheijnegnaaGreatDoorQ13
import Derived.Test.YtjhdcheijnegnaaGreatDoorQ12
import Derived.Test.YtjhdcheijnegnaaGreatDoorQ15
set_option linter.all false
set_option maxHeartbeats 0
namespace Go.Sx
open Go Go.Proofs Tryz
set_option maxRecDepth 100000
section
variable {q:ByteArray}{w:List Nat}{x:Stp}{xs:List Stp}
def ob (o:Option (List Nat)) (r:ByteArray) (b:Bool):Prop:=match o with
 |some u=>cF r=u∧b=decide (u.length≤64)
 |none=>b=false
theorem jV {o:Option (List Nat)}{r:ByteArray}(h:o=some w) (a:cF r=w):ob o r (decide ((r.size:Int)≤64)):=by
 rw[h];refine⟨a,?_⟩;rw[←a,cI];apply decide_eq_decide.2;omega
theorem C3 {i:Nat}(h:xs[i]? =some x) (w:List Nat):nd (xs.drop i) w=match k7 x w with
 |some u=>nd (xs.drop (i+1)) u
 |none=>none:=by
 have hi:=(Yk.1 h).1;have e:xs[i]=x:=(Yk.1 h).2;rw[List.drop_eq_getElem_cons hi,nd,e];all_goals (cases k7 x w <;> rfl)
theorem Ei {u:List Nat}(h:k7 x w=some u):u.length≤w.length+100:=by
 cases x with
 |fold=>simp only[k7,Option.some.injEq]at h;rw[←h,fG];omega
 |stop s=>
  simp only[k7]at h;cases hd:decide (w∈i9) <;> rw[hd]at h
  ·simp only[cond_false,Option.some.injEq]at h;rw[h];omega
  ·cases h
 |stem=>simp only[k7,Option.some.injEq]at h;rw[←h];exact Ej w
theorem DZ {G:cJ}{H:cG}{s:SV} [hx:Sl H s oR xs] (hn:xs.length≤3) (hq:q.size≤4000000) (hs:∀s,Stp.stop s∈xs→Sl H s eS gQ):SC G prog 291 [s.val,.string q] H (λv l=>∃r b,v=.tuple #[.string r,.bool b]∧ob (nd xs (cF q)) r b∧l=H):=by
 refine sWk func291 ?_;refine go ?_;refine gk (k:=wl2_ (Nat×ByteArray) (λy=>y.1≤xs.length∧nd xs (cF q)=nd (xs.drop y.1) (cF y.2)∧y.2.size≤q.size+100*y.1) (λy=>[(1,.string y.2),(11,iN y.1)]) [(9,_),(10,_)] (λy=>[]) _ (λy=>xs.length-y.1) ((0,q)) (h0:=?_) (k:=?_))
 ·exact⟨Yl _,rfl,Xj _⟩
 rintro⟨i,u⟩ ⟨hi,hth,hz⟩
 try dsimp only[Yd,Ye]at*
 refine gW (λh1=>?_) λh1=>?_
 ·obtain⟨x,d⟩:=gE xs i;have hd:=C3 d (cF u);have h:∀s,x=.stop s→Sl H s eS gQ:=λs e=>hs s (by rw[←e];exact Yj d);refine go ?_;refine s_ (Lk (x:=x) rfl rfl a8 h) ?_;rintro _ _ ⟨r,b,rfl,c,rfl⟩;have f:=cI u;refine gW (λh2=>?_) λh2=>?_
  ·obtain rfl:b=false:=by simpa using h2
   have hN:nd xs (cF q)=none:=by
    rw[hth,hd];cases a:k7 x (cF u)with
    |none=>rfl
    |some w=>rw[a]at c;exact absurd c.2 ae
   refine gR ?_;refine⟨_,hsb,_,_,rfl,?_,rfl⟩;rw[hN];exact rfl
  obtain rfl:b=true:=by simpa using h2
  obtain⟨w,a,g⟩:∃w,k7 x (cF u)=some w∧cF r=w:=by
   cases a:k7 x (cF u)with
   |none=>rw[a]at c;exact absurd c (by simp[qR])
   |some w=>rw[a]at c;exact⟨w,rfl,c.1⟩
  have hz2:=Ei a;have j:=cI r;refine go ?_;refine lN ((i+1,r)) ?_
  try dsimp only
  refine⟨a8,?_,by rw[g]at j;omega⟩;rw[hth,hd,a,g]
 obtain rfl:i=xs.length:=a8;rw[X4,nd]at hth;have f:=cI u;refine go ?_;refine gR ?_;refine⟨_,hsb,_,_,rfl,?_,rfl⟩;rw[hth];exact⟨rfl,by rw[f];congr 1;apply propext;omega⟩
def ng (p:FV) (s:SV):List Stp:=(bif p.fold then [Stp.fold]else [])++(bif p.stop then [Stp.stop s]else [])++(bif p.stem then [Stp.stem]else [])
def jo (p:FV) (w:List Nat):Option (List Nat):=
 bif p.stop&&decide ((bif p.fold then iS w else w)∈i9)then none else some (bif p.stem then iq (bif p.fold then iS w else w)else(bif p.fold then iS w else w))
theorem zk (p:FV) (s:SV) (w:List Nat):nd (ng p s) w=jo p w:=by
 obtain⟨n,k,a,b,c⟩:=p;unfold ng jo;cases a <;> cases b <;> cases c <;> simp only[cond_true,cond_false,Ye,Ym,Yd,nd,k7,Vt,Bool.false_and]
 all_goals first
  |rfl
  |(cases decide (w∈i9) <;> rfl)
  |(cases decide (iS w∈i9) <;> rfl)
class Spc (H:cG):Prop where
 out:∀L,Sep H L→∃E fz,(42,Obj.cells ((List.range 256).map λi=>Value.int .u8 (if i=9∨i=10∨i=11∨i=12∨i=13∨i=32 then 1 else 0)).toArray E fz)∈L
instance Spc.tail {A:Hp}{H:cG} [h:Spc H]:Spc (A::H):=
 ⟨λL hL=>bS⟩
def jt (G:cJ):Prop:=∀H,Spc H→SC G prog 335 [] H (λv H'=>∃s:SV,v=s.val∧H'=Row s eS gQ::H)
section
variable {G:cJ}{t:Tm}{H:cG}{dst:Option Tmp}{ty:TypeId}{pos:String}{after:Array Edge}{g:Option (Nat×Bool)}
theorem O9 (v:Value) (W:World):(Instr.makeInterface 413 v).run prog W=.ok (.iface 413 v) W:=aa
theorem K3 (v:Value) (W:World):(Instr.makeInterface 415 v).run prog W=.ok (.iface 415 v) W:=aa
theorem Bf (v:Value) (W:World):(Instr.makeInterface 416 v).run prog W=.ok (.iface 416 v) W:=aa
theorem mM {x:Operand}{v:Value}{T:TypeId}(h:∀v W,(Instr.makeInterface T v).run prog W=.ok (.iface T v) W) (hx:evo t x=some v):Ev G prog ⟨dst,.makeInterface T x,ty,pos,after,g⟩ t H (.iface T v):=
 fun ρ hρ w _=>by
  simp only[execOp,hρ _ _ hx,Sem.run_bind,h,Result.andThen_ok,Sem.run_pure]
end
theorem I0 {G:cJ}{H:cG}(p:FV) [Spc H] (l:jt G):SC G prog 290 [.agg #[.string p.name,.int .i64 p.kind,.bool p.fold,.bool p.stop,.bool p.stem]] (Row SV.nil oR []::H) (λv m=>∃c s:SV,v=c.val∧m=Row c oR (ng p s)::Row s eS (bif p.stop then gQ else [])::H):=by
 obtain⟨n,k,a,b,c⟩:=p;dsimp only;refine sWk func290 ?_;refine gk (k:=bxx (k:=λb1=>?_));refine e_ asn (on_ (qn_ (ws_ (wr_ ?_))));refine e_ (asv (v:=SV.nil.val) rfl rfl) ?_;refine gW (λh1=>?_) λh1=>?_
 ·subst h1;refine wr_ (e_ mv (e_ (bld []) ?_));refine e_ (mM O9 rfl) ?_;refine fX oR (k:=λs9=>?_);refine app (k:=λs10=>?_);refine gW (λh2=>?_) λh2=>?_
  ·subst h2;refine go ?_;refine c0_ rfl (l _ inferInstance) ?_;rintro _ _ ⟨d,rfl,rfl⟩;refine e_ (bld [(0,_)]) ?_;refine e_ (mM K3 rfl) ?_;refine fX oR (k:=λh=>?_);refine app (k:=λg=>?_);refine gW (λh3=>?_) λh3=>?_
   ·subst h3;refine wr_ (e_ mv (e_ (bld []) ?_));refine e_ (mM Bf rfl) ?_;refine fX oR (k:=λf=>?_);refine app (k:=λe=>?_);refine gR ?_
    first|exact⟨_,hsb,_,d,rfl,rfl⟩|exact⟨_,hsb,_,SV.nil,rfl,rfl⟩
   subst h3;refine gR ?_
   first|exact⟨_,hsb,_,d,rfl,rfl⟩|exact⟨_,hsb,_,SV.nil,rfl,rfl⟩
  subst h2;refine gW (λh4=>?_) λh4=>?_
  ·subst h4;refine wr_ (e_ mv (e_ (bld []) ?_));refine e_ (mM Bf rfl) ?_;refine fX oR (k:=λf=>?_);refine app (k:=λe=>?_);refine gR ?_
   first|exact⟨_,hsb,_,d,rfl,rfl⟩|exact⟨_,hsb,_,SV.nil,rfl,rfl⟩
  subst h4;refine gR ?_
  first|exact⟨_,hsb,_,d,rfl,rfl⟩|exact⟨_,hsb,_,SV.nil,rfl,rfl⟩
 subst h1;refine gW (λj=>?_) λj=>?_
 ·subst j;refine go ?_;refine c0_ rfl (l _ inferInstance) ?_;rintro _ _ ⟨d,rfl,rfl⟩;refine e_ (bld [(0,_)]) ?_;refine e_ (mM K3 rfl) ?_;refine fX oR (k:=λh=>?_);refine app (k:=λg=>?_);refine gW (λh6=>?_) λh6=>?_
  ·subst h6;refine wr_ (e_ mv (e_ (bld []) ?_));refine e_ (mM Bf rfl) ?_;refine fX oR (k:=λf=>?_);refine app (k:=λe=>?_);refine gR ?_
   first|exact⟨_,hsb,_,d,rfl,rfl⟩|exact⟨_,hsb,_,SV.nil,rfl,rfl⟩
  subst h6;refine gR ?_
  first|exact⟨_,hsb,_,d,rfl,rfl⟩|exact⟨_,hsb,_,SV.nil,rfl,rfl⟩
 subst j;refine gW (λi=>?_) λi=>?_
 ·subst i;refine wr_ (e_ mv (e_ (bld []) ?_));refine e_ (mM Bf rfl) ?_;refine fX oR (k:=λf=>?_);refine app (k:=λe=>?_);refine gR ?_
  first|exact⟨_,hsb,_,d,rfl,rfl⟩|exact⟨_,hsb,_,SV.nil,rfl,rfl⟩
 subst i;refine gR ?_
 first|exact⟨_,hsb,_,d,rfl,rfl⟩|exact⟨_,hsb,_,SV.nil,rfl,rfl⟩
theorem Lf {G:cJ}{H:cG}(p:FV) [Spc H] (a:jt G):SC G prog 290 [.agg #[.string p.name,.int .i64 p.kind,.bool p.fold,.bool p.stop,.bool p.stem]] H (λv b=>∃c s:SV,v=c.val∧b=Row c oR (ng p s)::Row s eS (bif p.stop then gQ else [])::H):=
 SC.less (cH.nilRow cH.refl) (I0 p a)
theorem ES {G:cJ}{H:cG}(p:FV) (hq:q.size≤4000000):SC G prog 103 [.agg #[.string p.name,.int .i64 p.kind,.bool p.fold,.bool p.stop,.bool p.stem],.string q] H (λv i=>∃r b,v=.tuple #[.string r,.bool b]∧ob (jo p (cF q)) r b∧i=H):=by
 obtain⟨n,k,a,b,c⟩:=p;have hl:=cI q;dsimp only;refine sWk func103 ?_;refine gk (k:=bxx (k:=λb2=>?_));refine e_ asn (e_ asn (on_ (qn_ (jS ByteArray (λy=>cF y=(bif a then iS (cF q)else cF q)∧y.size=q.size) (λy=>[(1,.string y)]) [1,7,8,9,10] ?_ ?_))))
 ·refine gW (λh1=>?_) λh1=>?_
  ·subst h1;refine go ?_;refine d1_ rfl (NX a8) (gk (k:=jnE _ (q:=?_)));exact⟨ec (ve _),by rw[gG,fG,hl]⟩
  subst h1;refine gk (k:=jnE _ (q:=?_));exact⟨rfl,rfl⟩
 rintro u ⟨hub,hJz⟩
 try dsimp only[Yd,Ye]at*
 have hul:=cI u;refine gW (λh2=>?_) λh2=>?_
 ·subst h2;refine go ?_;refine d1_ rfl Is (gW (λh3=>?_) (λh3=>?_))
  ·have hN:jo ⟨n,k,a,true,c⟩ (cF q)=none:=by rw[jo,←hub];simp only[Vt];rw[Ys (show cF u∈i9 from h3)];all_goals rfl
   refine gR ?_;exact⟨_,hsb,_,_,rfl,by rw[hN];exact rfl,rfl⟩
  have e:jo ⟨n,k,a,true,c⟩ (cF q)=some (bif c then iq (cF u)else cF u):=by rw[jo,←hub];simp only[Vt];rw[Yr (show ¬cF u∈i9 from h3)];all_goals rfl
  refine gW (λh4=>?_) λh4=>?_
  ·subst h4;refine go ?_;refine c1_ rfl (JV a8) ?_;rintro _ _ ⟨f,rfl,d,rfl⟩;have g:=cI f;refine go ?_;refine rT (k:=?_);refine⟨_,hsb,_,_,rfl,?_,rfl⟩
   first|exact jV e d|exact jV e rfl
  subst h4;refine gR ?_;refine⟨_,hsb,_,_,rfl,?_,rfl⟩
  first|exact jV e d|exact jV e rfl
 subst h2;have e:jo ⟨n,k,a,false,c⟩ (cF q)=some (bif c then iq (cF u)else cF u):=by rw[jo,hub];all_goals rfl
 refine gW (λh=>?_) λh=>?_
 ·subst h;refine go ?_;refine c1_ rfl (JV a8) ?_;rintro _ _ ⟨f,rfl,d,rfl⟩;have g:=cI f;refine go ?_;refine rT (k:=?_);refine⟨_,hsb,_,_,rfl,?_,rfl⟩
  first|exact jV e d|exact jV e rfl
 subst h;refine gR ?_;refine⟨_,hsb,_,_,rfl,?_,rfl⟩
 first|exact jV e d|exact jV e rfl
end
section
variable {G:cJ}{H:cG}{b:Bool}{p:FV}{q r:ByteArray}{t:Tok}{w:List Nat}
instance {t:Tok}:kX eT t (.agg [.string (dQ t.text),.int .i64 ((t.value:Nat):Int),.int .i64 ((t.pos:Nat):Int),.int .i64 ((t.st:Nat):Int),.int .i64 ((t.en:Nat):Int)].toArray):=⟨rfl⟩
instance (priority:=low) {s:ByteArray}{a b c d:Nat}:i6 eT (.agg [.string s,.int .i64 ((a:Nat):Int),.int .i64 ((b:Nat):Int),.int .i64 ((c:Nat):Int),.int .i64 ((d:Nat):Int)].toArray) ⟨cF s,a,b,c,d⟩:=⟨by show Value.agg (eT.f _).toArray=_;simp only[eT,iz]⟩
instance {s:ByteArray}{d:Nat}:i6 eT (.agg [.string s,.int .i64 0,.int .i64 0,.int .i64 0,.int .i64 ((d:Nat):Int)].toArray) ⟨cF s,0,0,0,d⟩:=⟨by show Value.agg (eT.f _).toArray=_;simp only[eT,iz];all_goals rfl⟩
theorem Dw (w:List Nat):∀(i:Nat) (a:Option Nat) (out:List Tok),eE w i=(a,out)→∀t∈out,∃j b k,t=⟨(w.take j).drop b,0,k,b,j⟩:=by
 intro i
 induction i with
 |zero=>intro a out h;cases h;simp
 |succ i ih=>
  intro a out h;obtain⟨c,d,h0⟩:∃c d,eE w i=(c,d):=⟨_,_,rfl⟩;have h1:=ih c d h0;cases hin:inW w i <;> cases c with
  |none=>
   first
   |(rw[nO h0 hin]at h;cases h;exact h1)
   |(rw[kp h0 hin]at h;cases h;exact h1)
  |some c=>
   first
   |(rw[nP h0 hin]at h;cases h
     intro t ht;rcases Xl.1 ht with ht|ht
     ·exact h1 t ht
     ·obtain rfl:=Ui.1 ht;exact⟨_,_,_,rfl⟩)
   |(rw[qj h0 hin]at h;cases h;exact h1)
theorem zd (h:t∈eX w):∃j b k,t=⟨(w.take j).drop b,0,k,b,j⟩:=Dw w _ _ _ rfl t h
theorem wZ (a:∀x∈w,x<256) (h:t∈eX w):(∀x∈t.text,x<256)∧t.text.length≤w.length:=by
 obtain⟨j,b,k,rfl⟩:=zd h;refine⟨λx hx=>a x (Yq (Yp hx)),?_⟩;simp only[Yo,Yg];omega
theorem ly (w:List Nat):(eX w).length≤w.length+1:=(vJ w (w.length+1) _ _ rfl).1
def jW (p:FV) (t:Tok):Option Tok:=match jo p t.text with
 |some u=>if u.length≤64 then some ⟨u,t.value,t.pos,t.st,t.en⟩else none
 |none=>none
def ee (p:FV) (w:List Nat):List Tok:=
 if p.kind=1 then(eX w).filterMap (jW p)
 else if p.kind=2 then(if w.length≤64 then [⟨w,0,0,0,w.length⟩]else [])
 else if p.kind=3 then(match g8 w with
  |some n=>[⟨jf n,0,0,0,w.length⟩]
  |none=>[])
 else []
theorem y5 (h:ob (jo p t.text) r b) (a:b=true):jW p t=some ⟨cF r,t.value,t.pos,t.st,t.en⟩:=by
 rw[jW];cases hc:jo p t.text with
 |none=>rw[hc]at h;subst a;exact absurd h (by simp[ob])
 |some u=>
  rw[hc]at h;obtain⟨h1,h2⟩:=h;subst a;have h3:u.length≤64:=by simpa using h2.symm
  simp only[h3,↓reduceIte,h1]
theorem Bk (h:ob (jo p t.text) r b) (a:b=false):jW p t=none:=by
 rw[jW];cases hc:jo p t.text with
 |none=>rfl
 |some u=>
  rw[hc]at h;obtain⟨h1,h2⟩:=h;subst a;have h3:¬u.length≤64:=by simpa using h2.symm
  simp only[h3,↓reduceIte]
theorem Bv {α β:Type}{f:α→Option β}{l:List α}{i:Nat}{x:α}(h:l[i]? =some x):(l.take (i+1)).filterMap f=(l.take i).filterMap f++(f x).toList:=by
 rw[Ua,h,List.filterMap_append];simp only[S7,List.filterMap_cons,List.filterMap_nil];all_goals (cases f x <;> rfl)
theorem Gf {α β:Type}(f:α→Option β) (l:List α) (i:Nat):((l.take i).filterMap f).length≤l.length:=
 Xi (List.length_filterMap_le _ _) ar
theorem I6 {s d:SV}(hm:Stp.stop s∈ng p d) (h:Sl H d eS (bif p.stop then gQ else [])):Sl H s eS gQ:=by
 obtain⟨n,k,a,b,c⟩:=p;simp only[ng,Xl]at hm;rcases hm with(hm|hm)|hm
 ·cases a <;> simp at hm
 ·cases b with
  |false=>simp at hm
  |true=>simp at hm;subst hm;exact h
 ·cases c <;> simp at hm
theorem Cd (p:FV) (s:SV):(ng p s).length≤3:=by
 obtain⟨n,k,a,b,c⟩:=p;cases a <;> cases b <;> cases c <;> (simp[ng])
theorem Fj {o:Option Int}{v:Value}(h:Hb o v):∃n b,v=.tuple #[.int .i64 n,.bool b]∧((b=true∧o=some n∧ -9223372036854775808≤n∧n≤9223372036854775807)∨(b=false∧o=none)):=by
 cases o with
 |none=>exact⟨0,false,h,.inr ⟨rfl,rfl⟩⟩
 |some n=>exact⟨n,true,h.1,.inl ⟨rfl,rfl,h.2⟩⟩
theorem AM (c:q.size≤1000000000):SC G prog 230 [.string q] H (λv a=>∃n b,v=.tuple #[.int .i64 n,.bool b]∧((b=true∧g8 (cF q)=some n∧ -9223372036854775808≤n∧n≤9223372036854775807)∨(b=false∧g8 (cF q)=none))∧a=H):=
 (KC c).mono λv a h=>cA
theorem B3 (c:q.size≤1000000000):SC G prog 51 [.string q] H (λv a=>∃n b,v=.tuple #[.int .i64 n,.bool b]∧((b=true∧g8 (cF q)=some n∧ -9223372036854775808≤n∧n≤9223372036854775807)∨(b=false∧g8 (cF q)=none))∧a=H):=
 (Lx c).mono λv a h=>cA
theorem JW {u:ByteArray}:SC G prog 104 [.string q,.string u] H (λv a=>∃s:SV,v=s.val∧a=Row s eT [⟨cF q,0,0,0,u.size⟩]::H):=by
 refine sWk func104 ?_;refine ws_ (wr_ (e_ asn (on_ (qn_ (ws_ (wr_ (e_ mv (e_ mv (e_ oe (e_ (bld [(0,_),(4,_)]) (fX eT (k:=λs9=>?_))))))))))));refine gR ?_;exact⟨_,hsb,_,rfl,rfl⟩
end
theorem tOf {G:cJ}{H:cG}{q:ByteArray}(p:FV) [Spc H] (B:jt G) (hq:q.size≤3000000):SC G prog 231 [.agg #[.string p.name,.int .i64 p.kind,.bool p.fold,.bool p.stop,.bool p.stem],.string q] H (λv E=>∃s:SV,v=s.val∧E=Row s eT (ee p (cF q))::H):=by
 have hl:=cI q;refine sWk func231 ?_;refine gk (k:=bxx (k:=λb2=>?_));refine e_ asn (on_ (qn_ (ws_ (wr_ (e_ mv (e_ mv (e_ oe (e_ (bld [(0,_),(4,_)]) (alc (k:=λb5=>?_))))))))));refine go ?_;refine gW (λh1=>?_) λh1=>?_
 ·have hk:p.kind=1:=h1;have hT:ee p (cF q)=(eX (cF q)).filterMap (jW p):=by rw[ee,if_pos hk]
  refine go ?_;refine c1_ rfl (Lf p B) ?_;rintro _ _ ⟨c7,z,rfl,rfl⟩;refine go ?_;refine c1_ rfl (DX a8) ?_;rintro _ _ ⟨s25,rfl,rfl⟩;have hwn:=ly (cF q);refine gk (k:=wl2_ (SV×Nat) (λy=>y.2≤(eX (cF q)).length) (λy=>[(6,y.1.val),(27,iN y.2)]) [(7,_),(25,_),(26,_)] (λy=>[Row y.1 eT (((eX (cF q)).take y.2).filterMap (jW p))]) _ (λy=>(eX (cF q)).length-y.2) ((SV.nil,0)) (h0:=?_) (k:=?_))
  ·exact Yl _
  rintro⟨s,i⟩ hi
  try dsimp only[Yd,Ye]at*
  refine gW (λh2=>?_) λh2=>?_
  ·obtain⟨t,x⟩:∃t,(eX (cF q))[i]? =some t:=⟨_,Yi a8⟩;obtain⟨l,htz⟩:=wZ (jQ q) (Yj x);have u:=ec l;have hts:=gG t.text;have d:=Bv (f:=jW p) x;have hfl:=Gf (jW p) (eX (cF q)) i;refine gk (k:=alc (k:=λb9=>?_));refine go ?_;refine c2_ rfl (DZ (Cd p z) a8 (λs hm=>I6 hm inferInstance)) ?_;rintro _ _ ⟨r,b,rfl,hr,rfl⟩;rw[zk,u]at hr;refine gW (λh3=>?_) λh3=>?_
   ·have a:=y5 hr h3;rw[a,S7]at d;refine gk (k:=fX eT (k:=λs43=>?_));refine app (k:=λj=>?_);rw[←d];refine go ?_;refine lN ((j,i+1)) ?_
    try dsimp only
    omega
   have m:=Bk hr h3;rw[m]at d;rw[Option.toList_none,Ym]at d;rw[←d];refine go ?_;refine lN ((s,i+1)) ?_
   try dsimp only
   omega
  obtain rfl:i=(eX (cF q)).length:=a8;rw[Xk]at*;refine go ?_;refine rT (k:=?_);rw[hT];exact⟨_,hsb,s,rfl,rfl⟩
 have a:¬p.kind=1:=h1;refine gW (λh4=>?_) λh4=>?_
 ·have c:p.kind=2:=h4;refine gW (λC=>?_) λC=>?_
  ·have hT:ee p (cF q)= [⟨cF q,0,0,0,q.size⟩]:=by rw[ee,if_neg a,if_pos c,if_pos a8,hl]
   refine gk (k:=fX eT (k:=λs53=>?_));refine gR ?_;rw[hT];exact⟨_,hsb,_,rfl,rfl⟩
  have hT:ee p (cF q)= []:=by rw[ee,if_neg a,if_pos c,if_neg a8]
  refine gR ?_;rw[hT];exact⟨_,hsb,SV.nil,rfl,rfl⟩
 have c:¬p.kind=2:=h4;refine gW (λh6=>?_) λh6=>?_
 ·have e:p.kind=3:=h6;refine go ?_;refine c1_ rfl (AM a8) ?_;rintro _ _ ⟨n,b,rfl,g,rfl⟩;refine gW (λh=>?_) λh=>?_
  ·obtain⟨w,A⟩:g8 (cF q)=some n∧(-9223372036854775808≤n∧n≤9223372036854775807):=by
    rcases g with⟨_,h1,h2⟩|⟨h1,_⟩
    ·exact⟨h1,h2⟩
    ·rw[h1]at h;cases h
   have hT:ee p (cF q)= [⟨jf n,0,0,0,q.size⟩]:=by rw[ee,if_neg a,if_neg c,if_pos e,w,hl]
   refine go ?_;refine d1_ rfl (MT A) (gk (k:=fX eT (k:=λs66=>?_)));refine gR ?_;rw[hT,ec (Bd n)];exact⟨_,hsb,_,rfl,rfl⟩
  have w:g8 (cF q)=none:=by
   rcases g with⟨h1,_⟩|⟨_,h1⟩
   ·rw[h1]at h;cases h
   ·exact h1
  have hT:ee p (cF q)= []:=by rw[ee,if_neg a,if_neg c,if_pos e,w]
  refine gR ?_;rw[hT];exact⟨_,hsb,SV.nil,rfl,rfl⟩
 have e:¬p.kind=3:=h6;have hT:ee p (cF q)= []:=by rw[ee,if_neg a,if_neg c,if_neg e]
 refine gR ?_;rw[hT];exact⟨_,hsb,SV.nil,rfl,rfl⟩
theorem rOf {G:cJ}{H:cG}{q:ByteArray}(p:FV) (hq:q.size≤3000000):SC G prog 57 [.agg #[.string p.name,.int .i64 p.kind,.bool p.fold,.bool p.stop,.bool p.stem],.string q] H (λv C=>∃s:SV,v=s.val∧C=Row s eT (ee p (cF q))::H):=by
 have hl:=cI q;refine sWk func57 ?_;refine gk (k:=bxx (k:=λb2=>?_));refine go ?_;refine s_ (fK eT rfl) ?_;rintro _ _ ⟨l,rfl,rfl⟩;refine go ?_;refine gW (λh1=>?_) λh1=>?_
 ·have hk:p.kind=1:=h1;have hT:ee p (cF q)=(eX (cF q)).filterMap (jW p):=by rw[ee,if_pos hk]
  refine go ?_;refine c1_ rfl (EN a8) ?_;rintro _ _ ⟨s18,rfl,rfl⟩;have hwn:=ly (cF q);refine gk (k:=wl2_ (SV×Nat) (λy=>y.2≤(eX (cF q)).length) (λy=>[(5,y.1.val),(20,iN y.2)]) [(2,_),(18,_),(19,_)] (λy=>[Row y.1 eT (((eX (cF q)).take y.2).filterMap (jW p))]) _ (λy=>(eX (cF q)).length-y.2) ((l,0)) (h0:=?_) (k:=?_))
  ·exact Yl _
  rintro⟨s,i⟩ hi
  try dsimp only[Yd,Ye]at*
  refine gW (λh2=>?_) λh2=>?_
  ·obtain⟨t,z⟩:∃t,(eX (cF q))[i]? =some t:=⟨_,Yi a8⟩;obtain⟨m,htz⟩:=wZ (jQ q) (Yj z);have w:=ec m;have hts:=gG t.text;have d:=Bv (f:=jW p) z;have hfl:=Gf (jW p) (eX (cF q)) i;refine gk (k:=alc (k:=λb7=>?_));refine go ?_;refine c2_ rfl (ES p a8) ?_;rintro _ _ ⟨r,b,rfl,hr,rfl⟩;rw[w]at hr;refine gW (λh3=>?_) λh3=>?_
   ·have a:=y5 hr h3;rw[a,S7]at d;refine gk (k:=fX eT (k:=λs36=>?_));refine app (k:=λj=>?_);rw[←d];refine go ?_;refine lN ((j,i+1)) ?_
    try dsimp only
    omega
   have u:=Bk hr h3;rw[u]at d;rw[Option.toList_none,Ym]at d;rw[←d];refine go ?_;refine lN ((s,i+1)) ?_
   try dsimp only
   omega
  obtain rfl:i=(eX (cF q)).length:=a8;rw[Xk]at*;refine gR ?_;rw[hT];exact⟨_,hsb,s,rfl,rfl⟩
 have a:¬p.kind=1:=h1;refine gW (λh4=>?_) λh4=>?_
 ·have c:p.kind=2:=h4;refine gW (λB=>?_) λB=>?_
  ·have hT:ee p (cF q)= [⟨cF q,0,0,0,q.size⟩]:=by rw[ee,if_neg a,if_pos c,if_pos a8,hl]
   refine go ?_;refine c2_ rfl JW ?_;rintro _ _ ⟨s46,rfl,rfl⟩;refine gR ?_;rw[hT];exact⟨_,hsb,_,rfl,rfl⟩
  have hT:ee p (cF q)= []:=by rw[ee,if_neg a,if_pos c,if_neg a8]
  refine gR ?_;rw[hT];exact⟨_,hsb,_,rfl,rfl⟩
 have c:¬p.kind=2:=h4;refine gW (λh6=>?_) λh6=>?_
 ·have e:p.kind=3:=h6;refine go ?_;refine c1_ rfl (B3 a8) ?_;rintro _ _ ⟨n,b,rfl,g,rfl⟩;refine gW (λh=>?_) λh=>?_
  ·obtain⟨x,A⟩:g8 (cF q)=some n∧(-9223372036854775808≤n∧n≤9223372036854775807):=by
    rcases g with⟨_,h1,h2⟩|⟨h1,_⟩
    ·exact⟨h1,h2⟩
    ·rw[h1]at h;cases h
   have hT:ee p (cF q)= [⟨jf n,0,0,0,q.size⟩]:=by rw[ee,if_neg a,if_neg c,if_pos e,x,hl]
   refine go ?_;refine d1_ rfl (NT A) (go ?_);refine c2_ rfl JW ?_;rintro _ _ ⟨s58,rfl,rfl⟩;refine gR ?_;rw[hT,ec (Bd n)];exact⟨_,hsb,_,rfl,rfl⟩
  have x:g8 (cF q)=none:=by
   rcases g with⟨h1,_⟩|⟨_,h1⟩
   ·rw[h1]at h;cases h
   ·exact h1
  have hT:ee p (cF q)= []:=by rw[ee,if_neg a,if_neg c,if_pos e,x]
  refine gR ?_;rw[hT];exact⟨_,hsb,_,rfl,rfl⟩
 have e:¬p.kind=3:=h6;have hT:ee p (cF q)= []:=by rw[ee,if_neg a,if_neg c,if_neg e]
 refine gR ?_;rw[hT];exact⟨_,hsb,_,rfl,rfl⟩
section
variable {i:Nat}{out:List Tok}{p:FV}{v:ByteArray×ByteArray}{vs:List (ByteArray×ByteArray)}
def eVl:Enc (ByteArray×ByteArray):=⟨λp=>[.string p.1,.string p.2],2,true,λ_=>rfl,λp v h=>by simp at h;rcases h with rfl|rfl <;> rfl,ae,λh=>aI,ae⟩
instance {p:ByteArray×ByteArray}:kX eVl p (.agg [.string p.1,.string p.2].toArray):=⟨rfl⟩
instance {a b:ByteArray}:i6 eVl (.agg [.string a,.string b].toArray) (a,b):=⟨rfl⟩
instance {l:List Nat}{a b c d:Nat}:i6 eT (.agg [.string (dQ l),.int .i64 ((a:Nat):Int),.int .i64 ((b:Nat):Int),.int .i64 ((c:Nat):Int),.int .i64 ((d:Nat):Int)].toArray) ⟨l,a,b,c,d⟩:=⟨rfl⟩
theorem evq {G:cJ}{P:Program}{o:Oper}{t:Tm}{H:cG}{u v:Value}(h:Ev G P o t H u) (e:u=v):Ev G P o t H v:=e ▸ h
theorem Hk (w:List Nat):∀(i:Nat) (a:Option Nat) (out:List Tok),eE w i=(a,out)→∀t∈out,t.pos≤out.length:=by
 intro i
 induction i with
 |zero=>intro a out h;cases h;simp
 |succ i ih=>
  intro a out h;obtain⟨b,c,h0⟩:∃b c,eE w i=(b,c):=⟨_,_,rfl⟩;have h1:=ih b c h0;cases hin:inW w i <;> cases b with
  |none=>
   first
   |(rw[nO h0 hin]at h;cases h;exact h1)
   |(rw[kp h0 hin]at h;cases h;exact h1)
  |some b=>
   first
   |(rw[nP h0 hin]at h;cases h
     intro t ht;simp only[Ya,Yb,Yc];rcases Xl.1 ht with ht|ht
     ·have:=h1 t ht;omega
     ·obtain rfl:=Ui.1 ht;show c.length≤_;omega)
   |(rw[qj h0 hin]at h;cases h;exact h1)
theorem x8 {w:List Nat}{t:Tok}(h:t∈ee p w):t.pos≤w.length+1:=by
 rw[ee]at h
 split at h
 ·obtain⟨a,h0,hk⟩:=List.mem_filterMap.1 h;have h1:a.pos≤(eX w).length:=Hk w _ _ _ rfl a h0;have h2:=ly w;rw[jW]at hk
  split at hk
  ·split at hk
   ·cases hk;show a.pos≤_;omega
   ·cases hk
  ·cases hk
 ·split at h
  ·split at h
   ·obtain rfl:=Ui.1 h;exact Yl _
   ·cases h
  ·split at h
   ·split at h
    ·obtain rfl:=Ui.1 h;exact Yl _
    ·cases h
   ·cases h
theorem pa (p:FV) (w:List Nat):(ee p w).length≤w.length+1:=by
 rw[ee]
 split
 ·exact Xi (List.length_filterMap_le _ _) (ly w)
 ·split
  ·split <;> simp
  ·split
   ·split <;> simp
   ·simp
def rh (i b:Nat) (t:Tok):Tok:=⟨t.text,i,t.pos+b,t.st,t.en⟩
def fP (p:FV) (w:List Nat):Nat:=if p.kind=1 then(eX w).length else 1
def fk (p:FV) (vs:List (ByteArray×ByteArray)):Nat→Nat×List Tok
 | 0=>(0, [])
 |i+1=>match vs[i]? with
  |none=>fk p vs i
  |some v=>if cF v.1=cF p.name then((fk p vs i).1+(fP p (cF v.2)+16),(fk p vs i).2++(ee p (cF v.2)).map (rh i (fk p vs i).1))else fk p vs i
def dB (fs:List FV) (k:Nat) (vs:List (ByteArray×ByteArray)):List Tok:=match fs[k]? with
 |some p=>(fk p vs vs.length).2
 |none=>[]
def vsz (vs:List (ByteArray×ByteArray)):Nat:=(vs.map λv=>v.2.size+20).sum
theorem sn (h:vs[i]? =some v):vsz (vs.take (i+1))=vsz (vs.take i)+(v.2.size+20):=by
 simp[vsz,Ua,h]
theorem l5:∀(l:List Nat) (i:Nat),(l.take i).sum≤l.sum
 | [],i=>ak
 |x::l,0=>ak
 |x::l,i+1=>by
  have:=l5 l i;simp only[Vj,Vn];omega
theorem so (vs:List (ByteArray×ByteArray)) (i:Nat):vsz (vs.take i)≤vsz vs:=by
 rw[vsz,vsz,List.map_take];exact l5 _ _
theorem wm {b:Nat}(h:fk p vs i=(b,out)) (hv:vs[i]? =some v) (a:¬cF v.1=cF p.name):fk p vs (i+1)=(b,out):=by
 rw[fk,hv];simp only[if_neg a];exact h
theorem rL {b:Nat}(h:fk p vs i=(b,out)) (hv:vs[i]? =some v) (a:cF v.1=cF p.name):fk p vs (i+1)=(b+(fP p (cF v.2)+16),out++(ee p (cF v.2)).map (rh i b)):=by
 rw[fk,hv];simp only[if_pos a,h]
theorem sj (p:FV) (w:List Nat):fP p w≤w.length+1:=by
 rw[fP];split
 ·exact ly w
 ·omega
theorem wq (p:FV) (vs:List (ByteArray×ByteArray)):∀(i b:Nat) (out:List Tok),fk p vs i=(b,out)→b≤vsz (vs.take i)∧out.length≤vsz (vs.take i):=by
 intro i
 induction i with
 |zero=>intro b out h;cases h;simp
 |succ i ih=>
  intro b out h;obtain⟨c,a,h0⟩:∃c a,fk p vs i=(c,a):=⟨_,_,rfl⟩;obtain⟨h1,h2⟩:=ih c a h0;cases hv:vs[i]? with
  |none=>
   have e:fk p vs (i+1)=fk p vs i:=by rw[fk,hv]
   rw[e,h0]at h;cases h;have:vs.take (i+1)=vs.take i:=by rw[Ua,hv];simp
   rw[this];exact⟨h1,h2⟩
  |some v=>
   rw[sn hv];have hl:=cI v.2
   by_cases hn:cF v.1=cF p.name
   ·rw[rL h0 hv hn]at h;cases h;have h3:=sj p (cF v.2);have h4:=pa p (cF v.2);simp only[Ya,Yh];omega
   ·rw[wm h0 hv hn]at h;cases h;omega
theorem w7 {α β:Type}{f:α→β}{l:List α}{j:Nat}{x:α}(h:l[j]? =some x):(l.take (j+1)).map f=(l.take j).map f++ [f x]:=by
 rw[Ua,h];simp
end
theorem L8 {G:cJ}{H:cG}{fv w:SV}{fs:List FV}{k:Nat}{vs:List (ByteArray×ByteArray)} [hf:Sl H fv eF fs] [hv:Sl H w eVl vs] [Spc H] (C:jt G) (hk:k≤1000000) (hfl:fs.length≤1000000) (hn:vs.length≤100000000) (B:∀v∈vs,v.2.size≤3000000) (hz:vsz vs≤1000000000):SC G prog 151 [.agg #[fv.val],iN k,w.val] H (λv F=>∃s:SV,v=s.val∧F=Row s eT (dB fs k vs)::H):=by
 refine sWk func151 ?_;refine ws_ (wr_ (bxx (k:=λb3=>?_)));refine e_ asn (on_ (qn_ (ws_ (ws_ (wr_ (e_ mv (e_ ilt (e_ mv (dz 6 23 (k:=λh1=>eg_ mv (eg_ fla (eg_ ldv (eg_ lnn (eg_ ige (e_ pkf (on_ edq))))))) (q:=on_ (qn_ (wi_ (k:=λh2=>?_) (m:=λh2=>?_)))))))))))))
 ·have hT:dB fs k vs= []:=by rw[dB,Ve a8]
  refine ws_ (wr_ (e_ asn (on_ (qn_ (wt_ (qr_ (rT (k:=?_))))))));rw[hT];exact⟨_,hsb,SV.nil,rfl,rfl⟩
 obtain⟨p,hp⟩:=gE fs k;have hT:dB fs k vs=(fk p vs vs.length).2:=by rw[dB,hp]
 refine wk_ (qn_ (ws_ (wr_ (e_ fla (e_ ldv (e_ mv (e_ ixa (e_ od (alc (k:=λb7=>?_))))))))));refine sto (k:=on_ (qn_ (ws_ (wr_ (e_ asn (on_ (qn_ (ws_ (wr_ (e_ asn (on_ (qn_ (ws_ ?_)))))))))))));refine ws_ (wr_ (e_ mv (e_ lnn (e_ mv (on_ (qn_ (wb_ (wl2_ (SV×Nat×Nat×(List Tok)) (λy=>y.2.1≤vs.length∧fk p vs y.2.1=(y.2.2.1,y.2.2.2)) (λy=>[(8,y.1.val),(9,iN y.2.2.1),(31,iN y.2.1)]) [(7,_),(29,_),(30,_)] (λy=>[Row y.1 eT y.2.2.2]) _ (λy=>vs.length-y.2.1) ((SV.nil,0,0, [])) (h0:=?_) (k:=?_)))))))))
 ·exact⟨Yl _,rfl⟩
 rintro⟨s,i,b,out⟩ ⟨hi,c⟩
 try dsimp only[Yd,Ye]at*
 refine ws_ (wr_ (e_ ilt (on_ (qn_ (ws_ (wi_ (k:=λh3=>?_) (m:=λh3=>?_)))))))
 ·obtain⟨v,a⟩:=gE vs i;have hvq:=B v (Yj a);have hvl:=cI v.2;have hle:=wq p vs i b out c;have hzi:=so vs i;have n:=so vs (i+1);rw[sn a]at n;refine wk_ (qn_ (ws_ (wb_ (ws_ (wr_ (e_ mv (e_ ixa (e_ od (alc (k:=λb11=>?_))))))))));refine e_ asn (sto (k:=on_ (qn_ (ws_ (ws_ (wr_ (e_ fla (e_ ldv (e_ fla (e_ ldv (e_ Ic (on_ (qn_ ?_)))))))))))));refine wi_ (k:=λh4=>?_) (m:=λh4=>?_)
  ·have r:=wm c a h4;refine we_ (qe_ (bh_ (qn_ (wr_ (e_ iad (e_ mv (on_ ?_)))))));refine lN ((s,i+1,b,out)) ?_
   exact⟨a8,r⟩
  have e:=rL c a (by have h:=h4;simpa using h);have htl:=pa p (cF v.2);refine wk_ (qn_ (ws_ (ws_ (wr_ (e_ lds (e_ fla (e_ ldv ?_)))))));refine c2_ rfl (tOf p C a8) ?_;rintro _ _ ⟨s44,rfl,rfl⟩;refine e_ lnn (e_ mv (on_ (qn_ (wb_ (wl2_ (SV×Nat×(List Tok)) (λy=>y.2.1≤(ee p (cF v.2)).length∧y.2.2=out++((ee p (cF v.2)).take y.2.1).map (rh i b)) (λy=>[(8,y.1.val),(46,iN y.2.1)]) [(7,_),(9,_),(10,_),(11,_),(29,_),(30,_),(31,_),(44,_),(45,_)] (λy=>[Row y.1 eT y.2.2]) _ (λy=>(ee p (cF v.2)).length-y.2.1) ((s,0,out)) (h0:=?_) (k:=?_))))))
  ·exact⟨Yl _,ak⟩
  rintro⟨x,j,g⟩ ⟨hj,d⟩
  try dsimp only[Yd,Ye]at*
  refine ws_ (wr_ (e_ ilt (on_ (qn_ (ws_ (wi_ (k:=λE=>?_) (m:=λE=>?_)))))))
  ·obtain⟨t,z⟩:∃t,(ee p (cF v.2))[j]? =some t:=⟨_,Yi a8⟩;have htp:=x8 (Yj z);have u:=w7 (f:=rh i b) z;have hol:g.length≤out.length+j:=by rw[d,Ya,Yh,Yg];omega
   refine wk_ (qn_ (ws_ (wb_ (ws_ (wr_ (e_ ixa (e_ od (alc (k:=λb13=>?_)))))))));refine sto (k:=on_ (qn_ (ws_ (wr_ (e_ mv (e_ fla (sto (k:=on_ (qn_ (ws_ (wr_ (e_ fla (e_ ldv ?_)))))))))))));refine e_ mv ?_;refine e_ (evq iad (congrArg (Value.int .i64) (show _=((t.pos+b:Nat):Int)from a8))) ?_;refine e_ fla (sto (k:=on_ (qn_ (wr_ (e_ mv (e_ lds (fX eT (k:=λs59=>?_))))))));refine app (k:=λl=>?_);refine e_ asn (on_ (bn_ (qn_ (wr_ (e_ iad (e_ mv (on_ ?_)))))));refine lN ((l,j+1,g++ [rh i b t])) ?_
   try dsimp only
   exact⟨a8,by rw[u,←Yf,←d]⟩
  obtain rfl:j=(ee p (cF v.2)).length:=a8;rw[Xk]at d;rw[←d]at e;have hwl:=sj p (cF v.2);refine we_ (qe_ (le_ (bh_ (qn_ (ws_ (wr_ (e_ asn (on_ (qn_ (ws_ (ws_ (wr_ (e_ fla ?_)))))))))))));refine e_ ldv (e_ ieq (on_ (qn_ (wi_ (k:=λh6=>?_) (m:=λh6=>?_)))))
  ·have A:fP p (cF v.2)=(eX (cF v.2)).length:=by rw[fP,if_pos cD]
   refine wr_ (e_ fla (e_ ldv ?_));refine c1_ rfl (DX a8) ?_;rintro _ _ ⟨s67,rfl,rfl⟩;refine e_ lnn (e_ asn (on_ (qn_ (wr_ (e_ mv (e_ mv (e_ iad ?_)))))));refine e_ (evq iad (congrArg (Value.int .i64) (show _=((b+(fP p (cF v.2)+16):Nat):Int)from a8))) ?_;refine e_ asn (on_ (bn_ (qn_ (wr_ (e_ iad (e_ mv (on_ ?_)))))));refine lN ((x,i+1,b+(fP p (cF v.2)+16),g)) ?_
   exact⟨a8,e⟩
  have A:fP p (cF v.2)=1:=by rw[fP,if_neg cD]
  refine wk_ (qn_ (wr_ (e_ mv (e_ mv (e_ iad ?_)))));refine e_ (evq iad (congrArg (Value.int .i64) (show _=((b+(fP p (cF v.2)+16):Nat):Int)from a8))) ?_;refine e_ asn (on_ (bn_ (qn_ (wr_ (e_ iad (e_ mv (on_ ?_)))))));refine lN ((x,i+1,b+(fP p (cF v.2)+16),g)) ?_
  exact⟨a8,e⟩
 obtain rfl:i=vs.length:=a8;rw[c]at hT;refine we_ (qe_ (le_ (bh_ (qn_ (ws_ (wr_ (e_ mv (e_ asn (on_ (qn_ (wt_ (rT (k:=?_)))))))))))));rw[hT];exact⟨_,hsb,s,rfl,rfl⟩
theorem ER {G:cJ}{H:cG}{fv x:SV}{fs:List FV}{k:Nat}{vs:List (ByteArray×ByteArray)} [hf:Sl H fv eF fs] [hv:Sl H x eVl vs] (hk:k≤1000000) (hfl:fs.length≤1000000) (hn:vs.length≤100000000) (C:∀v∈vs,v.2.size≤3000000) (hz:vsz vs≤1000000000):SC G prog 26 [.agg #[fv.val],iN k,x.val] H (λv F=>∃s:SV,v=s.val∧F=Row s eT (dB fs k vs)::H):=by
 refine sWk func26 ?_;refine ws_ (wr_ (bxx (k:=λb3=>?_)));refine e_ asn (on_ (qn_ (ws_ (wr_ ?_))));refine s_ (fK eT rfl) ?_;rintro _ _ ⟨n,rfl,rfl⟩;refine e_ asn (on_ (qn_ (ws_ (ws_ (wr_ (e_ mv (e_ ilt (e_ mv (dz 6 24 (k:=λh1=>eg_ mv (eg_ fla (eg_ ldv (eg_ lnn (eg_ ige (e_ pkf (on_ edq))))))) (q:=on_ (qn_ (wi_ (k:=λh2=>?_) (m:=λh2=>?_)))))))))))))
 ·have hT:dB fs k vs= []:=by rw[dB,Ve a8]
  refine ws_ (wr_ (e_ mv (e_ asn (on_ (qn_ (wt_ (qr_ (rT (k:=?_)))))))));rw[hT];exact⟨_,hsb,_,rfl,rfl⟩
 obtain⟨p,hp⟩:=gE fs k;have hT:dB fs k vs=(fk p vs vs.length).2:=by rw[dB,hp]
 refine wk_ (qn_ (ws_ (wr_ (e_ fla (e_ ldv (e_ mv (e_ ixa (e_ od (alc (k:=λb8=>?_))))))))));refine sto (k:=on_ (qn_ (ws_ (wr_ (e_ asn (on_ (qn_ (ws_ (ws_ (wr_ (e_ mv (e_ lnn (e_ mv ?_)))))))))))));refine on_ (qn_ (wb_ (wl2_ (SV×Nat×Nat×(List Tok)) (λy=>y.2.1≤vs.length∧fk p vs y.2.1=(y.2.2.1,y.2.2.2)) (λy=>[(7,y.1.val),(9,iN y.2.2.1),(33,iN y.2.1)]) [(8,_),(31,_),(32,_)] (λy=>[Row y.1 eT y.2.2.2]) _ (λy=>vs.length-y.2.1) ((n,0,0, [])) (h0:=?_) (k:=?_))))
 ·exact⟨Yl _,rfl⟩
 rintro⟨s,i,b,out⟩ ⟨hi,c⟩
 try dsimp only[Yd,Ye]at*
 refine ws_ (wr_ (e_ ilt (on_ (qn_ (ws_ (wi_ (k:=λh3=>?_) (m:=λh3=>?_)))))))
 ·obtain⟨v,a⟩:=gE vs i;have hvq:=C v (Yj a);have hvl:=cI v.2;have hle:=wq p vs i b out c;have hzi:=so vs i;have r:=so vs (i+1);rw[sn a]at r;refine wk_ (qn_ (ws_ (wb_ (ws_ (wr_ (e_ mv (e_ ixa (e_ od (alc (k:=λb11=>?_))))))))));refine e_ asn (sto (k:=on_ (qn_ (ws_ (ws_ (wr_ (e_ fla (e_ ldv (e_ fla (e_ ldv (e_ Ic (on_ (qn_ ?_)))))))))))));refine wi_ (k:=λh4=>?_) (m:=λh4=>?_)
  ·have u:=wm c a h4;refine we_ (qe_ (bh_ (qn_ (wr_ (e_ iad (e_ mv (on_ ?_)))))));refine lN ((s,i+1,b,out)) ?_
   exact⟨a8,u⟩
  have e:=rL c a (by have h:=h4;simpa using h);have htl:=pa p (cF v.2);refine wk_ (qn_ (ws_ (ws_ (wr_ (e_ lds (e_ fla (e_ ldv ?_)))))));refine c2_ rfl (rOf p a8) ?_;rintro _ _ ⟨s46,rfl,rfl⟩;refine e_ lnn (e_ mv (on_ (qn_ (wb_ (wl2_ (SV×Nat×(List Tok)) (λy=>y.2.1≤(ee p (cF v.2)).length∧y.2.2=out++((ee p (cF v.2)).take y.2.1).map (rh i b)) (λy=>[(7,y.1.val),(48,iN y.2.1)]) [(8,_),(9,_),(10,_),(11,_),(31,_),(32,_),(33,_),(46,_),(47,_)] (λy=>[Row y.1 eT y.2.2]) _ (λy=>(ee p (cF v.2)).length-y.2.1) ((s,0,out)) (h0:=?_) (k:=?_))))))
  ·exact⟨Yl _,ak⟩
  rintro⟨z,j,g⟩ ⟨hj,d⟩
  try dsimp only[Yd,Ye]at*
  refine ws_ (wr_ (e_ ilt (on_ (qn_ (ws_ (wi_ (k:=λE=>?_) (m:=λE=>?_)))))))
  ·obtain⟨t,A⟩:∃t,(ee p (cF v.2))[j]? =some t:=⟨_,Yi a8⟩;have htp:=x8 (Yj A);have w:=w7 (f:=rh i b) A;have hol:g.length≤out.length+j:=by rw[d,Ya,Yh,Yg];omega
   refine wk_ (qn_ (ws_ (wb_ (ws_ (wr_ (e_ ixa (e_ od (alc (k:=λb13=>?_)))))))));refine sto (k:=on_ (qn_ (ws_ (wr_ (e_ mv (e_ fla (sto (k:=on_ (qn_ (ws_ (wr_ (e_ fla (e_ ldv ?_)))))))))))));refine e_ mv ?_;refine e_ (evq iad (congrArg (Value.int .i64) (show _=((t.pos+b:Nat):Int)from a8))) ?_;refine e_ fla (sto (k:=on_ (qn_ (wr_ (e_ mv (e_ lds (fX eT (k:=λs61=>?_))))))));refine app (k:=λl=>?_);refine e_ asn (on_ (bn_ (qn_ (wr_ (e_ iad (e_ mv (on_ ?_)))))));refine lN ((l,j+1,g++ [rh i b t])) ?_
   try dsimp only
   exact⟨a8,by rw[w,←Yf,←d]⟩
  obtain rfl:j=(ee p (cF v.2)).length:=a8;rw[Xk]at d;rw[←d]at e;have hwl:=sj p (cF v.2);refine we_ (qe_ (le_ (bh_ (qn_ (ws_ (wr_ (e_ asn (on_ (qn_ (ws_ (ws_ (wr_ (e_ fla ?_)))))))))))));refine e_ ldv (e_ ieq (on_ (qn_ (wi_ (k:=λh6=>?_) (m:=λh6=>?_)))))
  ·have B:fP p (cF v.2)=(eX (cF v.2)).length:=by rw[fP,if_pos cD]
   refine wr_ (e_ fla (e_ ldv ?_));refine c1_ rfl (EN a8) ?_;rintro _ _ ⟨s69,rfl,rfl⟩;refine e_ lnn (e_ asn (on_ (qn_ (wr_ (e_ mv (e_ mv (e_ iad ?_)))))));refine e_ (evq iad (congrArg (Value.int .i64) (show _=((b+(fP p (cF v.2)+16):Nat):Int)from a8))) ?_;refine e_ asn (on_ (bn_ (qn_ (wr_ (e_ iad (e_ mv (on_ ?_)))))));refine lN ((z,i+1,b+(fP p (cF v.2)+16),g)) ?_
   exact⟨a8,e⟩
  have B:fP p (cF v.2)=1:=by rw[fP,if_neg cD]
  refine wk_ (qn_ (wr_ (e_ mv (e_ mv (e_ iad ?_)))));refine e_ (evq iad (congrArg (Value.int .i64) (show _=((b+(fP p (cF v.2)+16):Nat):Int)from a8))) ?_;refine e_ asn (on_ (bn_ (qn_ (wr_ (e_ iad (e_ mv (on_ ?_)))))));refine lN ((z,i+1,b+(fP p (cF v.2)+16),g)) ?_
  exact⟨a8,e⟩
 obtain rfl:i=vs.length:=a8;rw[c]at hT;refine we_ (qe_ (le_ (bh_ (qn_ (ws_ (wr_ (e_ mv (e_ asn (on_ (qn_ (wt_ (rT (k:=?_)))))))))))));rw[hT];exact⟨_,hsb,s,rfl,rfl⟩
section
variable {G:cJ}{H:cG}{fs:List FV}{q:ByteArray}{s:SV}{w:List Nat}
def iX (k:Int) (w:List Nat):Bool:=
 if k=2 then !decide (w= [])&&decide (w.length≤64)else if k=3 then(g8 w).isSome else true
theorem Ks {k:Int}(hq:q.size≤1000000000):SC G prog 150 [.int .i64 k,.string q] H (λv e=>v=.bool (iX k (cF q))∧e=H):=by
 have hl:=cI q;refine sWk func150 ?_;refine go ?_;refine gW (λh1=>?_) λh1=>?_
 ·have hk:k=2:=h1;refine gk (k:=e_ Ic (gk (k:=cQ 4 16 (k:=λh2=>gk (k:=edq)) (q:=gR ?_))));refine⟨_,hsb,vb ?_,rfl⟩;rw[iX,if_pos hk,hl];simp only[Xu,Vq,Xx,Xs]
  constructor
  ·rintro⟨h1,h2⟩;exact⟨h1,a8⟩
  ·rintro⟨h1,h2⟩;exact⟨h1,a8⟩
 have c:¬k=2:=h1;refine gW (λh3=>?_) λh3=>?_
 ·have a:k=3:=h3;refine go ?_;refine c1_ rfl (AM a8) ?_;rintro _ _ ⟨n,b,rfl,d,rfl⟩;refine go ?_;refine gR ?_;refine⟨_,hsb,?_,rfl⟩;rw[iX,if_neg c,if_pos a];rcases d with⟨h1,h2,_⟩|⟨h1,h2⟩ <;> rw[h1,h2] <;> rfl
 have a:¬k=3:=h3;refine gR ?_;refine⟨_,hsb,?_,rfl⟩;rw[iX,if_neg c,if_neg a];all_goals rfl
def fJ (fs:List FV) (w:List Nat):Option Nat:=fs.findIdx? λp=>decide (cF p.name=w)
theorem wx {i:Nat}{p:FV}(h:fs[i]? =some p) (a:cF p.name=w) (b:∀j p',j<i→fs[j]? =some p'→¬cF p'.name=w):fJ fs w=some i:=by
 have hi:=(Yk.1 h).1;have e:fs[i]=p:=(Yk.1 h).2;rw[fJ,List.findIdx?_eq_some_iff_getElem];refine⟨hi,by simp[e,a],λj hj=>?_⟩;have:=b j fs[j] hj (Yi a8)
 simpa using this
theorem qG (a:∀j p',j<fs.length→fs[j]? =some p'→¬cF p'.name=w):fJ fs w=none:=by
 rw[fJ,List.findIdx?_eq_none_iff];intro p hp;obtain⟨j,hj⟩:=Vy.1 hp
 simpa using a j p (Yk.1 hj).1 hj
theorem NY [hs:Sl H s eF fs] (hn:fs.length≤1000000000):SC G prog 50 [.agg #[s.val],.string q] H (λv h=>∃(k:Nat) (b:Bool),v=.tuple #[iN k,.bool b]∧((b=true∧fJ fs (cF q)=some k)∨(b=false∧fJ fs (cF q)=none))∧h=H):=by
 refine sWk func50 ?_;refine gk (k:=bxx (k:=λb2=>?_));refine go ?_;refine wl2_ Nat (λy=>y≤fs.length∧∀j p,j<y→fs[j]? =some p→¬cF p.name=cF q) (λy=>[(11,iN y)]) [(1,_),(9,_),(10,_)] (λy=>[]) _ (λy=>fs.length-y) (0) (h0:=?_) (k:=?_)
 ·exact⟨Yl _,λj e hj=>absurd hj (Up _)⟩
 rintro i ⟨hi,a⟩
 try dsimp only[Yd,Ye]at*
 refine gW (λh1=>?_) λh1=>?_
 ·obtain⟨p,hp⟩:=gE fs i;refine gk (k:=alc (k:=λb7=>?_));refine gk (k:=e_ np (gW (λh2=>?_) (λh2=>?_)))
  ·have f:=wx hp h2 a;refine gR ?_;exact⟨_,hsb,i,true,rfl,.inl ⟨rfl,f⟩,rfl⟩
  have d:=h2;refine go ?_;refine lN (i+1) ?_
  try dsimp only
  refine⟨a8,λj g hj c=>?_⟩
  by_cases e0:j=i
  ·subst e0;rw[hp]at c;cases c;exact d
  ·exact a j g a8 c
 have f:fJ fs (cF q)=none:=qG λj p hj=>a j p a8;refine gR ?_;exact⟨_,hsb,0,false,rfl,.inr ⟨rfl,f⟩,rfl⟩
theorem Nq [hs:Sl H s eF fs] (hn:fs.length≤1000000000):SC G prog 243 [.agg #[s.val],.string q] H (λv h=>∃(k:Nat) (b:Bool),v=.tuple #[iN k,.bool b]∧((b=true∧fJ fs (cF q)=some k)∨(b=false∧fJ fs (cF q)=none))∧h=H):=by
 refine sWk func243 ?_;refine gk (k:=bxx (k:=λb2=>?_));refine go ?_;refine wl2_ Nat (λy=>y≤fs.length∧∀j p,j<y→fs[j]? =some p→¬cF p.name=cF q) (λy=>[(11,iN y)]) [(1,_),(9,_),(10,_)] (λy=>[]) _ (λy=>fs.length-y) (0) (h0:=?_) (k:=?_)
 ·exact⟨Yl _,λj e hj=>absurd hj (Up _)⟩
 rintro i ⟨hi,a⟩
 try dsimp only[Yd,Ye]at*
 refine gW (λh1=>?_) λh1=>?_
 ·obtain⟨p,hp⟩:=gE fs i;refine gk (k:=alc (k:=λb7=>?_));refine gk (k:=e_ np (gW (λh2=>?_) (λh2=>?_)))
  ·have f:=wx hp h2 a;refine gR ?_;exact⟨_,hsb,i,true,rfl,.inl ⟨rfl,f⟩,rfl⟩
  have d:=h2;refine go ?_;refine lN (i+1) ?_
  try dsimp only
  refine⟨a8,λj g hj c=>?_⟩
  by_cases e0:j=i
  ·subst e0;rw[hp]at c;cases c;exact d
  ·exact a j g a8 c
 have f:fJ fs (cF q)=none:=qG λj p hj=>a j p a8;refine gR ?_;exact⟨_,hsb,0,false,rfl,.inr ⟨rfl,f⟩,rfl⟩
end
section
variable {G:cJ}{H:cG}{x:Nat}
def cX (n:Nat):Nat:=if n=0 then 0 else Nat.log2 n+1
theorem jI (n:Nat):n<2^cX n:=by
 rw[cX];split
 ·omega
 ·exact Nat.lt_log2_self
theorem iG {n:Nat}(h:n≠0):2^(cX n-1)≤n:=by
 rw[cX,if_neg h,Uj];exact Nat.log2_self_le h
theorem jJ {n k:Nat}(h1:2^k≤n) (h2:n<2^(k+1)):cX n=k+1:=by
 have h0:n≠0:=by have:=U5 k;omega
 rw[cX,if_neg h0];have h3:Nat.log2 n<k+1:=(Nat.log2_lt h0).2 h2;have h4:¬Nat.log2 n<k:=λh=>by have:=(Nat.log2_lt h0).1 h;omega
 omega
theorem ek (n k:Nat) (h:2^k≤n):cX n=cX (n/2^k)+k:=by
 have hp:=U5 k;have h0:n/2^k≠0:=by
  have:=Nat.div_pos h hp;omega
 obtain⟨m,hm⟩:∃m,cX (n/2^k)=m+1:=⟨Nat.log2 (n/2^k),by rw[cX,if_neg h0]⟩;have h1:=iG h0;have h2:=jI (n/2^k);rw[hm]at h1 h2⊢;rw[Uj]at h1;rw[show m+1+k=(m+k)+1 from a8];apply jJ
 ·rw[Ud];exact(Nat.le_div_iff_mul_le hp).1 h1
 ·rw[show m+k+1=(m+1)+k from a8,Ud];exact(Nat.div_lt_iff_lt_mul hp).1 h2
def zO:ByteArray:=⟨#[0,1,2,2,3,3,3,3,4,4,4,4,4,4,4,4,5,5,5,5,5,5,5,5,5,5,5,5,5,5,5,5,6,6,6,6,6,6,6,6,6,6,6,6,6,6,6,6,6,6,6,6,6,6,6,6,6,6,6,6,6,6,6,6,7,7,7,7,7,7,7,7,7,7,7,7,7,7,7,7,7,7,7,7,7,7,7,7,7,7,7,7,7,7,7,7,7,7,7,7,7,7,7,7,7,7,7,7,7,7,7,7,7,7,7,7,7,7,7,7,7,7,7,7,7,7,7,7,8,8,8,8,8,8,8,8,8,8,8,8,8,8,8,8,8,8,8,8,8,8,8,8,8,8,8,8,8,8,8,8,8,8,8,8,8,8,8,8,8,8,8,8,8,8,8,8,8,8,8,8,8,8,8,8,8,8,8,8,8,8,8,8,8,8,8,8,8,8,8,8,8,8,8,8,8,8,8,8,8,8,8,8,8,8,8,8,8,8,8,8,8,8,8,8,8,8,8,8,8,8,8,8,8,8,8,8,8,8,8,8,8,8,8,8,8,8,8,8,8,8,8,8,8,8,8,8]⟩
theorem Hy:∀i:Fin 256,at0 (cF zO) i.val=cX i.val:=ao
theorem nf {i:Nat}(h:i<256):at0 (cF zO) i=cX i:=Hy ⟨i,h⟩
theorem bl8 (n:Nat) (h:n<256):cX n≤8:=by
 by_cases h0:n=0
 ·subst h0;decide
 ·have h1:=iG h0;rcases U9 8 (cX n)with h2|h2
  ·exfalso;have h3:2^8≤2^(cX n-1):=Vx ae a8;omega
  ·exact h2
theorem xZ:zO.size=256:=rfl
theorem E8 (hx:x<18446744073709551616):SC G prog 225 [uN x] H (λv f=>v=iN (cX x)∧f=H):=by
 have hsz:=xZ;refine sWk func225 ?_;refine gW (λh1=>?_) λh1=>?_
 ·have hs1:=ek x 32 a8;refine ws_ (wr_ (e_ mv ?_));refine e_ (du rfl rfl _ 32 rfl rfl aq) (go ?_);refine wi_ (k:=λh2=>?_) (m:=λh2=>?_)
  ·first|have c:=ek (x/2^32) 16 a8|have c:=ek x 16 a8
   refine ws_ (wr_ (e_ mv ?_));refine e_ (du rfl rfl _ 16 rfl rfl aq) (go ?_);refine gW (λh3=>?_) λh3=>?_
   ·first|have b:=ek (x/2^32/2^16) 8 a8|have b:=ek (x/2^32) 8 a8|have b:=ek (x/2^16) 8 a8|have b:=ek x 8 a8
    refine ws_ (wr_ (e_ mv ?_));refine e_ (du rfl rfl _ 8 rfl rfl aq) ?_;refine e_ asn (on_ (qn_ (wr_ (e_ mv (e_ iad (e_ asn (on_ (qn_ (ws_ (wr_ ?_))))))))))
    first|have a:=bl8 x a8|have a:=bl8 (x/2^8) a8|have a:=bl8 (x/2^16) a8|have a:=bl8 (x/2^16/2^8) a8|have a:=bl8 (x/2^32) a8|have a:=bl8 (x/2^32/2^8) a8|have a:=bl8 (x/2^32/2^16) a8|have a:=bl8 (x/2^32/2^16/2^8) a8
    refine e_ mv (e_ mv ?_);refine e_ (cR 256 rfl rfl rfl _ rfl a8) ?_;refine e_ (evq ixs (congrArg (λn:Nat=>Value.int .u8 (n:Int)) (nf a8))) ?_;refine e_ (dL rfl a8) ?_;refine gR ?_;exact⟨_,hsb,congrArg (Value.int .i64) a8,rfl⟩
   refine wk_ (qn_ (ws_ (wr_ ?_)))
   first|have a:=bl8 x a8|have a:=bl8 (x/2^8) a8|have a:=bl8 (x/2^16) a8|have a:=bl8 (x/2^16/2^8) a8|have a:=bl8 (x/2^32) a8|have a:=bl8 (x/2^32/2^8) a8|have a:=bl8 (x/2^32/2^16) a8|have a:=bl8 (x/2^32/2^16/2^8) a8
   refine e_ mv (e_ mv ?_);refine e_ (cR 256 rfl rfl rfl _ rfl a8) ?_;refine e_ (evq ixs (congrArg (λn:Nat=>Value.int .u8 (n:Int)) (nf a8))) ?_;refine e_ (dL rfl a8) ?_;refine gR ?_;exact⟨_,hsb,congrArg (Value.int .i64) a8,rfl⟩
  refine gW (λh4=>?_) λh4=>?_
  ·first|have b:=ek (x/2^32/2^16) 8 a8|have b:=ek (x/2^32) 8 a8|have b:=ek (x/2^16) 8 a8|have b:=ek x 8 a8
   refine ws_ (wr_ (e_ mv ?_));refine e_ (du rfl rfl _ 8 rfl rfl aq) ?_;refine e_ asn (on_ (qn_ (wr_ (e_ mv (e_ iad (e_ asn (on_ (qn_ (ws_ (wr_ ?_))))))))))
   first|have a:=bl8 x a8|have a:=bl8 (x/2^8) a8|have a:=bl8 (x/2^16) a8|have a:=bl8 (x/2^16/2^8) a8|have a:=bl8 (x/2^32) a8|have a:=bl8 (x/2^32/2^8) a8|have a:=bl8 (x/2^32/2^16) a8|have a:=bl8 (x/2^32/2^16/2^8) a8
   refine e_ mv (e_ mv ?_);refine e_ (cR 256 rfl rfl rfl _ rfl a8) ?_;refine e_ (evq ixs (congrArg (λn:Nat=>Value.int .u8 (n:Int)) (nf a8))) ?_;refine e_ (dL rfl a8) ?_;refine gR ?_;exact⟨_,hsb,congrArg (Value.int .i64) a8,rfl⟩
  refine wk_ (qn_ (ws_ (wr_ ?_)))
  first|have a:=bl8 x a8|have a:=bl8 (x/2^8) a8|have a:=bl8 (x/2^16) a8|have a:=bl8 (x/2^16/2^8) a8|have a:=bl8 (x/2^32) a8|have a:=bl8 (x/2^32/2^8) a8|have a:=bl8 (x/2^32/2^16) a8|have a:=bl8 (x/2^32/2^16/2^8) a8
  refine e_ mv (e_ mv ?_);refine e_ (cR 256 rfl rfl rfl _ rfl a8) ?_;refine e_ (evq ixs (congrArg (λn:Nat=>Value.int .u8 (n:Int)) (nf a8))) ?_;refine e_ (dL rfl a8) ?_;refine gR ?_;exact⟨_,hsb,congrArg (Value.int .i64) a8,rfl⟩
 refine gW (λe=>?_) λe=>?_
 ·first|have c:=ek (x/2^32) 16 a8|have c:=ek x 16 a8
  refine ws_ (wr_ (e_ mv ?_));refine e_ (du rfl rfl _ 16 rfl rfl aq) (go ?_);refine gW (λh6=>?_) λh6=>?_
  ·first|have b:=ek (x/2^32/2^16) 8 a8|have b:=ek (x/2^32) 8 a8|have b:=ek (x/2^16) 8 a8|have b:=ek x 8 a8
   refine ws_ (wr_ (e_ mv ?_));refine e_ (du rfl rfl _ 8 rfl rfl aq) ?_;refine e_ asn (on_ (qn_ (wr_ (e_ mv (e_ iad (e_ asn (on_ (qn_ (ws_ (wr_ ?_))))))))))
   first|have a:=bl8 x a8|have a:=bl8 (x/2^8) a8|have a:=bl8 (x/2^16) a8|have a:=bl8 (x/2^16/2^8) a8|have a:=bl8 (x/2^32) a8|have a:=bl8 (x/2^32/2^8) a8|have a:=bl8 (x/2^32/2^16) a8|have a:=bl8 (x/2^32/2^16/2^8) a8
   refine e_ mv (e_ mv ?_);refine e_ (cR 256 rfl rfl rfl _ rfl a8) ?_;refine e_ (evq ixs (congrArg (λn:Nat=>Value.int .u8 (n:Int)) (nf a8))) ?_;refine e_ (dL rfl a8) ?_;refine gR ?_;exact⟨_,hsb,congrArg (Value.int .i64) a8,rfl⟩
  refine wk_ (qn_ (ws_ (wr_ ?_)))
  first|have a:=bl8 x a8|have a:=bl8 (x/2^8) a8|have a:=bl8 (x/2^16) a8|have a:=bl8 (x/2^16/2^8) a8|have a:=bl8 (x/2^32) a8|have a:=bl8 (x/2^32/2^8) a8|have a:=bl8 (x/2^32/2^16) a8|have a:=bl8 (x/2^32/2^16/2^8) a8
  refine e_ mv (e_ mv ?_);refine e_ (cR 256 rfl rfl rfl _ rfl a8) ?_;refine e_ (evq ixs (congrArg (λn:Nat=>Value.int .u8 (n:Int)) (nf a8))) ?_;refine e_ (dL rfl a8) ?_;refine gR ?_;exact⟨_,hsb,congrArg (Value.int .i64) a8,rfl⟩
 refine gW (λd=>?_) λd=>?_
 ·first|have b:=ek (x/2^32/2^16) 8 a8|have b:=ek (x/2^32) 8 a8|have b:=ek (x/2^16) 8 a8|have b:=ek x 8 a8
  refine ws_ (wr_ (e_ mv ?_));refine e_ (du rfl rfl _ 8 rfl rfl aq) ?_;refine e_ asn (on_ (qn_ (wr_ (e_ mv (e_ iad (e_ asn (on_ (qn_ (ws_ (wr_ ?_))))))))))
  first|have a:=bl8 x a8|have a:=bl8 (x/2^8) a8|have a:=bl8 (x/2^16) a8|have a:=bl8 (x/2^16/2^8) a8|have a:=bl8 (x/2^32) a8|have a:=bl8 (x/2^32/2^8) a8|have a:=bl8 (x/2^32/2^16) a8|have a:=bl8 (x/2^32/2^16/2^8) a8
  refine e_ mv (e_ mv ?_);refine e_ (cR 256 rfl rfl rfl _ rfl a8) ?_;refine e_ (evq ixs (congrArg (λn:Nat=>Value.int .u8 (n:Int)) (nf a8))) ?_;refine e_ (dL rfl a8) ?_;refine gR ?_;exact⟨_,hsb,congrArg (Value.int .i64) a8,rfl⟩
 refine wk_ (qn_ (ws_ (wr_ ?_)))
 first|have a:=bl8 x a8|have a:=bl8 (x/2^8) a8|have a:=bl8 (x/2^16) a8|have a:=bl8 (x/2^16/2^8) a8|have a:=bl8 (x/2^32) a8|have a:=bl8 (x/2^32/2^8) a8|have a:=bl8 (x/2^32/2^16) a8|have a:=bl8 (x/2^32/2^16/2^8) a8
 refine e_ mv (e_ mv ?_);refine e_ (cR 256 rfl rfl rfl _ rfl a8) ?_;refine e_ (evq ixs (congrArg (λn:Nat=>Value.int .u8 (n:Int)) (nf a8))) ?_;refine e_ (dL rfl a8) ?_;refine gR ?_;exact⟨_,hsb,congrArg (Value.int .i64) a8,rfl⟩
theorem HK (hx:x<18446744073709551616):SC G prog 143 [uN x] H (λv a=>v=iN (cX x)∧a=H):=by
 refine sWk func143 ?_;refine gk (k:=iff_ (k:=go ?_));refine d1_ rfl (E8 hx) (gR ?_);exact⟨_,hsb,rfl,rfl⟩
end
section
variable {ns:List Nat}
theorem gC (n k:Nat):cX n≤k↔n<2^k:=by
 constructor
 ·intro h;exact S5 (jI n) (Vx ae h)
 ·intro h
  by_cases h0:n=0
  ·subst h0;exact Yl _
  ·have h1:=iG h0;rcases U9 k (cX n)with h2|h2
   ·exfalso;have h3:2^k≤2^(cX n-1):=Vx ae a8;omega
   ·exact h2
theorem vC (a b:Nat):cX (a |||b)=max (cX a) (cX b):=by
 apply Nat.le_antisymm
 ·rw[gC];exact X8 ((gC _ _).1 (Nat.le_max_left _ _)) ((gC _ _).1 (Nat.le_max_right _ _))
 ·rw[Nat.max_le]
  constructor
  ·rw[gC];exact Vl Nat.left_le_or (jI _)
  ·rw[gC];exact Vl Nat.right_le_or (jI _)
def orL (ns:List Nat):Nat:=ns.foldl (λa b=>a |||b) 0
theorem xQ {i x:Nat}(h:ns[i]? =some x):orL (ns.take (i+1))=orL (ns.take i) |||x:=by
 rw[orL,orL,Ua,h,List.foldl_append];all_goals rfl
theorem nw {k:Nat}:∀{ns:List Nat}{a:Nat},a<2^k→(∀x∈ns,x<2^k)→ns.foldl (λa b=>a |||b) a<2^k
 | [],a,ha,_=>ha
 |x::l,a,ha,h=>nw (ns:=l) (X8 ha (h x Yz)) λy hy=>h y (Xa _ hy)
def cP (ns:List Nat):List Int:=ns.map λn:Nat=>(n:Int)
theorem eu {i x:Nat}(h:ns[i]? =some x):(cP ns)[i]? =some (x:Int):=by
 rw[cP,Xd,h];all_goals rfl
theorem dJ (ns:List Nat):(cP ns).length=ns.length:=by simp[cP]
end
section
variable {G:cJ}{P:Program}{t:Tm}{H:cG}{dst:Option Tmp}{ty:TypeId}{pos:String}{after:Array Edge}{g:Option (Nat×Bool)}
theorem tF {T U:TypeId}{x y:Operand}{k':IntKind}{i j:Int}(hx:evo t x=some (.int .i64 i)) (hy:evo t y=some (.int k' j)) (a b:Nat) (ha:i=a) (f:j=b) (c:b≤64) (hl:a*2^b<9223372036854775808):
 Ev G P ⟨dst,.binOp .shl T x y U,ty,pos,after,g⟩ t H (iN (a*2^b)):=
 fun ρ hρ w _=>by
  have e:IntKind.wrap .i64 ((a:Int)*2^min b 64)=((a*2^b:Nat):Int):=by
   rw[Vk c,show((a:Int)*2^b)=((a*2^b:Nat):Int)from ak];exact ie a8
  have d:¬((b:Int)<0):=a8;simp only[execOp,hρ _ _ hx,hρ _ _ hy,eqGuard,binOp,Op.shift,ha,f];have h:IntKind.bits .i64=64:=rfl;simp[e,d,h]
end
def dN (ns:List Nat):List Nat:=uv ns.length++(if ns= []then []else cX (orL ns)::B9 (cX (orL ns)) ns)
theorem Ak (ns:List Nat):∀x∈cP ns,0≤x:=by
 intro x hx;obtain⟨n,_,rfl⟩:=Xw.1 hx;omega
theorem F6 {ns:List Nat}{x:Nat}(h:x∈ns):x<2 ^ cX (orL ns):=by
 obtain⟨i,hi⟩:=Vy.1 h
 have key:∀(l:List Nat) (a x:Nat),(x=a∨x∈l)→cX x≤cX (l.foldl (λa b=> a |||b) a):=by
  intro l
  induction l with
  |nil=> intro a x hx;rcases hx with rfl|hx
         ·exact Xj _
         ·cases hx
  |cons y l ih=>
   intro a x hx
   rw[List.foldl_cons]
   rcases hx with rfl|hx
   ·exact Xi (by rw[vC];exact Nat.le_max_left _ _) (ih (x |||y) (x |||y) (.inl rfl))
   ·rcases Xr.1 hx with rfl|hx
    ·exact Xi (by rw[vC];exact Nat.le_max_right _ _) (ih (a |||x) (a |||x) (.inl rfl))
    ·exact ih _ _ (.inr hx)
 exact(gC _ _).1 (key ns 0 x (.inr h))
end Go.Sx
