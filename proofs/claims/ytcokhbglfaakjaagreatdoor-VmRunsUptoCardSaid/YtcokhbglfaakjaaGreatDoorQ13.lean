import Derived.Test.YtcokhbglfaakjaaGreatDoorQ8
import Derived.Test.YtcokhbglfaakjaaGreatDoorQ9
import Derived.Test.YtcokhbglfaakjaaGreatDoorQ7
set_option linter.all false
set_option maxHeartbeats 0
namespace Go.Sx
open Go Go.Proofs Tryz
set_option maxRecDepth 100000
section
variable {q:ByteArray}{w:List Nat}{x:Stp}{xs:List Stp}
def rY (o:Option (List Nat)) (r:ByteArray) (b:Bool):Prop:=match o with
 |some u=>dC r=u∧b=decide (u.length≤64)
 |none=>b=false
theorem ma {o:Option (List Nat)}{r:ByteArray}(h:o=some w) (a:dC r=w):rY o r (decide ((r.size:Int)≤64)):=by
 rw[h];refine⟨a,?_⟩;rw[←a,dI];apply Vm.2;omega
theorem HL {i:Nat}(h:xs[i]? =some x) (w:List Nat):qD (xs.drop i) w=match mj x w with
 |some u=>qD (xs.drop (i+1)) u
 |none=>none:=by
 have hi:=(Yk.1 h).1;have e:xs[i]=x:=(Yk.1 h).2;rw[List.drop_eq_getElem_cons hi,qD,e];all_goals (cases mj x w <;> rfl)
theorem K0 {u:List Nat}(h:mj x w=some u):u.length≤w.length+100:=by
 cases x with
 |fold=>simp only[mj,Option.some.injEq]at h;rw[←h,hU];omega
 |stop s=>
  simp only[mj]at h;cases hd:decide (w∈jA) <;> rw[hd]at h
  ·simp only[cond_false,Option.some.injEq]at h;rw[h];omega
  ·cases h
 |stem=>simp only[mj,Option.some.injEq]at h;rw[←h];exact K1 w
theorem JK {G:dJ}{H:dD}{s:SV} [hx:Sl H s tc xs] (hn:xs.length≤3) (hq:q.size≤4000000) (hs:∀s,Stp.stop s∈xs→Sl H s eS jj):SC G prog 247 [s.val,.string q] H (λv l=>∃r b,v=.tuple #[.string r,.bool b]∧rY (qD xs (dC q)) r b∧l=H):=by
 refine sWk func247 ?_;refine go ?_;refine gk (k:=e8 (Nat×ByteArray) (λy=>y.1≤xs.length∧qD xs (dC q)=qD (xs.drop y.1) (dC y.2)∧y.2.size≤q.size+100*y.1) (λy=>[(1,.string y.2),(11,iN y.1)]) [(9,_),(10,_)] (λy=>[]) _ (λy=>xs.length-y.1) ((0,q)) (h0:=?_) (k:=?_))
 ·exact⟨Yl _,rfl,Xl _⟩
 rintro⟨i,u⟩ ⟨hi,hth,hz⟩
 try dsimp only[Yd,Ye]at*
 refine gW (λh1=>?_) λh1=>?_
 ·obtain⟨x,d⟩:=gE xs i;have hd:=HL d (dC u);have h:∀s,x=.stop s→Sl H s eS jj:=λs e=>hs s (by rw[←e];exact Yj d);refine go ?_;refine s_ (Sr (x:=x) rfl rfl a8 h) ?_;rintro _ _ ⟨r,b,rfl,c,rfl⟩;have f:=dI u;refine gW (λh2=>?_) λh2=>?_
  ·obtain rfl:b=false:=by simpa using h2
   have hN:qD xs (dC q)=none:=by
    rw[hth,hd];cases a:mj x (dC u)with
    |none=>rfl
    |some w=>rw[a]at c;exact absurd c.2 ae
   refine gR ?_;refine⟨_,hsb,_,_,rfl,?_,rfl⟩;rw[hN];exact rfl
  obtain rfl:b=true:=cD;obtain⟨w,a,g⟩:∃w,mj x (dC u)=some w∧dC r=w:=by
   cases a:mj x (dC u)with
   |none=>rw[a]at c;exact absurd c (by simp[vE])
   |some w=>rw[a]at c;exact⟨w,rfl,c.1⟩
  have hz2:=K0 a;have j:=dI r;refine go ?_;refine lN ((i+1,r)) ?_
  try dsimp only
  refine⟨a8,?_,by rw[g]at j;omega⟩;rw[hth,hd,a,g]
 obtain rfl:i=xs.length:=a8;rw[Vi,qD]at hth;have f:=dI u;refine go ?_;refine gR ?_;refine⟨_,hsb,_,_,rfl,?_,rfl⟩;rw[hth];exact⟨rfl,by rw[f];congr 1;apply propext;omega⟩
def qI (p:FV) (s:SV):List Stp:=(bif p.fold then [Stp.fold]else [])++(bif p.stop then [Stp.stop s]else [])++(bif p.stem then [Stp.stem]else [])
def lx (p:FV) (w:List Nat):Option (List Nat):=
 bif p.stop&&decide ((bif p.fold then kF w else w)∈jA)then none else some (bif p.stem then jM (bif p.fold then kF w else w)else(bif p.fold then kF w else w))
theorem Ed (p:FV) (s:SV) (w:List Nat):qD (qI p s) w=lx p w:=by
 obtain⟨n,k,a,b,c⟩:=p;unfold qI lx;cases a <;> cases b <;> cases c <;> simp only[cond_true,cond_false,Ye,Ym,Yd,qD,mj,Xv,Vk]
 all_goals first
  |rfl
  |(cases decide (w∈jA) <;> rfl)
  |(cases decide (kF w∈jA) <;> rfl)
class Spc (H:dD):Prop where
 out:∀L,Sep H L→∃E fz,(26,Obj.cells ((List.range 256).map λi=>Value.int .u8 (if i=9∨i=10∨i=11∨i=12∨i=13∨i=32 then 1 else 0)).toArray E fz)∈L
instance Spc.tail {A:Hp}{H:dD} [h:Spc H]:Spc (A::H):=
 ⟨λL hL=>cx⟩
def kh (G:dJ):Prop:=∀H,Spc H→SC G prog 278 [] H (λv H'=>∃s:SV,v=s.val∧H'=Row s eS jj::H)
section
variable {G:dJ}{t:Tm}{H:dD}{dst:Option Tmp}{ty:TypeId}{pos:String}{after:Array Edge}{g:Option (Nat×Bool)}
theorem XN (v:Value) (W:World):(Instr.makeInterface 389 v).run prog W=.ok (.iface 389 v) W:=aa
theorem QY (v:Value) (W:World):(Instr.makeInterface 391 v).run prog W=.ok (.iface 391 v) W:=aa
theorem GG (v:Value) (W:World):(Instr.makeInterface 392 v).run prog W=.ok (.iface 392 v) W:=aa
theorem qa {x:Operand}{v:Value}{T:TypeId}(h:∀v W,(Instr.makeInterface T v).run prog W=.ok (.iface T v) W) (hx:evo t x=some v):Ev G prog ⟨dst,.makeInterface T x,ty,pos,after,g⟩ t H (.iface T v):=
 fun ρ hρ w _=>by
  simp only[execOp,hρ _ _ hx,Sem.run_bind,h,Result.andThen_ok,Sem.run_pure]
end
theorem NY {G:dJ}{H:dD}(p:FV) [Spc H] (j:kh G):SC G prog 246 [.agg #[.string p.name,.int .i64 p.kind,.bool p.fold,.bool p.stop,.bool p.stem]] (Row SV.nil tc []::H) (λv l=>∃c s:SV,v=c.val∧l=Row c tc (qI p s)::Row s eS (bif p.stop then jj else [])::H):=by
 obtain⟨n,k,a,b,c⟩:=p;dsimp only;refine sWk func246 ?_;refine gk (k:=bxx (k:=λb1=>?_));refine e_ asn (on_ (qn_ (ws_ (wr_ ?_))));refine e_ (asv (v:=SV.nil.val) rfl rfl) ?_;refine gW (λh1=>?_) λh1=>?_
 ·subst h1;refine wr_ (e_ mv (e_ (bld []) ?_));refine e_ (qa XN rfl) ?_;refine fS tc (k:=λs9=>?_);refine app (k:=λs10=>?_);refine gW (λh2=>?_) λh2=>?_
  ·subst h2;refine go ?_;refine c0_ rfl (j _ inferInstance) ?_;rintro _ _ ⟨d,rfl,rfl⟩;refine e_ (bld [(0,_)]) ?_;refine e_ (qa QY rfl) ?_;refine fS tc (k:=λh=>?_);refine app (k:=λg=>?_);refine gW (λh3=>?_) λh3=>?_
   ·subst h3;refine wr_ (e_ mv (e_ (bld []) ?_));refine e_ (qa GG rfl) ?_;refine fS tc (k:=λf=>?_);refine app (k:=λe=>?_);refine gR ?_
    first|exact⟨_,hsb,_,d,rfl,rfl⟩|exact⟨_,hsb,_,SV.nil,rfl,rfl⟩
   subst h3;refine gR ?_
   first|exact⟨_,hsb,_,d,rfl,rfl⟩|exact⟨_,hsb,_,SV.nil,rfl,rfl⟩
  subst h2;refine gW (λh4=>?_) λh4=>?_
  ·subst h4;refine wr_ (e_ mv (e_ (bld []) ?_));refine e_ (qa GG rfl) ?_;refine fS tc (k:=λf=>?_);refine app (k:=λe=>?_);refine gR ?_
   first|exact⟨_,hsb,_,d,rfl,rfl⟩|exact⟨_,hsb,_,SV.nil,rfl,rfl⟩
  subst h4;refine gR ?_
  first|exact⟨_,hsb,_,d,rfl,rfl⟩|exact⟨_,hsb,_,SV.nil,rfl,rfl⟩
 subst h1;refine gW (λh5=>?_) λh5=>?_
 ·subst h5;refine go ?_;refine c0_ rfl (j _ inferInstance) ?_;rintro _ _ ⟨d,rfl,rfl⟩;refine e_ (bld [(0,_)]) ?_;refine e_ (qa QY rfl) ?_;refine fS tc (k:=λh=>?_);refine app (k:=λg=>?_);refine gW (λh6=>?_) λh6=>?_
  ·subst h6;refine wr_ (e_ mv (e_ (bld []) ?_));refine e_ (qa GG rfl) ?_;refine fS tc (k:=λf=>?_);refine app (k:=λe=>?_);refine gR ?_
   first|exact⟨_,hsb,_,d,rfl,rfl⟩|exact⟨_,hsb,_,SV.nil,rfl,rfl⟩
  subst h6;refine gR ?_
  first|exact⟨_,hsb,_,d,rfl,rfl⟩|exact⟨_,hsb,_,SV.nil,rfl,rfl⟩
 subst h5;refine gW (λi=>?_) λi=>?_
 ·subst i;refine wr_ (e_ mv (e_ (bld []) ?_));refine e_ (qa GG rfl) ?_;refine fS tc (k:=λf=>?_);refine app (k:=λe=>?_);refine gR ?_
  first|exact⟨_,hsb,_,d,rfl,rfl⟩|exact⟨_,hsb,_,SV.nil,rfl,rfl⟩
 subst i;refine gR ?_
 first|exact⟨_,hsb,_,d,rfl,rfl⟩|exact⟨_,hsb,_,SV.nil,rfl,rfl⟩
theorem Sn {G:dJ}{H:dD}(p:FV) [Spc H] (a:kh G):SC G prog 246 [.agg #[.string p.name,.int .i64 p.kind,.bool p.fold,.bool p.stop,.bool p.stem]] H (λv b=>∃c s:SV,v=c.val∧b=Row c tc (qI p s)::Row s eS (bif p.stop then jj else [])::H):=
 SC.less (dH.nilRow dH.refl) (NY p a)
theorem KD {G:dJ}{H:dD}(p:FV) (hq:q.size≤4000000):SC G prog 144 [.agg #[.string p.name,.int .i64 p.kind,.bool p.fold,.bool p.stop,.bool p.stem],.string q] H (λv h=>∃r b,v=.tuple #[.string r,.bool b]∧rY (lx p (dC q)) r b∧h=H):=by
 obtain⟨n,k,a,b,c⟩:=p;have hl:=dI q;dsimp only;refine sWk func144 ?_;refine gk (k:=bxx (k:=λb2=>?_));refine e_ asn (e_ asn (on_ (qn_ (iu ByteArray (λy=>dC y=(bif a then kF (dC q)else dC q)∧y.size=q.size) (λy=>[(1,.string y)]) [1,7,8,9,10] ?_ ?_))))
 ·refine gW (λh1=>?_) λh1=>?_
  ·subst h1;refine go ?_;refine d1_ rfl (WW a8) (gk (k:=jnE _ (q:=?_)));exact⟨fD (zJ _),by rw[j9,hU,hl]⟩
  subst h1;refine gk (k:=jnE _ (q:=?_));exact⟨rfl,rfl⟩
 rintro u ⟨hub,hJz⟩
 try dsimp only[Yd,Ye]at*
 have hul:=dI u;refine gW (λh2=>?_) λh2=>?_
 ·subst h2;refine go ?_;refine d1_ rfl OI (gW (λh3=>?_) (λh3=>?_))
  ·have hN:lx ⟨n,k,a,true,c⟩ (dC q)=none:=by rw[lx,←hub];simp only[Xv];rw[Ys (show dC u∈jA from h3)];all_goals rfl
   refine gR ?_;exact⟨_,hsb,_,_,rfl,by rw[hN];exact rfl,rfl⟩
  have e:lx ⟨n,k,a,true,c⟩ (dC q)=some (bif c then jM (dC u)else dC u):=by rw[lx,←hub];simp only[Xv];rw[Yr (show ¬dC u∈jA from h3)];all_goals rfl
  refine gW (λh4=>?_) λh4=>?_
  ·subst h4;refine go ?_;refine c1_ rfl (QS a8) ?_;rintro _ _ ⟨f,rfl,d,rfl⟩;have g:=dI f;refine go ?_;refine rT (k:=?_);refine⟨_,hsb,_,_,rfl,?_,rfl⟩
   first|exact ma e d|exact ma e rfl
  subst h4;refine gR ?_;refine⟨_,hsb,_,_,rfl,?_,rfl⟩
  first|exact ma e d|exact ma e rfl
 subst h2;have e:lx ⟨n,k,a,false,c⟩ (dC q)=some (bif c then jM (dC u)else dC u):=by rw[lx,hub];all_goals rfl
 refine gW (λh5=>?_) λh5=>?_
 ·subst h5;refine go ?_;refine c1_ rfl (QS a8) ?_;rintro _ _ ⟨f,rfl,d,rfl⟩;have g:=dI f;refine go ?_;refine rT (k:=?_);refine⟨_,hsb,_,_,rfl,?_,rfl⟩
  first|exact ma e d|exact ma e rfl
 subst h5;refine gR ?_;refine⟨_,hsb,_,_,rfl,?_,rfl⟩
 first|exact ma e d|exact ma e rfl
end
section
variable {G:dJ}{H:dD}{b:Bool}{p:FV}{q r:ByteArray}{t:Tok}{w:List Nat}
instance {t:Tok}:kV eT t (.agg [.string (eG t.text),.int .i64 ((t.value:Nat):Int),.int .i64 ((t.pos:Nat):Int),.int .i64 ((t.st:Nat):Int),.int .i64 ((t.en:Nat):Int)].toArray):=⟨rfl⟩
instance (priority:=low) {s:ByteArray}{a b c d:Nat}:gP eT (.agg [.string s,.int .i64 ((a:Nat):Int),.int .i64 ((b:Nat):Int),.int .i64 ((c:Nat):Int),.int .i64 ((d:Nat):Int)].toArray) ⟨dC s,a,b,c,d⟩:=⟨by show Value.agg (eT.f _).toArray=_;simp only[eT,jW]⟩
instance {s:ByteArray}{d:Nat}:gP eT (.agg [.string s,.int .i64 0,.int .i64 0,.int .i64 0,.int .i64 ((d:Nat):Int)].toArray) ⟨dC s,0,0,0,d⟩:=⟨by show Value.agg (eT.f _).toArray=_;simp only[eT,jW];all_goals rfl⟩
theorem Jc (w:List Nat):∀(i:Nat) (a:Option Nat) (out:List Tok),gj w i=(a,out)→∀t∈out,∃j b k,t=⟨(w.take j).drop b,0,k,b,j⟩:=by
 intro i
 induction i with
 |zero=>intro a out h;cases h;simp
 |succ i ih=>
  intro a out h;obtain⟨c,d,h0⟩:∃c d,gj w i=(c,d):=⟨_,_,rfl⟩;have h1:=ih c d h0;cases hin:inW w i <;> cases c with
  |none=>
   first
   |(rw[rp h0 hin]at h;cases h;exact h1)
   |(rw[mP h0 hin]at h;cases h;exact h1)
  |some c=>
   first
   |(rw[rq h0 hin]at h;cases h
     intro t ht;rcases Xm.1 ht with ht|ht
     ·exact h1 t ht
     ·obtain rfl:=Vb.1 ht;exact⟨_,_,_,rfl⟩)
   |(rw[uG h0 hin]at h;cases h;exact h1)
theorem E7 (h:t∈gy w):∃j b k,t=⟨(w.take j).drop b,0,k,b,j⟩:=Jc w _ _ _ rfl t h
theorem BI (a:∀x∈w,x<256) (h:t∈gy w):(∀x∈t.text,x<256)∧t.text.length≤w.length:=by
 obtain⟨j,b,k,rfl⟩:=E7 h;refine⟨λx hx=>a x (Yq (Yp hx)),?_⟩;simp only[Yo,Yg];omega
theorem ox (w:List Nat):(gy w).length≤w.length+1:=(Ak w (w.length+1) _ _ rfl).1
def me (p:FV) (t:Tok):Option Tok:=match lx p t.text with
 |some u=>if u.length≤64 then some ⟨u,t.value,t.pos,t.st,t.en⟩else none
 |none=>none
def fF (p:FV) (w:List Nat):List Tok:=
 if p.kind=1 then(gy w).filterMap (me p)
 else if p.kind=2 then(if w.length≤64 then [⟨w,0,0,0,w.length⟩]else [])
 else if p.kind=3 then(match iI w with
  |some n=>[⟨kZ n,0,0,0,w.length⟩]
  |none=>[])
 else []
theorem CW (h:rY (lx p t.text) r b) (a:b=true):me p t=some ⟨dC r,t.value,t.pos,t.st,t.en⟩:=by
 rw[me];cases hc:lx p t.text with
 |none=>rw[hc]at h;subst a;exact absurd h (by simp[rY])
 |some u=>
  rw[hc]at h;obtain⟨h1,h2⟩:=h;subst a;have h3:u.length≤64:=by simpa using h2.symm
  simp only[h3,↓reduceIte,h1]
theorem GN (h:rY (lx p t.text) r b) (a:b=false):me p t=none:=by
 rw[me];cases hc:lx p t.text with
 |none=>rfl
 |some u=>
  rw[hc]at h;obtain⟨h1,h2⟩:=h;subst a;have h3:¬u.length≤64:=by simpa using h2.symm
  simp only[h3,↓reduceIte]
theorem GY {α β:Type}{f:α→Option β}{l:List α}{i:Nat}{x:α}(h:l[i]? =some x):(l.take (i+1)).filterMap f=(l.take i).filterMap f++(f x).toList:=by
 rw[Um,h,List.filterMap_append];simp only[R4,List.filterMap_cons,List.filterMap_nil];all_goals (cases f x <;> rfl)
theorem Mi {α β:Type}(f:α→Option β) (l:List α) (i:Nat):((l.take i).filterMap f).length≤l.length:=
 Xi (List.length_filterMap_le _ _) az
theorem O3 {s d:SV}(hm:Stp.stop s∈qI p d) (h:Sl H d eS (bif p.stop then jj else [])):Sl H s eS jj:=by
 obtain⟨n,k,a,b,c⟩:=p;simp only[qI,Xm]at hm;rcases hm with(hm|hm)|hm
 ·cases a <;> simp at hm
 ·cases b with
  |false=>simp at hm
  |true=>simp at hm;subst hm;exact h
 ·cases c <;> simp at hm
theorem HT (p:FV) (s:SV):(qI p s).length≤3:=by
 obtain⟨n,k,a,b,c⟩:=p;cases a <;> cases b <;> cases c <;> (simp[qI])
theorem L9 {o:Option Int}{v:Value}(h:Nd o v):∃n b,v=.tuple #[.int .i64 n,.bool b]∧((b=true∧o=some n∧ -9223372036854775808≤n∧n≤9223372036854775807)∨(b=false∧o=none)):=by
 cases o with
 |none=>exact⟨0,false,h,.inr ⟨rfl,rfl⟩⟩
 |some n=>exact⟨n,true,h.1,.inl ⟨rfl,rfl,h.2⟩⟩
theorem G2 (c:q.size≤1000000000):SC G prog 209 [.string q] H (λv a=>∃n b,v=.tuple #[.int .i64 n,.bool b]∧((b=true∧iI (dC q)=some n∧ -9223372036854775808≤n∧n≤9223372036854775807)∨(b=false∧iI (dC q)=none))∧a=H):=
 (RJ c).mono λv a h=>dj
theorem Gm (c:q.size≤1000000000):SC G prog 146 [.string q] H (λv a=>∃n b,v=.tuple #[.int .i64 n,.bool b]∧((b=true∧iI (dC q)=some n∧ -9223372036854775808≤n∧n≤9223372036854775807)∨(b=false∧iI (dC q)=none))∧a=H):=
 (SM c).mono λv a h=>dj
theorem QT {u:ByteArray}:SC G prog 145 [.string q,.string u] H (λv a=>∃s:SV,v=s.val∧a=Row s eT [⟨dC q,0,0,0,u.size⟩]::H):=by
 refine sWk func145 ?_;refine ws_ (wr_ (e_ asn (on_ (qn_ (ws_ (wr_ (e_ mv (e_ mv (e_ xO (e_ (bld [(0,_),(4,_)]) (fS eT (k:=λs9=>?_))))))))))));refine gR ?_;exact⟨_,hsb,_,rfl,rfl⟩
end
theorem tOf {G:dJ}{H:dD}{q:ByteArray}(p:FV) [Spc H] (A:kh G) (hq:q.size≤3000000):SC G prog 210 [.agg #[.string p.name,.int .i64 p.kind,.bool p.fold,.bool p.stop,.bool p.stem],.string q] H (λv B=>∃s:SV,v=s.val∧B=Row s eT (fF p (dC q))::H):=by
 have hl:=dI q;refine sWk func210 ?_;refine gk (k:=bxx (k:=λb2=>?_));refine e_ asn (on_ (qn_ (ws_ (wr_ (e_ mv (e_ mv (e_ xO (e_ (bld [(0,_),(4,_)]) (alc (k:=λb5=>?_))))))))));refine go ?_;refine gW (λh1=>?_) λh1=>?_
 ·have hk:p.kind=1:=h1;have hT:fF p (dC q)=(gy (dC q)).filterMap (me p):=by rw[fF,if_pos hk]
  refine go ?_;refine c1_ rfl (Sn p A) ?_;rintro _ _ ⟨c7,x,rfl,rfl⟩;refine go ?_;refine c1_ rfl (JH a8) ?_;rintro _ _ ⟨s25,rfl,rfl⟩;have hwn:=ox (dC q);refine gk (k:=e8 (SV×Nat) (λy=>y.2≤(gy (dC q)).length) (λy=>[(6,y.1.val),(27,iN y.2)]) [(7,_),(25,_),(26,_)] (λy=>[Row y.1 eT (((gy (dC q)).take y.2).filterMap (me p))]) _ (λy=>(gy (dC q)).length-y.2) ((SV.nil,0)) (h0:=?_) (k:=?_))
  ·exact Yl _
  rintro⟨s,i⟩ hi
  try dsimp only[Yd,Ye]at*
  refine gW (λh2=>?_) λh2=>?_
  ·obtain⟨t,w⟩:∃t,(gy (dC q))[i]? =some t:=⟨_,Yi a8⟩;obtain⟨j,htz⟩:=BI (lZ q) (Yj w);have m:=fD j;have hts:=j9 t.text;have c:=GY (f:=me p) w;have hfl:=Mi (me p) (gy (dC q)) i;refine gk (k:=alc (k:=λb9=>?_));refine go ?_;refine c2_ rfl (JK (HT p x) a8 (λs hm=>O3 hm inferInstance)) ?_;rintro _ _ ⟨r,b,rfl,hr,rfl⟩;rw[Ed,m]at hr;refine gW (λh3=>?_) λh3=>?_
   ·have a:=CW hr h3;rw[a,R4]at c;refine gk (k:=fS eT (k:=λs43=>?_));refine app (k:=λh=>?_);rw[←c];refine go ?_;refine lN ((h,i+1)) ?_
    try dsimp only
    omega
   have l:=GN hr h3;rw[l]at c;rw[Option.toList_none,Ym]at c;rw[←c];refine go ?_;refine lN ((s,i+1)) ?_
   try dsimp only
   omega
  obtain rfl:i=(gy (dC q)).length:=a8;rw[Xn]at*;refine go ?_;refine rT (k:=?_);rw[hT];exact⟨_,hsb,s,rfl,rfl⟩
 have a:¬p.kind=1:=h1;refine gW (λh4=>?_) λh4=>?_
 ·have hk2:p.kind=2:=h4;refine gW (λh5=>?_) λh5=>?_
  ·have hT:fF p (dC q)= [⟨dC q,0,0,0,q.size⟩]:=by rw[fF,if_neg a,if_pos hk2,if_pos a8,hl]
   refine gk (k:=fS eT (k:=λs53=>?_));refine gR ?_;rw[hT];exact⟨_,hsb,_,rfl,rfl⟩
  have hT:fF p (dC q)= []:=by rw[fF,if_neg a,if_pos hk2,if_neg a8]
  refine gR ?_;rw[hT];exact⟨_,hsb,SV.nil,rfl,rfl⟩
 have hk2:¬p.kind=2:=h4;refine gW (λh6=>?_) λh6=>?_
 ·have d:p.kind=3:=h6;refine go ?_;refine c1_ rfl (G2 a8) ?_;rintro _ _ ⟨n,b,rfl,e,rfl⟩;refine gW (λg=>?_) λg=>?_
  ·obtain⟨u,z⟩:iI (dC q)=some n∧(-9223372036854775808≤n∧n≤9223372036854775807):=by
    rcases e with⟨_,h1,h2⟩|⟨h1,_⟩
    ·exact⟨h1,h2⟩
    ·rw[h1]at g;cases g
   have hT:fF p (dC q)= [⟨kZ n,0,0,0,q.size⟩]:=by rw[fF,if_neg a,if_neg hk2,if_pos d,u,hl]
   refine go ?_;refine d1_ rfl (VZ z) (gk (k:=fS eT (k:=λs66=>?_)));refine gR ?_;rw[hT,fD (GC n)];exact⟨_,hsb,_,rfl,rfl⟩
  have u:iI (dC q)=none:=by
   rcases e with⟨h1,_⟩|⟨_,h1⟩
   ·rw[h1]at g;cases g
   ·exact h1
  have hT:fF p (dC q)= []:=by rw[fF,if_neg a,if_neg hk2,if_pos d,u]
  refine gR ?_;rw[hT];exact⟨_,hsb,SV.nil,rfl,rfl⟩
 have d:¬p.kind=3:=h6;have hT:fF p (dC q)= []:=by rw[fF,if_neg a,if_neg hk2,if_neg d]
 refine gR ?_;rw[hT];exact⟨_,hsb,SV.nil,rfl,rfl⟩
theorem rOf {G:dJ}{H:dD}{q:ByteArray}(p:FV) (hq:q.size≤3000000):SC G prog 96 [.agg #[.string p.name,.int .i64 p.kind,.bool p.fold,.bool p.stop,.bool p.stem],.string q] H (λv A=>∃s:SV,v=s.val∧A=Row s eT (fF p (dC q))::H):=by
 have hl:=dI q;refine sWk func96 ?_;refine gk (k:=bxx (k:=λb2=>?_));refine go ?_;refine s_ (fk eT rfl) ?_;rintro _ _ ⟨j,rfl,rfl⟩;refine go ?_;refine gW (λh1=>?_) λh1=>?_
 ·have hk:p.kind=1:=h1;have hT:fF p (dC q)=(gy (dC q)).filterMap (me p):=by rw[fF,if_pos hk]
  refine go ?_;refine c1_ rfl (Kt a8) ?_;rintro _ _ ⟨s18,rfl,rfl⟩;have hwn:=ox (dC q);refine gk (k:=e8 (SV×Nat) (λy=>y.2≤(gy (dC q)).length) (λy=>[(5,y.1.val),(20,iN y.2)]) [(2,_),(18,_),(19,_)] (λy=>[Row y.1 eT (((gy (dC q)).take y.2).filterMap (me p))]) _ (λy=>(gy (dC q)).length-y.2) ((j,0)) (h0:=?_) (k:=?_))
  ·exact Yl _
  rintro⟨s,i⟩ hi
  try dsimp only[Yd,Ye]at*
  refine gW (λh2=>?_) λh2=>?_
  ·obtain⟨t,x⟩:∃t,(gy (dC q))[i]? =some t:=⟨_,Yi a8⟩;obtain⟨l,htz⟩:=BI (lZ q) (Yj x);have u:=fD l;have hts:=j9 t.text;have c:=GY (f:=me p) x;have hfl:=Mi (me p) (gy (dC q)) i;refine gk (k:=alc (k:=λb7=>?_));refine go ?_;refine c2_ rfl (KD p a8) ?_;rintro _ _ ⟨r,b,rfl,hr,rfl⟩;rw[u]at hr;refine gW (λh3=>?_) λh3=>?_
   ·have a:=CW hr h3;rw[a,R4]at c;refine gk (k:=fS eT (k:=λs36=>?_));refine app (k:=λh=>?_);rw[←c];refine go ?_;refine lN ((h,i+1)) ?_
    try dsimp only
    omega
   have m:=GN hr h3;rw[m]at c;rw[Option.toList_none,Ym]at c;rw[←c];refine go ?_;refine lN ((s,i+1)) ?_
   try dsimp only
   omega
  obtain rfl:i=(gy (dC q)).length:=a8;rw[Xn]at*;refine gR ?_;rw[hT];exact⟨_,hsb,s,rfl,rfl⟩
 have a:¬p.kind=1:=h1;refine gW (λh4=>?_) λh4=>?_
 ·have hk2:p.kind=2:=h4;refine gW (λh5=>?_) λh5=>?_
  ·have hT:fF p (dC q)= [⟨dC q,0,0,0,q.size⟩]:=by rw[fF,if_neg a,if_pos hk2,if_pos a8,hl]
   refine go ?_;refine c2_ rfl QT ?_;rintro _ _ ⟨s46,rfl,rfl⟩;refine gR ?_;rw[hT];exact⟨_,hsb,_,rfl,rfl⟩
  have hT:fF p (dC q)= []:=by rw[fF,if_neg a,if_pos hk2,if_neg a8]
  refine gR ?_;rw[hT];exact⟨_,hsb,_,rfl,rfl⟩
 have hk2:¬p.kind=2:=h4;refine gW (λh6=>?_) λh6=>?_
 ·have d:p.kind=3:=h6;refine go ?_;refine c1_ rfl (Gm a8) ?_;rintro _ _ ⟨n,b,rfl,e,rfl⟩;refine gW (λg=>?_) λg=>?_
  ·obtain⟨w,z⟩:iI (dC q)=some n∧(-9223372036854775808≤n∧n≤9223372036854775807):=by
    rcases e with⟨_,h1,h2⟩|⟨h1,_⟩
    ·exact⟨h1,h2⟩
    ·rw[h1]at g;cases g
   have hT:fF p (dC q)= [⟨kZ n,0,0,0,q.size⟩]:=by rw[fF,if_neg a,if_neg hk2,if_pos d,w,hl]
   refine go ?_;refine d1_ rfl (WM z) (go ?_);refine c2_ rfl QT ?_;rintro _ _ ⟨s58,rfl,rfl⟩;refine gR ?_;rw[hT,fD (GC n)];exact⟨_,hsb,_,rfl,rfl⟩
  have w:iI (dC q)=none:=by
   rcases e with⟨h1,_⟩|⟨_,h1⟩
   ·rw[h1]at g;cases g
   ·exact h1
  have hT:fF p (dC q)= []:=by rw[fF,if_neg a,if_neg hk2,if_pos d,w]
  refine gR ?_;rw[hT];exact⟨_,hsb,_,rfl,rfl⟩
 have d:¬p.kind=3:=h6;have hT:fF p (dC q)= []:=by rw[fF,if_neg a,if_neg hk2,if_neg d]
 refine gR ?_;rw[hT];exact⟨_,hsb,_,rfl,rfl⟩
section
variable {i:Nat}{out:List Tok}{p:FV}{v:ByteArray×ByteArray}{vs:List (ByteArray×ByteArray)}
def eVl:Enc (ByteArray×ByteArray):=⟨λp=>[.string p.1,.string p.2],2,true,λ_=>rfl,λp v h=>by simp at h;rcases h with rfl|rfl <;> rfl,ae,λh=>aK,ae⟩
instance {p:ByteArray×ByteArray}:kV eVl p (.agg [.string p.1,.string p.2].toArray):=⟨rfl⟩
instance {a b:ByteArray}:gP eVl (.agg [.string a,.string b].toArray) (a,b):=⟨rfl⟩
instance {l:List Nat}{a b c d:Nat}:gP eT (.agg [.string (eG l),.int .i64 ((a:Nat):Int),.int .i64 ((b:Nat):Int),.int .i64 ((c:Nat):Int),.int .i64 ((d:Nat):Int)].toArray) ⟨l,a,b,c,d⟩:=⟨rfl⟩
theorem evq {G:dJ}{P:Program}{o:Oper}{t:Tm}{H:dD}{u v:Value}(h:Ev G P o t H u) (e:u=v):Ev G P o t H v:=e ▸ h
theorem Nl (w:List Nat):∀(i:Nat) (a:Option Nat) (out:List Tok),gj w i=(a,out)→∀t∈out,t.pos≤out.length:=by
 intro i
 induction i with
 |zero=>intro a out h;cases h;simp
 |succ i ih=>
  intro a out h;obtain⟨b,c,h0⟩:∃b c,gj w i=(b,c):=⟨_,_,rfl⟩;have h1:=ih b c h0;cases hin:inW w i <;> cases b with
  |none=>
   first
   |(rw[rp h0 hin]at h;cases h;exact h1)
   |(rw[mP h0 hin]at h;cases h;exact h1)
  |some b=>
   first
   |(rw[rq h0 hin]at h;cases h
     intro t ht;simp only[Ya,Yb,Yc];rcases Xm.1 ht with ht|ht
     ·have:=h1 t ht;omega
     ·obtain rfl:=Vb.1 ht;show c.length≤_;omega)
   |(rw[uG h0 hin]at h;cases h;exact h1)
theorem BP {w:List Nat}{t:Tok}(h:t∈fF p w):t.pos≤w.length+1:=by
 rw[fF]at h
 split at h
 ·obtain⟨a,h0,hk⟩:=List.mem_filterMap.1 h;have h1:a.pos≤(gy w).length:=Nl w _ _ _ rfl a h0;have h2:=ox w;rw[me]at hk
  split at hk
  ·split at hk
   ·cases hk;show a.pos≤_;omega
   ·cases hk
  ·cases hk
 ·split at h
  ·split at h
   ·obtain rfl:=Vb.1 h;exact Yl _
   ·cases h
  ·split at h
   ·split at h
    ·obtain rfl:=Vb.1 h;exact Yl _
    ·cases h
   ·cases h
theorem tt (p:FV) (w:List Nat):(fF p w).length≤w.length+1:=by
 rw[fF]
 split
 ·exact Xi (List.length_filterMap_le _ _) (ox w)
 ·split
  ·split <;> simp
  ·split
   ·split <;> simp
   ·simp
def vV (i b:Nat) (t:Tok):Tok:=⟨t.text,i,t.pos+b,t.st,t.en⟩
def ir (p:FV) (w:List Nat):Nat:=if p.kind=1 then(gy w).length else 1
def gM (p:FV) (vs:List (ByteArray×ByteArray)):Nat→Nat×List Tok
 | 0=>(0, [])
 |i+1=>match vs[i]? with
  |none=>gM p vs i
  |some v=>if dC v.1=dC p.name then((gM p vs i).1+(ir p (dC v.2)+16),(gM p vs i).2++(fF p (dC v.2)).map (vV i (gM p vs i).1))else gM p vs i
def eZ (fs:List FV) (k:Nat) (vs:List (ByteArray×ByteArray)):List Tok:=match fs[k]? with
 |some p=>(gM p vs vs.length).2
 |none=>[]
def vsz (vs:List (ByteArray×ByteArray)):Nat:=(vs.map λv=>v.2.size+20).sum
theorem wQ (h:vs[i]? =some v):vsz (vs.take (i+1))=vsz (vs.take i)+(v.2.size+20):=by
 simp[vsz,Um,h]
theorem qH:∀(l:List Nat) (i:Nat),(l.take i).sum≤l.sum
 | [],i=>aq
 |x::l,0=>aq
 |x::l,i+1=>by
  have:=qH l i;simp only[Vq,Vv];omega
theorem wR (vs:List (ByteArray×ByteArray)) (i:Nat):vsz (vs.take i)≤vsz vs:=by
 rw[vsz,vsz,List.map_take];exact qH _ _
theorem B6 {b:Nat}(h:gM p vs i=(b,out)) (hv:vs[i]? =some v) (hn:¬dC v.1=dC p.name):gM p vs (i+1)=(b,out):=by
 rw[gM,hv];simp only[if_neg hn];exact h
theorem wz {b:Nat}(h:gM p vs i=(b,out)) (hv:vs[i]? =some v) (hn:dC v.1=dC p.name):gM p vs (i+1)=(b+(ir p (dC v.2)+16),out++(fF p (dC v.2)).map (vV i b)):=by
 rw[gM,hv];simp only[if_pos hn,h]
theorem wN (p:FV) (w:List Nat):ir p w≤w.length+1:=by
 rw[ir];split
 ·exact ox w
 ·omega
theorem B7 (p:FV) (vs:List (ByteArray×ByteArray)):∀(i b:Nat) (out:List Tok),gM p vs i=(b,out)→b≤vsz (vs.take i)∧out.length≤vsz (vs.take i):=by
 intro i
 induction i with
 |zero=>intro b out h;cases h;simp
 |succ i ih=>
  intro b out h;obtain⟨c,a,h0⟩:∃c a,gM p vs i=(c,a):=⟨_,_,rfl⟩;obtain⟨h1,h2⟩:=ih c a h0;cases hv:vs[i]? with
  |none=>
   have e:gM p vs (i+1)=gM p vs i:=by rw[gM,hv]
   rw[e,h0]at h;cases h;have:vs.take (i+1)=vs.take i:=by rw[Um,hv];simp
   rw[this];exact⟨h1,h2⟩
  |some v=>
   rw[wQ hv];have hl:=dI v.2
   by_cases hn:dC v.1=dC p.name
   ·rw[wz h0 hv hn]at h;cases h;have h3:=wN p (dC v.2);have h4:=tt p (dC v.2);simp only[Ya,Yh];omega
   ·rw[B6 h0 hv hn]at h;cases h;omega
theorem tS {α β:Type}{f:α→β}{l:List α}{j:Nat}{x:α}(h:l[j]? =some x):(l.take (j+1)).map f=(l.take j).map f++ [f x]:=by
 rw[Um,h];simp
end
theorem Sf {G:dJ}{H:dD}{fv u:SV}{fs:List FV}{k:Nat}{vs:List (ByteArray×ByteArray)} [hf:Sl H fv eF fs] [hv:Sl H u eVl vs] [Spc H] (B:kh G) (hk:k≤1000000) (hfl:fs.length≤1000000) (hn:vs.length≤100000000) (A:∀v∈vs,v.2.size≤3000000) (hz:vsz vs≤1000000000):SC G prog 159 [.agg #[fv.val],iN k,u.val] H (λv C=>∃s:SV,v=s.val∧C=Row s eT (eZ fs k vs)::H):=by
 refine sWk func159 ?_;refine ws_ (wr_ (bxx (k:=λb3=>?_)));refine e_ asn (on_ (qn_ (ws_ (ws_ (wr_ (e_ mv (e_ ilt (e_ mv (ep 6 23 (k:=λh1=>eg_ mv (eg_ fla (eg_ ldv (eg_ lnn (eg_ ige (e_ pkf (on_ edq))))))) (q:=on_ (qn_ (wi_ (k:=λh2=>?_) (m:=λh2=>?_)))))))))))))
 ·have hT:eZ fs k vs= []:=by rw[eZ,Xz a8]
  refine ws_ (wr_ (e_ asn (on_ (qn_ (wt_ (qr_ (rT (k:=?_))))))));rw[hT];exact⟨_,hsb,SV.nil,rfl,rfl⟩
 obtain⟨p,hp⟩:=gE fs k;have hT:eZ fs k vs=(gM p vs vs.length).2:=by rw[eZ,hp]
 refine wk_ (qn_ (ws_ (wr_ (e_ fla (e_ ldv (e_ mv (e_ ixa (e_ gr (alc (k:=λb7=>?_))))))))));refine sto (k:=on_ (qn_ (ws_ (wr_ (e_ asn (on_ (qn_ (ws_ (wr_ (e_ asn (on_ (qn_ (ws_ ?_)))))))))))));refine ws_ (wr_ (e_ mv (e_ lnn (e_ mv (on_ (qn_ (wb_ (e8 (SV×Nat×Nat×(List Tok)) (λy=>y.2.1≤vs.length∧gM p vs y.2.1=(y.2.2.1,y.2.2.2)) (λy=>[(8,y.1.val),(9,iN y.2.2.1),(31,iN y.2.1)]) [(7,_),(29,_),(30,_)] (λy=>[Row y.1 eT y.2.2.2]) _ (λy=>vs.length-y.2.1) ((SV.nil,0,0, [])) (h0:=?_) (k:=?_)))))))))
 ·exact⟨Yl _,rfl⟩
 rintro⟨s,i,b,out⟩ ⟨hi,c⟩
 try dsimp only[Yd,Ye]at*
 refine ws_ (wr_ (e_ ilt (on_ (qn_ (ws_ (wi_ (k:=λh3=>?_) (m:=λh3=>?_)))))))
 ·obtain⟨v,a⟩:=gE vs i;have hvq:=A v (Yj a);have hvl:=dI v.2;have hle:=B7 p vs i b out c;have hzi:=wR vs i;have n:=wR vs (i+1);rw[wQ a]at n;refine wk_ (qn_ (ws_ (wb_ (ws_ (wr_ (e_ mv (e_ ixa (e_ gr (alc (k:=λb11=>?_))))))))));refine e_ asn (sto (k:=on_ (qn_ (ws_ (ws_ (wr_ (e_ fla (e_ ldv (e_ fla (e_ ldv (e_ Ka (on_ (qn_ ?_)))))))))))));refine wi_ (k:=λh4=>?_) (m:=λh4=>?_)
  ·have hno:=B6 c a h4;refine we_ (qe_ (bh_ (qn_ (wr_ (e_ iad (e_ mv (on_ ?_)))))));refine lN ((s,i+1,b,out)) ?_
   exact⟨a8,hno⟩
  have e:=wz c a (by have h:=h4;simpa using h);have htl:=tt p (dC v.2);refine wk_ (qn_ (ws_ (ws_ (wr_ (e_ lds (e_ fla (e_ ldv ?_)))))));refine c2_ rfl (tOf p B a8) ?_;rintro _ _ ⟨s44,rfl,rfl⟩;refine e_ lnn (e_ mv (on_ (qn_ (wb_ (e8 (SV×Nat×(List Tok)) (λy=>y.2.1≤(fF p (dC v.2)).length∧y.2.2=out++((fF p (dC v.2)).take y.2.1).map (vV i b)) (λy=>[(8,y.1.val),(46,iN y.2.1)]) [(7,_),(9,_),(10,_),(11,_),(29,_),(30,_),(31,_),(44,_),(45,_)] (λy=>[Row y.1 eT y.2.2]) _ (λy=>(fF p (dC v.2)).length-y.2.1) ((s,0,out)) (h0:=?_) (k:=?_))))))
  ·exact⟨Yl _,aq⟩
  rintro⟨w,j,g⟩ ⟨hj,d⟩
  try dsimp only[Yd,Ye]at*
  refine ws_ (wr_ (e_ ilt (on_ (qn_ (ws_ (wi_ (k:=λh5=>?_) (m:=λh5=>?_)))))))
  ·obtain⟨t,x⟩:∃t,(fF p (dC v.2))[j]? =some t:=⟨_,Yi a8⟩;have htp:=BP (Yj x);have r:=tS (f:=vV i b) x;have hol:g.length≤out.length+j:=by rw[d,Ya,Yh,Yg];omega
   refine wk_ (qn_ (ws_ (wb_ (ws_ (wr_ (e_ ixa (e_ gr (alc (k:=λb13=>?_)))))))));refine sto (k:=on_ (qn_ (ws_ (wr_ (e_ mv (e_ fla (sto (k:=on_ (qn_ (ws_ (wr_ (e_ fla (e_ ldv ?_)))))))))))));refine e_ mv ?_;refine e_ (evq iad (congrArg (Value.int .i64) (show _=((t.pos+b:Nat):Int)from a8))) ?_;refine e_ fla (sto (k:=on_ (qn_ (wr_ (e_ mv (e_ lds (fS eT (k:=λs59=>?_))))))));refine app (k:=λl=>?_);refine e_ asn (on_ (bn_ (qn_ (wr_ (e_ iad (e_ mv (on_ ?_)))))));refine lN ((l,j+1,g++ [vV i b t])) ?_
   try dsimp only
   exact⟨a8,by rw[r,←Yf,←d]⟩
  obtain rfl:j=(fF p (dC v.2)).length:=a8;rw[Xn]at d;rw[←d]at e;have hwl:=wN p (dC v.2);refine we_ (qe_ (le_ (bh_ (qn_ (ws_ (wr_ (e_ asn (on_ (qn_ (ws_ (ws_ (wr_ (e_ fla ?_)))))))))))));refine e_ ldv (e_ ieq (on_ (qn_ (wi_ (k:=λh6=>?_) (m:=λh6=>?_)))))
  ·have z:ir p (dC v.2)=(gy (dC v.2)).length:=by rw[ir,if_pos dy]
   refine wr_ (e_ fla (e_ ldv ?_));refine c1_ rfl (JH a8) ?_;rintro _ _ ⟨s67,rfl,rfl⟩;refine e_ lnn (e_ asn (on_ (qn_ (wr_ (e_ mv (e_ mv (e_ iad ?_)))))));refine e_ (evq iad (congrArg (Value.int .i64) (show _=((b+(ir p (dC v.2)+16):Nat):Int)from a8))) ?_;refine e_ asn (on_ (bn_ (qn_ (wr_ (e_ iad (e_ mv (on_ ?_)))))));refine lN ((w,i+1,b+(ir p (dC v.2)+16),g)) ?_
   exact⟨a8,e⟩
  have z:ir p (dC v.2)=1:=by rw[ir,if_neg dy]
  refine wk_ (qn_ (wr_ (e_ mv (e_ mv (e_ iad ?_)))));refine e_ (evq iad (congrArg (Value.int .i64) (show _=((b+(ir p (dC v.2)+16):Nat):Int)from a8))) ?_;refine e_ asn (on_ (bn_ (qn_ (wr_ (e_ iad (e_ mv (on_ ?_)))))));refine lN ((w,i+1,b+(ir p (dC v.2)+16),g)) ?_
  exact⟨a8,e⟩
 obtain rfl:i=vs.length:=a8;rw[c]at hT;refine we_ (qe_ (le_ (bh_ (qn_ (ws_ (wr_ (e_ mv (e_ asn (on_ (qn_ (wt_ (rT (k:=?_)))))))))))));rw[hT];exact⟨_,hsb,s,rfl,rfl⟩
theorem KB {G:dJ}{H:dD}{fv w:SV}{fs:List FV}{k:Nat}{vs:List (ByteArray×ByteArray)} [hf:Sl H fv eF fs] [hv:Sl H w eVl vs] (hk:k≤1000000) (hfl:fs.length≤1000000) (hn:vs.length≤100000000) (B:∀v∈vs,v.2.size≤3000000) (hz:vsz vs≤1000000000):SC G prog 37 [.agg #[fv.val],iN k,w.val] H (λv C=>∃s:SV,v=s.val∧C=Row s eT (eZ fs k vs)::H):=by
 refine sWk func37 ?_;refine ws_ (wr_ (bxx (k:=λb3=>?_)));refine e_ asn (on_ (qn_ (ws_ (wr_ ?_))));refine s_ (fk eT rfl) ?_;rintro _ _ ⟨n,rfl,rfl⟩;refine e_ asn (on_ (qn_ (ws_ (ws_ (wr_ (e_ mv (e_ ilt (e_ mv (ep 6 24 (k:=λh1=>eg_ mv (eg_ fla (eg_ ldv (eg_ lnn (eg_ ige (e_ pkf (on_ edq))))))) (q:=on_ (qn_ (wi_ (k:=λh2=>?_) (m:=λh2=>?_)))))))))))))
 ·have hT:eZ fs k vs= []:=by rw[eZ,Xz a8]
  refine ws_ (wr_ (e_ mv (e_ asn (on_ (qn_ (wt_ (qr_ (rT (k:=?_)))))))));rw[hT];exact⟨_,hsb,_,rfl,rfl⟩
 obtain⟨p,hp⟩:=gE fs k;have hT:eZ fs k vs=(gM p vs vs.length).2:=by rw[eZ,hp]
 refine wk_ (qn_ (ws_ (wr_ (e_ fla (e_ ldv (e_ mv (e_ ixa (e_ gr (alc (k:=λb8=>?_))))))))));refine sto (k:=on_ (qn_ (ws_ (wr_ (e_ asn (on_ (qn_ (ws_ (ws_ (wr_ (e_ mv (e_ lnn (e_ mv ?_)))))))))))));refine on_ (qn_ (wb_ (e8 (SV×Nat×Nat×(List Tok)) (λy=>y.2.1≤vs.length∧gM p vs y.2.1=(y.2.2.1,y.2.2.2)) (λy=>[(7,y.1.val),(9,iN y.2.2.1),(33,iN y.2.1)]) [(8,_),(31,_),(32,_)] (λy=>[Row y.1 eT y.2.2.2]) _ (λy=>vs.length-y.2.1) ((n,0,0, [])) (h0:=?_) (k:=?_))))
 ·exact⟨Yl _,rfl⟩
 rintro⟨s,i,b,out⟩ ⟨hi,c⟩
 try dsimp only[Yd,Ye]at*
 refine ws_ (wr_ (e_ ilt (on_ (qn_ (ws_ (wi_ (k:=λh3=>?_) (m:=λh3=>?_)))))))
 ·obtain⟨v,a⟩:=gE vs i;have hvq:=B v (Yj a);have hvl:=dI v.2;have hle:=B7 p vs i b out c;have hzi:=wR vs i;have r:=wR vs (i+1);rw[wQ a]at r;refine wk_ (qn_ (ws_ (wb_ (ws_ (wr_ (e_ mv (e_ ixa (e_ gr (alc (k:=λb11=>?_))))))))));refine e_ asn (sto (k:=on_ (qn_ (ws_ (ws_ (wr_ (e_ fla (e_ ldv (e_ fla (e_ ldv (e_ Ka (on_ (qn_ ?_)))))))))))));refine wi_ (k:=λh4=>?_) (m:=λh4=>?_)
  ·have hno:=B6 c a h4;refine we_ (qe_ (bh_ (qn_ (wr_ (e_ iad (e_ mv (on_ ?_)))))));refine lN ((s,i+1,b,out)) ?_
   exact⟨a8,hno⟩
  have e:=wz c a (by have h:=h4;simpa using h);have htl:=tt p (dC v.2);refine wk_ (qn_ (ws_ (ws_ (wr_ (e_ lds (e_ fla (e_ ldv ?_)))))));refine c2_ rfl (rOf p a8) ?_;rintro _ _ ⟨s46,rfl,rfl⟩;refine e_ lnn (e_ mv (on_ (qn_ (wb_ (e8 (SV×Nat×(List Tok)) (λy=>y.2.1≤(fF p (dC v.2)).length∧y.2.2=out++((fF p (dC v.2)).take y.2.1).map (vV i b)) (λy=>[(7,y.1.val),(48,iN y.2.1)]) [(8,_),(9,_),(10,_),(11,_),(31,_),(32,_),(33,_),(46,_),(47,_)] (λy=>[Row y.1 eT y.2.2]) _ (λy=>(fF p (dC v.2)).length-y.2.1) ((s,0,out)) (h0:=?_) (k:=?_))))))
  ·exact⟨Yl _,aq⟩
  rintro⟨x,j,g⟩ ⟨hj,d⟩
  try dsimp only[Yd,Ye]at*
  refine ws_ (wr_ (e_ ilt (on_ (qn_ (ws_ (wi_ (k:=λh5=>?_) (m:=λh5=>?_)))))))
  ·obtain⟨t,z⟩:∃t,(fF p (dC v.2))[j]? =some t:=⟨_,Yi a8⟩;have htp:=BP (Yj z);have u:=tS (f:=vV i b) z;have hol:g.length≤out.length+j:=by rw[d,Ya,Yh,Yg];omega
   refine wk_ (qn_ (ws_ (wb_ (ws_ (wr_ (e_ ixa (e_ gr (alc (k:=λb13=>?_)))))))));refine sto (k:=on_ (qn_ (ws_ (wr_ (e_ mv (e_ fla (sto (k:=on_ (qn_ (ws_ (wr_ (e_ fla (e_ ldv ?_)))))))))))));refine e_ mv ?_;refine e_ (evq iad (congrArg (Value.int .i64) (show _=((t.pos+b:Nat):Int)from a8))) ?_;refine e_ fla (sto (k:=on_ (qn_ (wr_ (e_ mv (e_ lds (fS eT (k:=λs61=>?_))))))));refine app (k:=λl=>?_);refine e_ asn (on_ (bn_ (qn_ (wr_ (e_ iad (e_ mv (on_ ?_)))))));refine lN ((l,j+1,g++ [vV i b t])) ?_
   try dsimp only
   exact⟨a8,by rw[u,←Yf,←d]⟩
  obtain rfl:j=(fF p (dC v.2)).length:=a8;rw[Xn]at d;rw[←d]at e;have hwl:=wN p (dC v.2);refine we_ (qe_ (le_ (bh_ (qn_ (ws_ (wr_ (e_ asn (on_ (qn_ (ws_ (ws_ (wr_ (e_ fla ?_)))))))))))));refine e_ ldv (e_ ieq (on_ (qn_ (wi_ (k:=λh6=>?_) (m:=λh6=>?_)))))
  ·have A:ir p (dC v.2)=(gy (dC v.2)).length:=by rw[ir,if_pos dy]
   refine wr_ (e_ fla (e_ ldv ?_));refine c1_ rfl (Kt a8) ?_;rintro _ _ ⟨s69,rfl,rfl⟩;refine e_ lnn (e_ asn (on_ (qn_ (wr_ (e_ mv (e_ mv (e_ iad ?_)))))));refine e_ (evq iad (congrArg (Value.int .i64) (show _=((b+(ir p (dC v.2)+16):Nat):Int)from a8))) ?_;refine e_ asn (on_ (bn_ (qn_ (wr_ (e_ iad (e_ mv (on_ ?_)))))));refine lN ((x,i+1,b+(ir p (dC v.2)+16),g)) ?_
   exact⟨a8,e⟩
  have A:ir p (dC v.2)=1:=by rw[ir,if_neg dy]
  refine wk_ (qn_ (wr_ (e_ mv (e_ mv (e_ iad ?_)))));refine e_ (evq iad (congrArg (Value.int .i64) (show _=((b+(ir p (dC v.2)+16):Nat):Int)from a8))) ?_;refine e_ asn (on_ (bn_ (qn_ (wr_ (e_ iad (e_ mv (on_ ?_)))))));refine lN ((x,i+1,b+(ir p (dC v.2)+16),g)) ?_
  exact⟨a8,e⟩
 obtain rfl:i=vs.length:=a8;rw[c]at hT;refine we_ (qe_ (le_ (bh_ (qn_ (ws_ (wr_ (e_ mv (e_ asn (on_ (qn_ (wt_ (rT (k:=?_)))))))))))));rw[hT];exact⟨_,hsb,s,rfl,rfl⟩
section
variable {G:dJ}{H:dD}{fs:List FV}{q:ByteArray}{s:SV}{w:List Nat}
def kL (k:Int) (w:List Nat):Bool:=
 if k=2 then !decide (w= [])&&decide (w.length≤64)else if k=3 then(iI w).isSome else true
theorem RA {k:Int}(hq:q.size≤1000000000):SC G prog 158 [.int .i64 k,.string q] H (λv d=>v=.bool (kL k (dC q))∧d=H):=by
 have hl:=dI q;refine sWk func158 ?_;refine go ?_;refine gW (λh1=>?_) λh1=>?_
 ·have hk:k=2:=h1;refine gk (k:=e_ Ka (gk (k:=dV 4 16 (k:=λh2=>gk (k:=edq)) (q:=gR ?_))));refine⟨_,hsb,vb ?_,rfl⟩;rw[kL,if_pos hk,hl];simp only[Xu,Uf,Xy,Xq]
  constructor
  ·rintro⟨h1,h2⟩;exact⟨h1,a8⟩
  ·rintro⟨h1,h2⟩;exact⟨h1,a8⟩
 have hk2:¬k=2:=h1;refine gW (λh3=>?_) λh3=>?_
 ·have a:k=3:=h3;refine go ?_;refine c1_ rfl (G2 a8) ?_;rintro _ _ ⟨n,b,rfl,c,rfl⟩;refine go ?_;refine gR ?_;refine⟨_,hsb,?_,rfl⟩;rw[kL,if_neg hk2,if_pos a];rcases c with⟨h1,h2,_⟩|⟨h1,h2⟩ <;> rw[h1,h2] <;> rfl
 have a:¬k=3:=h3;refine gR ?_;refine⟨_,hsb,?_,rfl⟩;rw[kL,if_neg hk2,if_neg a];all_goals rfl
def ig (fs:List FV) (w:List Nat):Option Nat:=fs.findIdx? λp=>decide (dC p.name=w)
theorem Ba {i:Nat}{p:FV}(h:fs[i]? =some p) (hn:dC p.name=w) (a:∀j p',j<i→fs[j]? =some p'→¬dC p'.name=w):ig fs w=some i:=by
 have hi:=(Yk.1 h).1;have e:fs[i]=p:=(Yk.1 h).2;rw[ig,List.findIdx?_eq_some_iff_getElem];refine⟨hi,by simp[e,hn],λj hj=>?_⟩;have:=a j fs[j] hj (Yi a8)
 simpa using this
theorem vo (a:∀j p',j<fs.length→fs[j]? =some p'→¬dC p'.name=w):ig fs w=none:=by
 rw[ig,List.findIdx?_eq_none_iff];intro p hp;obtain⟨j,hj⟩:=Vh.1 hp
 simpa using a j p (Yk.1 hj).1 hj
theorem WX [hs:Sl H s eF fs] (hn:fs.length≤1000000000):SC G prog 155 [.agg #[s.val],.string q] H (λv g=>∃(k:Nat) (b:Bool),v=.tuple #[iN k,.bool b]∧((b=true∧ig fs (dC q)=some k)∨(b=false∧ig fs (dC q)=none))∧g=H):=by
 refine sWk func155 ?_;refine gk (k:=bxx (k:=λb2=>?_));refine go ?_;refine e8 Nat (λy=>y≤fs.length∧∀j p,j<y→fs[j]? =some p→¬dC p.name=dC q) (λy=>[(11,iN y)]) [(1,_),(9,_),(10,_)] (λy=>[]) _ (λy=>fs.length-y) (0) (h0:=?_) (k:=?_)
 ·exact⟨Yl _,λj e hj=>absurd hj (Up _)⟩
 rintro i ⟨hi,a⟩
 try dsimp only[Yd,Ye]at*
 refine gW (λh1=>?_) λh1=>?_
 ·obtain⟨p,hp⟩:=gE fs i;refine gk (k:=alc (k:=λb7=>?_));refine gk (k:=e_ tH (gW (λh2=>?_) (λh2=>?_)))
  ·have d:=Ba hp h2 a;refine gR ?_;exact⟨_,hsb,i,true,rfl,.inl ⟨rfl,d⟩,rfl⟩
  have hno:=h2;refine go ?_;refine lN (i+1) ?_
  try dsimp only
  refine⟨a8,λj f hj c=>?_⟩
  by_cases e0:j=i
  ·subst e0;rw[hp]at c;cases c;exact hno
  ·exact a j f a8 c
 have d:ig fs (dC q)=none:=vo λj p hj=>a j p a8;refine gR ?_;exact⟨_,hsb,0,false,rfl,.inr ⟨rfl,d⟩,rfl⟩
theorem Wh [hs:Sl H s eF fs] (hn:fs.length≤1000000000):SC G prog 223 [.agg #[s.val],.string q] H (λv g=>∃(k:Nat) (b:Bool),v=.tuple #[iN k,.bool b]∧((b=true∧ig fs (dC q)=some k)∨(b=false∧ig fs (dC q)=none))∧g=H):=by
 refine sWk func223 ?_;refine gk (k:=bxx (k:=λb2=>?_));refine go ?_;refine e8 Nat (λy=>y≤fs.length∧∀j p,j<y→fs[j]? =some p→¬dC p.name=dC q) (λy=>[(11,iN y)]) [(1,_),(9,_),(10,_)] (λy=>[]) _ (λy=>fs.length-y) (0) (h0:=?_) (k:=?_)
 ·exact⟨Yl _,λj e hj=>absurd hj (Up _)⟩
 rintro i ⟨hi,a⟩
 try dsimp only[Yd,Ye]at*
 refine gW (λh1=>?_) λh1=>?_
 ·obtain⟨p,hp⟩:=gE fs i;refine gk (k:=alc (k:=λb7=>?_));refine gk (k:=e_ tH (gW (λh2=>?_) (λh2=>?_)))
  ·have d:=Ba hp h2 a;refine gR ?_;exact⟨_,hsb,i,true,rfl,.inl ⟨rfl,d⟩,rfl⟩
  have hno:=h2;refine go ?_;refine lN (i+1) ?_
  try dsimp only
  refine⟨a8,λj f hj c=>?_⟩
  by_cases e0:j=i
  ·subst e0;rw[hp]at c;cases c;exact hno
  ·exact a j f a8 c
 have d:ig fs (dC q)=none:=vo λj p hj=>a j p a8;refine gR ?_;exact⟨_,hsb,0,false,rfl,.inr ⟨rfl,d⟩,rfl⟩
end
section
variable {G:dJ}{H:dD}{x:Nat}
def fO (n:Nat):Nat:=if n=0 then 0 else Nat.log2 n+1
theorem rU (n:Nat):n<2^fO n:=by
 rw[fO];split
 ·omega
 ·exact Nat.lt_log2_self
theorem vC {n:Nat}(h:n≠0):2^(fO n-1)≤n:=by
 rw[fO,if_neg h,X7];exact Nat.log2_self_le h
theorem J3 {n k:Nat}(h1:2^k≤n) (h2:n<2^(k+1)):fO n=k+1:=by
 have h0:n≠0:=by have:=U3 k;omega
 rw[fO,if_neg h0];have h3:Nat.log2 n<k+1:=(Nat.log2_lt h0).2 h2;have h4:¬Nat.log2 n<k:=λh=>by have:=(Nat.log2_lt h0).1 h;omega
 omega
theorem fY (n k:Nat) (h:2^k≤n):fO n=fO (n/2^k)+k:=by
 have hp:=U3 k;have h0:n/2^k≠0:=by
  have:=Nat.div_pos h hp;omega
 obtain⟨m,hm⟩:∃m,fO (n/2^k)=m+1:=⟨Nat.log2 (n/2^k),by rw[fO,if_neg h0]⟩;have h1:=vC h0;have h2:=rU (n/2^k);rw[hm]at h1 h2⊢;rw[X7]at h1;rw[show m+1+k=(m+k)+1 from a8];apply J3
 ·rw[Uz];exact(Nat.le_div_iff_mul_le hp).1 h1
 ·rw[show m+k+1=(m+1)+k from a8,Uz];exact(Nat.div_lt_iff_lt_mul hp).1 h2
def EO:ByteArray:=⟨#[0,1,2,2,3,3,3,3,4,4,4,4,4,4,4,4,5,5,5,5,5,5,5,5,5,5,5,5,5,5,5,5,6,6,6,6,6,6,6,6,6,6,6,6,6,6,6,6,6,6,6,6,6,6,6,6,6,6,6,6,6,6,6,6,7,7,7,7,7,7,7,7,7,7,7,7,7,7,7,7,7,7,7,7,7,7,7,7,7,7,7,7,7,7,7,7,7,7,7,7,7,7,7,7,7,7,7,7,7,7,7,7,7,7,7,7,7,7,7,7,7,7,7,7,7,7,7,7,8,8,8,8,8,8,8,8,8,8,8,8,8,8,8,8,8,8,8,8,8,8,8,8,8,8,8,8,8,8,8,8,8,8,8,8,8,8,8,8,8,8,8,8,8,8,8,8,8,8,8,8,8,8,8,8,8,8,8,8,8,8,8,8,8,8,8,8,8,8,8,8,8,8,8,8,8,8,8,8,8,8,8,8,8,8,8,8,8,8,8,8,8,8,8,8,8,8,8,8,8,8,8,8,8,8,8,8,8,8,8,8,8,8,8,8,8,8,8,8,8,8,8,8,8,8,8,8]⟩
theorem NA:∀i:Fin 256,at0 (dC EO) i.val=fO i.val:=ax
theorem qF {i:Nat}(h:i<256):at0 (dC EO) i=fO i:=NA ⟨i,h⟩
theorem bl8 (n:Nat) (h:n<256):fO n≤8:=by
 by_cases h0:n=0
 ·subst h0;decide
 ·have h1:=vC h0;rcases Us 8 (fO n)with h2|h2
  ·exfalso;have h3:2^8≤2^(fO n-1):=X0 ae a8;omega
  ·exact h2
theorem CV:EO.size=256:=rfl
theorem RT (hx:x<18446744073709551616):SC G prog 257 [uN x] H (λv e=>v=iN (fO x)∧e=H):=by
 have hsz:=CV;refine sWk func257 ?_;refine gW (λh1=>?_) λh1=>?_
 ·have hs1:=fY x 32 a8;refine ws_ (wr_ (e_ mv ?_));refine e_ (hX rfl rfl _ 32 rfl rfl aV) (go ?_);refine wi_ (k:=λh2=>?_) (m:=λh2=>?_)
  ·first|have c:=fY (x/2^32) 16 a8|have c:=fY x 16 a8
   refine ws_ (wr_ (e_ mv ?_));refine e_ (hX rfl rfl _ 16 rfl rfl aV) (go ?_);refine gW (λh3=>?_) λh3=>?_
   ·first|have b:=fY (x/2^32/2^16) 8 a8|have b:=fY (x/2^32) 8 a8|have b:=fY (x/2^16) 8 a8|have b:=fY x 8 a8
    refine ws_ (wr_ (e_ mv ?_));refine e_ (hX rfl rfl _ 8 rfl rfl aV) ?_;refine e_ asn (on_ (qn_ (wr_ (e_ mv (e_ iad (e_ asn (on_ (qn_ (ws_ (wr_ ?_))))))))))
    first|have a:=bl8 x a8|have a:=bl8 (x/2^8) a8|have a:=bl8 (x/2^16) a8|have a:=bl8 (x/2^16/2^8) a8|have a:=bl8 (x/2^32) a8|have a:=bl8 (x/2^32/2^8) a8|have a:=bl8 (x/2^32/2^16) a8|have a:=bl8 (x/2^32/2^16/2^8) a8
    refine e_ mv (e_ mv ?_);refine e_ (dW 256 rfl rfl rfl _ rfl a8) ?_;refine e_ (evq ixs (congrArg (λn:Nat=>Value.int .u8 (n:Int)) (qF a8))) ?_;refine e_ (ew rfl a8) ?_;refine gR ?_;exact⟨_,hsb,congrArg (Value.int .i64) a8,rfl⟩
   refine wk_ (qn_ (ws_ (wr_ ?_)))
   first|have a:=bl8 x a8|have a:=bl8 (x/2^8) a8|have a:=bl8 (x/2^16) a8|have a:=bl8 (x/2^16/2^8) a8|have a:=bl8 (x/2^32) a8|have a:=bl8 (x/2^32/2^8) a8|have a:=bl8 (x/2^32/2^16) a8|have a:=bl8 (x/2^32/2^16/2^8) a8
   refine e_ mv (e_ mv ?_);refine e_ (dW 256 rfl rfl rfl _ rfl a8) ?_;refine e_ (evq ixs (congrArg (λn:Nat=>Value.int .u8 (n:Int)) (qF a8))) ?_;refine e_ (ew rfl a8) ?_;refine gR ?_;exact⟨_,hsb,congrArg (Value.int .i64) a8,rfl⟩
  refine gW (λh4=>?_) λh4=>?_
  ·first|have b:=fY (x/2^32/2^16) 8 a8|have b:=fY (x/2^32) 8 a8|have b:=fY (x/2^16) 8 a8|have b:=fY x 8 a8
   refine ws_ (wr_ (e_ mv ?_));refine e_ (hX rfl rfl _ 8 rfl rfl aV) ?_;refine e_ asn (on_ (qn_ (wr_ (e_ mv (e_ iad (e_ asn (on_ (qn_ (ws_ (wr_ ?_))))))))))
   first|have a:=bl8 x a8|have a:=bl8 (x/2^8) a8|have a:=bl8 (x/2^16) a8|have a:=bl8 (x/2^16/2^8) a8|have a:=bl8 (x/2^32) a8|have a:=bl8 (x/2^32/2^8) a8|have a:=bl8 (x/2^32/2^16) a8|have a:=bl8 (x/2^32/2^16/2^8) a8
   refine e_ mv (e_ mv ?_);refine e_ (dW 256 rfl rfl rfl _ rfl a8) ?_;refine e_ (evq ixs (congrArg (λn:Nat=>Value.int .u8 (n:Int)) (qF a8))) ?_;refine e_ (ew rfl a8) ?_;refine gR ?_;exact⟨_,hsb,congrArg (Value.int .i64) a8,rfl⟩
  refine wk_ (qn_ (ws_ (wr_ ?_)))
  first|have a:=bl8 x a8|have a:=bl8 (x/2^8) a8|have a:=bl8 (x/2^16) a8|have a:=bl8 (x/2^16/2^8) a8|have a:=bl8 (x/2^32) a8|have a:=bl8 (x/2^32/2^8) a8|have a:=bl8 (x/2^32/2^16) a8|have a:=bl8 (x/2^32/2^16/2^8) a8
  refine e_ mv (e_ mv ?_);refine e_ (dW 256 rfl rfl rfl _ rfl a8) ?_;refine e_ (evq ixs (congrArg (λn:Nat=>Value.int .u8 (n:Int)) (qF a8))) ?_;refine e_ (ew rfl a8) ?_;refine gR ?_;exact⟨_,hsb,congrArg (Value.int .i64) a8,rfl⟩
 refine gW (λh5=>?_) λh5=>?_
 ·first|have c:=fY (x/2^32) 16 a8|have c:=fY x 16 a8
  refine ws_ (wr_ (e_ mv ?_));refine e_ (hX rfl rfl _ 16 rfl rfl aV) (go ?_);refine gW (λh6=>?_) λh6=>?_
  ·first|have b:=fY (x/2^32/2^16) 8 a8|have b:=fY (x/2^32) 8 a8|have b:=fY (x/2^16) 8 a8|have b:=fY x 8 a8
   refine ws_ (wr_ (e_ mv ?_));refine e_ (hX rfl rfl _ 8 rfl rfl aV) ?_;refine e_ asn (on_ (qn_ (wr_ (e_ mv (e_ iad (e_ asn (on_ (qn_ (ws_ (wr_ ?_))))))))))
   first|have a:=bl8 x a8|have a:=bl8 (x/2^8) a8|have a:=bl8 (x/2^16) a8|have a:=bl8 (x/2^16/2^8) a8|have a:=bl8 (x/2^32) a8|have a:=bl8 (x/2^32/2^8) a8|have a:=bl8 (x/2^32/2^16) a8|have a:=bl8 (x/2^32/2^16/2^8) a8
   refine e_ mv (e_ mv ?_);refine e_ (dW 256 rfl rfl rfl _ rfl a8) ?_;refine e_ (evq ixs (congrArg (λn:Nat=>Value.int .u8 (n:Int)) (qF a8))) ?_;refine e_ (ew rfl a8) ?_;refine gR ?_;exact⟨_,hsb,congrArg (Value.int .i64) a8,rfl⟩
  refine wk_ (qn_ (ws_ (wr_ ?_)))
  first|have a:=bl8 x a8|have a:=bl8 (x/2^8) a8|have a:=bl8 (x/2^16) a8|have a:=bl8 (x/2^16/2^8) a8|have a:=bl8 (x/2^32) a8|have a:=bl8 (x/2^32/2^8) a8|have a:=bl8 (x/2^32/2^16) a8|have a:=bl8 (x/2^32/2^16/2^8) a8
  refine e_ mv (e_ mv ?_);refine e_ (dW 256 rfl rfl rfl _ rfl a8) ?_;refine e_ (evq ixs (congrArg (λn:Nat=>Value.int .u8 (n:Int)) (qF a8))) ?_;refine e_ (ew rfl a8) ?_;refine gR ?_;exact⟨_,hsb,congrArg (Value.int .i64) a8,rfl⟩
 refine gW (λd=>?_) λd=>?_
 ·first|have b:=fY (x/2^32/2^16) 8 a8|have b:=fY (x/2^32) 8 a8|have b:=fY (x/2^16) 8 a8|have b:=fY x 8 a8
  refine ws_ (wr_ (e_ mv ?_));refine e_ (hX rfl rfl _ 8 rfl rfl aV) ?_;refine e_ asn (on_ (qn_ (wr_ (e_ mv (e_ iad (e_ asn (on_ (qn_ (ws_ (wr_ ?_))))))))))
  first|have a:=bl8 x a8|have a:=bl8 (x/2^8) a8|have a:=bl8 (x/2^16) a8|have a:=bl8 (x/2^16/2^8) a8|have a:=bl8 (x/2^32) a8|have a:=bl8 (x/2^32/2^8) a8|have a:=bl8 (x/2^32/2^16) a8|have a:=bl8 (x/2^32/2^16/2^8) a8
  refine e_ mv (e_ mv ?_);refine e_ (dW 256 rfl rfl rfl _ rfl a8) ?_;refine e_ (evq ixs (congrArg (λn:Nat=>Value.int .u8 (n:Int)) (qF a8))) ?_;refine e_ (ew rfl a8) ?_;refine gR ?_;exact⟨_,hsb,congrArg (Value.int .i64) a8,rfl⟩
 refine wk_ (qn_ (ws_ (wr_ ?_)))
 first|have a:=bl8 x a8|have a:=bl8 (x/2^8) a8|have a:=bl8 (x/2^16) a8|have a:=bl8 (x/2^16/2^8) a8|have a:=bl8 (x/2^32) a8|have a:=bl8 (x/2^32/2^8) a8|have a:=bl8 (x/2^32/2^16) a8|have a:=bl8 (x/2^32/2^16/2^8) a8
 refine e_ mv (e_ mv ?_);refine e_ (dW 256 rfl rfl rfl _ rfl a8) ?_;refine e_ (evq ixs (congrArg (λn:Nat=>Value.int .u8 (n:Int)) (qF a8))) ?_;refine e_ (ew rfl a8) ?_;refine gR ?_;exact⟨_,hsb,congrArg (Value.int .i64) a8,rfl⟩
theorem Wb (hx:x<18446744073709551616):SC G prog 221 [uN x] H (λv a=>v=iN (fO x)∧a=H):=by
 refine sWk func221 ?_;refine gk (k:=fM (k:=go ?_));refine d1_ rfl (RT hx) (gR ?_);exact⟨_,hsb,rfl,rfl⟩
end
section
variable {ns:List Nat}
theorem j7 (n k:Nat):fO n≤k↔n<2^k:=by
 constructor
 ·intro h;exact Q6 (rU n) (X0 ae h)
 ·intro h
  by_cases h0:n=0
  ·subst h0;exact Yl _
  ·have h1:=vC h0;rcases Us k (fO n)with h2|h2
   ·exfalso;have h3:2^k≤2^(fO n-1):=X0 ae a8;omega
   ·exact h2
theorem A6 (a b:Nat):fO (a |||b)=max (fO a) (fO b):=by
 apply Nat.le_antisymm
 ·rw[j7];exact U7 ((j7 _ _).1 (Nat.le_max_left _ _)) ((j7 _ _).1 (Nat.le_max_right _ _))
 ·rw[Nat.max_le]
  constructor
  ·rw[j7];exact Nat.lt_of_le_of_lt Nat.left_le_or (rU _)
  ·rw[j7];exact Nat.lt_of_le_of_lt Nat.right_le_or (rU _)
def orL (ns:List Nat):Nat:=ns.foldl (λa b=>a |||b) 0
theorem CF {i x:Nat}(h:ns[i]? =some x):orL (ns.take (i+1))=orL (ns.take i) |||x:=by
 rw[orL,orL,Um,h,List.foldl_append];all_goals rfl
theorem qU {k:Nat}:∀{ns:List Nat}{a:Nat},a<2^k→(∀x∈ns,x<2^k)→ns.foldl (λa b=>a |||b) a<2^k
 | [],a,ha,_=>ha
 |x::l,a,ha,h=>qU (ns:=l) (U7 ha (h x Yz)) λy hy=>h y (Xa _ hy)
def dT (ns:List Nat):List Int:=ns.map λn:Nat=>(n:Int)
theorem gh {i x:Nat}(h:ns[i]? =some x):(dT ns)[i]? =some (x:Int):=by
 rw[dT,Xd,h];all_goals rfl
theorem eJ (ns:List Nat):(dT ns).length=ns.length:=by simp[dT]
end
section
variable {G:dJ}{P:Program}{t:Tm}{H:dD}{dst:Option Tmp}{ty:TypeId}{pos:String}{after:Array Edge}{g:Option (Nat×Bool)}
theorem ye {T U:TypeId}{x y:Operand}{k':IntKind}{i j:Int}(hx:evo t x=some (.int .i64 i)) (hy:evo t y=some (.int k' j)) (a b:Nat) (ha:i=a) (f:j=b) (c:b≤64) (hl:a*2^b<9223372036854775808):
 Ev G P ⟨dst,.binOp .shl T x y U,ty,pos,after,g⟩ t H (iN (a*2^b)):=
 fun ρ hρ w _=>by
  have e:IntKind.wrap .i64 ((a:Int)*2^min b 64)=((a*2^b:Nat):Int):=by
   rw[Ug c,show((a:Int)*2^b)=((a*2^b:Nat):Int)from aq];exact kH a8
  have d:¬((b:Int)<0):=a8;simp only[execOp,hρ _ _ hx,hρ _ _ hy,eqGuard,binOp,Op.shift,ha,f];have h:IntKind.bits .i64=64:=rfl;simp[e,d,h]
end
def ff (ns:List Nat):List Nat:=uv ns.length++(if ns= []then []else fO (orL ns)::Gu (fO (orL ns)) ns)
theorem FD (ns:List Nat):∀x∈dT ns,0≤x:=by
 intro x hx;obtain⟨n,_,rfl⟩:=Xt.1 hx;omega
theorem KT {ns:List Nat}{x:Nat}(h:x∈ns):x<2 ^ fO (orL ns):=by
 obtain⟨i,hi⟩:=Vh.1 h
 have key:∀(l:List Nat) (a x:Nat),(x=a∨x∈l)→fO x≤fO (l.foldl (λa b=> a |||b) a):=by
  intro l
  induction l with
  |nil=> intro a x hx;rcases hx with rfl|hx
         ·exact Xl _
         ·cases hx
  |cons y l ih=>
   intro a x hx
   rw[List.foldl_cons]
   rcases hx with rfl|hx
   ·exact Xi (by rw[A6];exact Nat.le_max_left _ _) (ih (x |||y) (x |||y) (.inl rfl))
   ·rcases Xo.1 hx with rfl|hx
    ·exact Xi (by rw[A6];exact Nat.le_max_right _ _) (ih (a |||x) (a |||x) (.inl rfl))
    ·exact ih _ _ (.inr hx)
 exact(j7 _ _).1 (key ns 0 x (.inr h))
section
variable {α:Type}{full:List α}{i nb:Nat}{ns:List Nat}{z:α}
def gx {α:Type}(full:List α) (z:α) (i:Nat):List α:=full.take i++List.replicate (full.length-i) z
theorem kG (h:i≤full.length):(gx full z i).length=full.length:=by simp[gx];omega
theorem mW (full:List α) (z:α):gx full z 0=List.replicate full.length z:=by simp[gx]
theorem nu (full:List α) (z:α):gx full z full.length=full:=by simp[gx]
theorem oT {b:α}(h:full[i]? =some b):(gx full z i).set i b=gx full z (i+1):=by
 have hi:=(Yk.1 h).1;obtain⟨d,hd⟩:∃d,full.length-i=d+1:=⟨full.length-i-1,a8⟩;have h2:full.length-(i+1)=d:=a8;rw[gx,gx,hd,h2,dK h,V6,Ux _ _ az,Yg,Ug a8,Ui];simp
abbrev Po:=Nat×List Nat
def fB (nb:Nat) (l:List Po):Nat:=match l.getLast? with|none=>nb|some p=>p.1+1
def je:Nat→List Po→List Nat
 |_, []=>[]
 |nb,p::r=>(p.1-nb)::je (p.1+1) r
def kt (l:List Po):List Nat:=l.map λp=>p.2.length-1
def gU:Nat→List Nat→List Nat
 |_, []=>[]
 |nb,x::r=>uv (x-nb)++gU (x+1) r
def fP (l:List Po):List Nat:=l.flatMap λp=>gU 0 p.2
def my (nb:Nat) (l:List Po):List Nat:=ff (je nb l)++ff (kt l)++fP l
def ec (l:List Po):Nat:=(l.map λp=>p.2.length).sum
def ei (l:List Po) (k:Nat):List Po:=(l.take (16*k+16)).drop (16*k)
def dP (l:List Po):Nat→Nat×List Nat×List Nat
 | 0=>(0, [], [])
 |k+1=>(fB (dP l k).1 (ei l k),
  (dP l k).2.1++(uv (fB (dP l k).1 (ei l k)-1-(dP l k).1)++uv (my (dP l k).1 (ei l k)).length),
  (dP l k).2.2++my (dP l k).1 (ei l k))
def eC (l:List Po):Nat:=(l.length+15)/16
def eO (l:List Po):List Nat:=uv l.length++uv (ec l)++(dP l (eC l)).2.1++(dP l (eC l)).2.2
def tP:Nat→List Nat→Prop
 |_, []=>True
 |nb,x::r=>nb≤x∧tP (x+1) r
def j5:Nat→List Po→Prop
 |_, []=>True
 |nb,p::r=>nb≤p.1∧p.2≠ []∧tP 0 p.2∧j5 (p.1+1) r
def fL (l:List Po):Prop:=l.length≤100000∧∀p∈l,p.1≤1000000∧p.2.length≤100000000∧∀x∈p.2,x<1099511627776
theorem oL (nb:Nat):fB nb []=nb:=rfl
theorem pR (nb:Nat) (l:List Po) (p:Po):fB nb (l++ [p])=p.1+1:=by simp[fB]
theorem kQ (nb:Nat) (p:Po) (l:List Po):fB nb (p::l)=fB (p.1+1) l:=by
 cases l with
 |nil=>rfl
 |cons q l=>
  have h:(q::l).getLast? ≠none:=aq;simp only[fB,List.getLast?_cons_cons];cases hc:(q::l).getLast? with
  |none=>exact absurd hc h
  |some r=>rfl
theorem sV {l:List Po}{p:Po}(h:l[i]? =some p):fB nb (l.take (i+1))=p.1+1:=by
 rw[dK h,pR]
theorem iO:∀(l:List Po) (nb:Nat),(je nb l).length=l.length
 | [],_=>rfl
 |p::r,nb=>by simp[je,iO r]
theorem vk:∀{l:List Po}{nb i:Nat}{p:Po},l[i]? =some p→(je nb l)[i]? =some (p.1-fB nb (l.take i))
 | [],_,_,_,h=>aK
 |q::r,nb,0,p,h=>by simp at h;subst h;simp[je,oL]
 |q::r,nb,i+1,p,h=>by
  rw[Xc]at h;rw[je,Xc,vk h,Vq,kQ]
theorem jP:∀{l:List Po}{nb i:Nat}{p:Po},j5 nb l→l[i]? =some p→fB nb (l.take i)≤p.1∧p.2≠ []∧tP 0 p.2
 | [],_,_,_,_,h=>aK
 |q::r,nb,0,p,hk,h=>by simp at h;subst h;exact⟨hk.1,hk.2.1,hk.2.2.1⟩
 |q::r,nb,i+1,p,hk,h=>by
  rw[Xc]at h;rw[Vq,kQ];exact jP hk.2.2.2 h
theorem zn:∀{l:List Po}{nb:Nat}(i:Nat),j5 nb l→j5 (fB nb (l.take i)) (l.drop i)
 |l,nb,0,h=>by simpa [oL] using h
 | [],_,i+1,_=>by simp[j5]
 |p::r,nb,i+1,h=>by
  rw[Vq,U9,kQ];exact zn i h.2.2.2
theorem uW:∀{l:List Po}{nb:Nat}(i:Nat),j5 nb l→j5 nb (l.take i)
 |_,_,0,_=>by simp[j5]
 | [],_,i+1,_=>by simp[j5]
 |p::r,nb,i+1,h=>by
  rw[Vq];exact⟨h.1,h.2.1,h.2.2.1,uW i h.2.2.2⟩
theorem Iq (nb:Nat) (a b:List Po):fB nb (a++b)=fB (fB nb a) b:=by
 cases b with
 |nil=>simp[oL]
 |cons p b=>
  obtain⟨c,q,hc⟩:∃c q,p::b=c++ [q]:=by
   rcases X4 (p::b)with h|⟨c,q,h⟩
   ·cases h
   ·exact⟨c,q,bA⟩
  rw[hc,←Yf,pR,pR]
theorem lQ (l:List Po) (k:Nat):l.take (16*k)++ei l k=l.take (16*(k+1)):=by
 have h:l.take (16*k)=(l.take (16*k+16)).take (16*k):=by rw[List.take_take,Ug a8]
 rw[ei,h,Vd];all_goals rfl
theorem vQ (l:List Po):∀k,(dP l k).1=fB 0 (l.take (16*k))
 | 0=>rfl
 |k+1=>by rw[dP,vQ l k,←Iq,lQ]
theorem nF {l:List Po}(h:j5 0 l) (k:Nat):j5 (dP l k).1 (ei l k):=by
 have h2:=zn (16*k) (uW (16*k+16) h);rw[vQ,ei]
 rwa [List.take_take,Ug a8]at h2
theorem pb (l:List Po) (k:Nat):(ei l k).length=min (16*k+16) l.length-16*k:=by simp[ei]
theorem J0 {l:List Po}{k:Nat}{p:Po}(h:p∈ei l k):p∈l:=Yq (Yp h)
theorem pB:∀{l:List Nat}{nb j x:Nat},l[j]? =some x→gU nb (l.take (j+1))=gU nb (l.take j)++uv (x-(if j=0 then nb else l.getD (j-1) 0+1))
 | [],_,_,_,h=>aK
 |y::r,nb,0,x,h=>by simp at h;subst h;simp[gU]
 |y::r,nb,1,x,h=>by
  cases r with
  |nil=>simp at h
  |cons z r=>simp at h;subst h;simp[gU]
 |y::r,nb,j+2,x,h=>by
  rw[Xc]at h;rw[Vq,gU,pB h,Vq,gU,if_neg a8,if_neg a8,Yf];simp
theorem rE:∀{l:List Nat}{nb j x:Nat},tP nb l→l[j]? =some x→(if j=0 then nb else l.getD (j-1) 0+1)≤x
 | [],_,_,_,_,h=>aK
 |y::r,nb,0,x,hk,h=>by simp at h;subst h;simpa using hk.1
 |y::r,nb,1,x,hk,h=>by
  cases r with
  |nil=>simp at h
  |cons z r=>simp at h;subst h;simpa using hk.2.1
 |y::r,nb,j+2,x,hk,h=>by
  rw[Xc]at h;have:=rE hk.2 h;rw[if_neg a8]at this;rw[if_neg a8]
  simpa using this
theorem vI {l:List Po}{p:Po}(h:l[i]? =some p):fP (l.take (i+1))=fP (l.take i)++gU 0 p.2:=by
 rw[dK h];simp[fP]
theorem ry {l:List Po}{p:Po}(h:l[i]? =some p):ec (l.take (i+1))=ec (l.take i)+p.2.length:=by
 rw[dK h];simp[ec]
theorem gb {n k:Nat}(h:n<1099511627776) (hk:6≤k):(uv n).length≤k:=Xi (Jv 6 n a8 ae) hk
theorem uJ:∀{l:List Nat}{nb:Nat},(∀x∈l,x<1099511627776)→(gU nb l).length≤6*l.length
 | [],_,_=>by simp[gU]
 |x::r,nb,h=>by
  have h1:=gb (n:=x-nb) (k:=6) (by have:=h x aq;omega) a8;have h2:=uJ (nb:=x+1) (λy hy=>h y (Xa _ hy));simp only[gU,Ya,Yb];omega
theorem sN:∀{l:List Po},(∀p∈l,∀x∈p.2,x<1099511627776)→(fP l).length≤6*ec l
 | [],_=>by simp[fP]
 |p::r,h=>by
  have h1:=uJ (nb:=0) (h p aq);have h2:=sN (l:=r) (λq a=>h q (Xa _ a));simp only[fP,ec,Vx,Ya,Xs,Vv]at*;omega
theorem kY (hl:∀x∈ns,x<1099511627776) (hn:ns.length<1099511627776):(ff ns).length≤10+5*ns.length:=by
 have h1:=gb (n:=ns.length) (k:=6) hn a8;rw[ff,Ya]
 by_cases h:ns= []
 ·rw[if_pos h];simp;omega
 ·rw[if_neg h,Yb,Gu,gH];have h2:fO (orL ns)≤40:=(j7 _ _).2 (qU (k:=40) ae hl);have h3:ns.length*fO (orL ns)≤ns.length*40:=V7 _ h2;have:1≤ns.length:=by cases ns with|nil=>exact absurd rfl h|cons=>simp
  omega
theorem nq:∀{l:List Po}{nb m:Nat},(∀p∈l,p.1≤m)→∀x∈je nb l,x≤m
 | [],_,_,_,x,hx=>by simp[je]at hx
 |p::r,nb,m,h,x,hx=>by
  rcases Xo.1 hx with rfl|hx
  ·have:=h p aq;omega
  ·exact nq (λq a=>h q (Xa _ a)) x hx
theorem ud {l:List Po}{m:Nat}(h:∀p∈l,p.2.length≤m):∀x∈kt l,x≤m:=by
 intro x hx;obtain⟨p,hp,rfl⟩:=Xt.1 hx;have:=h p hp;omega
theorem uy {l:List Po}(h:fL l):(my nb l).length≤20+10*l.length+6*ec l:=by
 obtain⟨h0,h1⟩:=h;have h2:=kY (ns:=je nb l) (λx hx=>by have:=nq (λp hp=>(h1 p hp).1) x hx;omega) cI;have h3:=kY (ns:=kt l) (λx hx=>by have:=ud (λp hp=>(h1 p hp).2.1) x hx;omega) bX;have h4:=sN (l:=l) (λp hp=>(h1 p hp).2.2);rw[iO]at h2;rw[kt,Yh]at h3;simp only[my,Ya];rw[kt];omega
theorem p9 {l:List Po}(h:fL l) (k:Nat):fL (ei l k):=
 ⟨by have:=h.1;rw[pb];omega,λp hp=>h.2 p (J0 hp)⟩
theorem m6 (a b:List Po):ec (a++b)=ec a+ec b:=by simp[ec]
theorem Aq {l:List Po}(h:fL l):ec l≤l.length*100000000:=by
 have a:∀m:List Po,(∀p∈m,p.2.length≤100000000)→ec m≤m.length*100000000:=by
  intro m
  induction m with
  |nil=>intro _;simp[ec]
  |cons p m ih=>
   intro hm;have h1:=ih (λq b=>hm q (Xa _ b));have h2:=hm p aq;simp only[ec,Xs,Vv,Yb]at h1⊢;omega
 exact a l λp hp=>(h.2 p hp).2.1
theorem kO {l:List Po}(h:fL l):∀k,(dP l k).2.1.length≤12*k∧(dP l k).2.2.length≤20*k+10*(l.take (16*k)).length+6*ec (l.take (16*k))∧(dP l k).1≤1000001
 | 0=>by simp[dP,ec]
 |k+1=>by
  obtain⟨h1,h2,h3⟩:=kO h k;have b:=p9 h k;have h4:=uy (nb:=(dP l k).1) b;have h5:fB (dP l k).1 (ei l k)≤1000001:=by
   unfold fB
   split
   ·exact h3
   ·rename_i p hp;have:=(b.2 p (Q0 hp)).1;omega
  have h6:ec (ei l k)≤16*100000000:=by
   have a:(ei l k).length≤16:=by rw[pb];omega
   exact Xi (Aq b) (Vu _ a)
  have h7:=gb (n:=fB (dP l k).1 (ei l k)-1-(dP l k).1) (k:=6) a8 a8;have a:(ei l k).length≤16:=by rw[pb];omega
  have h8:=gb (n:=(my (dP l k).1 (ei l k)).length) (k:=6) a8 a8;have h9:(l.take (16*(k+1))).length=(l.take (16*k)).length+(ei l k).length:=by rw[←lQ,Ya]
  have h10:ec (l.take (16*(k+1)))=ec (l.take (16*k))+ec (ei l k):=by rw[←lQ,m6]
  refine⟨?_,?_,by simp only[dP];exact h5⟩
  ·simp only[dP,Ya];omega
  ·rw[h9,h10];simp only[dP,Ya];omega
theorem qi (l:List Po):l.take (16*eC l)=l:=Xr cR
theorem zO {l:List Po}(h:fL l) (a:ec l<1099511627776):(eO l).length≤60+20*l.length+6*ec l:=by
 obtain⟨h1,h2,_⟩:=kO h (eC l);rw[qi]at h2;have h3:=gb (n:=l.length) (k:=6) (by have:=h.1;omega) a8;have h4:=gb (n:=ec l) (k:=6) a a8;have h5:16*eC l≤l.length+15:=cR;simp only[eO,Ya];omega
theorem BS:∀(l:List Nat) (nb:Nat),∀x∈gU nb l,x<256
 | [],_,x,hx=>by simp[gU]at hx
 |y::r,nb,x,hx=>by
  rcases Xm.1 hx with h|h
  ·exact kz _ x h
  ·exact BS r _ x h
theorem sU (hl:∀x∈ns,x<1099511627776):∀x∈ff ns,x<256:=by
 intro x hx;have h2:fO (orL ns)≤40:=(j7 _ _).2 (qU (k:=40) ae hl);rcases Xm.1 hx with h|h
 ·exact kz _ x h
 ·split at h
  ·simp at h
  ·rcases Xo.1 h with rfl|h
   ·omega
   ·exact Tj _ _ x h
theorem Hq {l:List Po}(h:fL l):∀x∈my nb l,x<256:=by
 intro x hx;rcases Xm.1 hx with hx|hx
 ·rcases Xm.1 hx with hx|hx
  ·exact sU (λx hx=>by have:=nq (λp hp=>(h.2 p hp).1) x hx;omega) x hx
  ·exact sU (λx hx=>by have:=ud (λp hp=>(h.2 p hp).2.1) x hx;omega) x hx
 ·obtain⟨p,_,hp⟩:=U4.1 hx;exact BS _ _ x hp
theorem zk {l:List Po}(h:fL l):∀k,(∀x∈(dP l k).2.1,x<256)∧∀x∈(dP l k).2.2,x<256
 | 0=>by simp[dP]
 |k+1=>by
  obtain⟨h1,h2⟩:=zk h k
  constructor
  ·intro x hx;rcases Xm.1 hx with hx|hx
   ·exact h1 x hx
   ·rcases Xm.1 hx with hx|hx <;> exact kz _ x hx
  ·intro x hx;rcases Xm.1 hx with hx|hx
   ·exact h2 x hx
   ·exact Hq (p9 h k) x hx
theorem Dk {l:List Po}(h:fL l):∀x∈eO l,x<256:=by
 intro x hx;obtain⟨h1,h2⟩:=zk h (eC l);rcases Xm.1 hx with hx|hx
 ·rcases Xm.1 hx with hx|hx
  ·rcases Xm.1 hx with hx|hx <;> exact kz _ x hx
  ·exact h1 x hx
 ·exact h2 x hx
end
section
variable {k w:Nat}{l:List Po}
theorem J2 {m N T t:Nat}(hm:T/8<m) (h:T%8+t≤8):∃x,(leB m N)[T/8]? =some x∧x<256∧x/2^(T%8)%2^t=N/2^T%2^t:=by
 refine⟨_,rH hm,V2 _ ae,?_⟩;have hT:2^T=256^(T/8)*2^(T%8):=rC T;rw[hT,←S6];generalize N/256^(T/8)=y;have h8:256=2^(T%8)*(2^t*2^(8-(T%8+t))):=by
  rw[←Uz,←Uz,show T%8+(t+(8-(T%8+t)))=8 from a8]
 rw[h8,Nat.mod_mul_right_div_self,Nat.mod_mul_right_mod]
theorem qS:∀(l:List Nat) (i:Nat),(∀x∈l,x<2^w)→jd w l/2^(w*i)=jd w (l.drop i)
 |l,0,_=>aq
 | [],i+1,_=>by simp[jd]
 |y::l,i+1,h=>by
  have h2:=h y Yz;rw[R7,U5,Nat.add_comm (w*i),Uz,←S6,jd,Nat.add_mul_div_left _ _ (U3 w),Nat.div_eq_of_lt h2,Vw,U9];exact qS l i λx hx=>h x (Xa _ hx)
theorem Ig {l:List Nat}{i x:Nat}(h:l[i]? =some x) (hl:∀x∈l,x<2^w):jd w l/2^(w*i)%2^w=x:=by
 rw[qS l i hl,eh h,jd,Nat.add_mul_mod_self_left,Xw (hl x (Yj h))]
theorem Ih {l:List Nat}(hl:∀x∈l,x<2^w) (t:Nat):jd w l/2^(w*l.length)%2^t=0:=by
 rw[qS l l.length hl,Vi,jd,Nat.zero_mod]
theorem J1 {N at_ got t:Nat}:N/2^at_%2^got |||(N/2^(at_+got)%2^t)*2^got=N/2^at_%2^(got+t):=by
 rw[Uz 2 at_,←S6,Nat.or_comm,V5 (_%_),←Nat.two_pow_add_eq_or_of_lt (V2 _ (U3 got)),Nat.add_comm];exact CA _ _ _
theorem pM (l:List Po):∀(K k:Nat),k<K→∃r a,(dP l K).2.1=(dP l k).2.1++(uv (fB (dP l k).1 (ei l k)-1-(dP l k).1)++uv (my (dP l k).1 (ei l k)).length)++r∧(dP l K).2.2=(dP l k).2.2++my (dP l k).1 (ei l k)++a
 | 0,k,h=>a8
 |K+1,k,h=>by
  rcases Uq (V9 h)with h1|rfl
  ·obtain⟨r,a,h2,h3⟩:=pM l K k h1;exact⟨r++(uv (fB (dP l K).1 (ei l K)-1-(dP l K).1)++uv (my (dP l K).1 (ei l K)).length),a++my (dP l K).1 (ei l K),by simp only[dP,h2,Yf],by simp only[dP,h3,Yf]⟩
  ·exact⟨[], [],by simp[dP],by simp[dP]⟩
def GS (l:List Po):Nat:=(uv l.length).length+(uv (ec l)).length+(dP l (eC l)).2.1.length
def nh (l:List Po) (k:Nat):Nat:=GS l+(dP l k).2.2.length
def j6 (l:List Po) (k:Nat):Nat:=(my (dP l k).1 (ei l k)).length
abbrev Sk:=Nat×Nat×Nat×Nat
def lf (l:List Po) (k:Nat):Sk:=((dP l (k+1)).1-1,(ei l k).length,nh l k,j6 l k)
def sk0 (l:List Po) (k:Nat):Sk:=((dP l (k+1)).1-1,(ei l k).length,0,j6 l k)
def ic (l:List Po):List Sk:=(List.range (eC l)).map (lf l)
def qx (l:List Po) (k:Nat):List Sk:=(List.range k).map (sk0 l)
theorem lK (l:List Po):(ic l).length=eC l:=by simp[ic]
theorem mQ (h:k<eC l):(ic l)[k]? =some (lf l k):=by
 rw[ic,Xd,Ur h];all_goals rfl
theorem tF (l:List Po) (k:Nat):(qx l k).length=k:=by simp[qx]
theorem xc {j:Nat}(h:j<k):(qx l k)[j]? =some (sk0 l j):=by
 rw[qx,Xd,Ur h];all_goals rfl
theorem I1 (l:List Po) (k:Nat):qx l (k+1)=qx l k++ [sk0 l k]:=by simp[qx,X9]
theorem rO (l:List Po) (h:k<eC l):(((eO l).take (nh l k+j6 l k)).drop (nh l k))=my (dP l k).1 (ei l k)∧nh l k+j6 l k≤(eO l).length:=by
 obtain⟨r,b,_,h2⟩:=pM l (eC l) k h;have e:eO l=(uv l.length++uv (ec l)++(dP l (eC l)).2.1++(dP l k).2.2)++(my (dP l k).1 (ei l k)++b):=by
  rw[eO,h2];simp only[Yf]
 have hA:(uv l.length++uv (ec l)++(dP l (eC l)).2.1++(dP l k).2.2).length=nh l k:=by
  simp only[Ya,nh,GS]
 have a:(my (dP l k).1 (ei l k)).length=j6 l k:=rfl
 constructor
 ·rw[e,List.drop_take,show nh l k+j6 l k-nh l k=j6 l k from a8,←hA,Vg,←a,T9]
 ·rw[e,Ya,hA,Ya,a];omega
theorem KX (l:List Po) (k:Nat):nh l (k+1)=nh l k+j6 l k:=by
 simp only[nh,dP,Ya,j6];omega
theorem OY (l:List Po):nh l (eC l)=(eO l).length:=by
 simp only[nh,GS,eO,Ya]
theorem yi (l:List Po):(eO l)=uv l.length++(uv (ec l)++((dP l (eC l)).2.1++(dP l (eC l)).2.2)):=by
 simp only[eO,Yf]
theorem IP (l:List Po) (h:k<eC l):∃r,(eO l).drop ((uv l.length).length+(uv (ec l)).length+(dP l k).2.1.length)=uv (fB (dP l k).1 (ei l k)-1-(dP l k).1)++(uv (j6 l k)++r):=by
 obtain⟨r,r',h1,_⟩:=pM l (eC l) k h;refine⟨r++(dP l (eC l)).2.2,?_⟩;have e:eO l=(uv l.length++uv (ec l)++(dP l k).2.1)++(uv (fB (dP l k).1 (ei l k)-1-(dP l k).1)++(uv (j6 l k)++(r++(dP l (eC l)).2.2))):=by
  rw[eO,h1];simp only[Yf,j6]
 have hA:(uv l.length++uv (ec l)++(dP l k).2.1).length=(uv l.length).length+(uv (ec l)).length+(dP l k).2.1.length:=by
  simp only[Ya]
 rw[e,←hA,Vg]
theorem nG (h:k<eC l):1≤(ei l k).length∧(ei l k).length=min 16 (l.length-16*k):=by
 rw[pb];unfold eC at h;omega
theorem A5 {i:Nat}(h:i<16):(ei l k)[i]? =l[16*k+i]? :=by
 rw[ei,Xh,X3];rw[if_pos a8]
end
section
variable {k q u:Nat}{p:Po}{ps:List Po}{t:Int}
structure CuS where
 ps:List Po
 u:Nat
 mv:Nat
 told:Bool
def gz (ps:List Po):Nat→Int
 | 0=>-1
 |k+1=>match ps[k]? with
  |some p=>(p.1:Int)
  |none=>2147483647
def mvG (n u q:Nat):Nat:=if q<n∧u/16=q/16 then q+1-u else if q<n then q/16-u/16+q%16+1 else if u=n then 1 else(n+15)/16-u/16+1
def goC (c:CuS) (q:Nat):CuS:=⟨c.ps,q+1,c.mv+mvG c.ps.length c.u q,false⟩
def nP (ps:List Po) (u:Nat) (t:Int):Nat:=u+(ps.drop u).findIdx λp=>decide (t≤(p.1:Int))
def jK (c:CuS) (t:Int):CuS:=if t≤gz c.ps c.u∨c.u=c.ps.length+1 then c else goC c (nP c.ps c.u t)
def fj (c:CuS):List Nat:=match c.u with
 | 0=>[]
 |k+1=>match c.ps[k]? with
  |some p=>p.2
  |none=>[]
def jD (c:CuS):CuS:=if c.told=true∨fj c= []then c else⟨c.ps,c.u,c.mv+(fj c).length,true⟩
structure jU (c:CuS):Prop where
 ok:j5 0 c.ps
 small:fL c.ps
 tot:ec c.ps≤100000000
 at_:c.u≤c.ps.length+1
 mvs:c.mv≤c.u+ec (c.ps.take (if c.told=true then c.u else c.u-1))
theorem Hf (h:ps[k]? =some p):gz ps (k+1)=(p.1:Int):=by rw[gz,h]
theorem yq (ps:List Po):gz ps (ps.length+1)=2147483647:=by rw[gz,Xz (Xl _)]
theorem PZ (h:fL ps) (u:Nat):gz ps u≤2147483647:=by
 cases u with
 |zero=>show(-1:Int)≤2147483647;decide
 |succ k=>
  rw[gz];split
  ·rename_i p hp;have:=(h.2 p (Yj hp)).1;omega
  ·omega
theorem Fj (h1:u≤q) (h2:q≤ps.length) (h3:∀j p,u≤j→j<q→ps[j]? =some p→(p.1:Int)<t) (h4:∀p,ps[q]? =some p→t≤(p.1:Int)):nP ps u t=q:=by
 have b:(ps.drop u).findIdx (λp=>decide (t≤(p.1:Int)))=q-u:=by
  rcases Us q ps.length with hq|hq
  ·have a:q-u<(ps.drop u).length:=by rw[Yo];omega
   rw[List.findIdx_eq a]
   constructor
   ·have hp:(ps.drop u)[q-u]=ps[q]:=by rw[List.getElem_drop];congr 1;omega
    rw[hp,Xq];exact h4 _ (Yi hq)
   ·intro j hj;have c:u+j<ps.length:=a8;have hp:(ps.drop u)[j]'(ba)=ps[u+j]:=by rw[List.getElem_drop]
    rw[hp,Xy];have:=h3 (u+j) _ a8 a8 (Yi c);omega
  ·have e:q-u=(ps.drop u).length:=by rw[Yo];omega
   rw[e,List.findIdx_eq_length];intro p hp;obtain⟨j,hj⟩:=Vo hp;rw[Xh]at hj;have a:=(Yk.1 hj).1;have:=h3 (u+j) p a8 a8 hj;rw[Xy];omega
 rw[nP,b];omega
theorem ya (h:u≤ps.length):u≤nP ps u t∧nP ps u t≤ps.length∧(∀j p,u≤j→j<nP ps u t→ps[j]? =some p→(p.1:Int)<t)∧∀p,ps[nP ps u t]? =some p→t≤(p.1:Int):=by
 have b:=List.findIdx_le_length (xs:=ps.drop u) (p:=λp=>decide (t≤(p.1:Int)));rw[Yo]at b;refine⟨Nat.le_add_right _ _,by unfold nP;omega,λj p h1 h2 h3=>?_,λp hp=>?_⟩
 ·have h4:j-u<(ps.drop u).findIdx λp=>decide (t≤(p.1:Int)):=by unfold nP at h2;omega
  have h5:=List.not_of_lt_findIdx h4;have hj:=(Yk.1 h3);obtain⟨hj1,c⟩:=hj;rw[List.getElem_drop]at h5;have e:ps[u+(j-u)]'(a8)=p:=by rw[←c];congr 1;omega
  rw[e]at h5;have:=of_decide_eq_false h5;omega
 ·unfold nP at hp;have hlt:=(Yk.1 hp).1;have a:(ps.drop u).findIdx (λp=>decide (t≤(p.1:Int)))<(ps.drop u).length:=ba;have h5:=List.findIdx_getElem (w:=a);rw[List.getElem_drop]at h5;have e:=(Yk.1 hp).2;rw[e]at h5;exact Yt h5
theorem HI (ps:List Po) {a b:Nat}(h:a≤b):ec (ps.take a)≤ec (ps.take b):=by
 have e:ps.take b=ps.take a++(ps.take b).drop a:=by
  conv=>lhs;rw[←Vd a (ps.take b)]
  rw[List.take_take,Ug h]
 rw[e,m6];omega
theorem mE (ps:List Po) (a:Nat):ec (ps.take a)≤ec ps:=by
 conv=>rhs;rw[←Vd a ps,m6]
 omega
theorem EM {n:Nat}(h1:u≤q) (h2:q≤n):mvG n u q≤q+1-u:=by
 unfold mvG
 split
 ·omega
 ·split
  ·omega
  ·split <;> omega
theorem jU.go {c:CuS}(h:jU c) (h1:c.u≤q) (h2:q≤c.ps.length):jU (goC c q):=by
 refine⟨h.ok,h.small,h.tot,by show q+1≤c.ps.length+1;omega,?_⟩;have h3:=EM h1 h2;have h4:=h.mvs;have h5:ec (c.ps.take (if c.told=true then c.u else c.u-1))≤ec (c.ps.take q):=HI _ (by split <;> omega);show c.mv+mvG c.ps.length c.u q≤q+1+ec (c.ps.take (if false=true then q+1 else q+1-1));rw[if_neg ae,X7];omega
theorem jU.adv {c:CuS}(h:jU c) (t:Int):jU (jK c t):=by
 unfold jK
 split
 ·exact h
 ·rename_i hn;have a:c.u≤c.ps.length:=by have:=h.at_;omega
  obtain⟨h1,h2,_⟩:=ya (t:=t) a;exact h.go h1 h2
theorem r8 {c:CuS}(a:c.u=k+1) (h:c.ps[k]? =some p):fj c=p.2:=by rw[fj,a];simp only[];rw[h]
theorem pW {c:CuS}(h:c.u=0∨c.ps.length<c.u):fj c= []:=by
 unfold fj
 split
 ·rfl
 ·rename_i k hk;rw[Xz a8]
theorem jU.pos {c:CuS}(h:jU c):jU (jD c):=by
 unfold jD
 split
 ·exact h
 ·rename_i hn;refine⟨h.ok,h.small,h.tot,h.at_,?_⟩;have a:c.told=false:=by cases hc:c.told with|false=>rfl|true=>exact absurd (.inl hc) hn
  have h4:=h.mvs;rw[if_neg (by rw[a];decide)]at h4;show c.mv+(fj c).length≤c.u+ec (c.ps.take (if true=true then c.u else c.u-1));rw[if_pos rfl];rcases hu:c.u with _|k
  ·exact absurd (.inr (pW (.inl hu))) hn
  ·cases hp:c.ps[k]? with
   |none=>exact absurd (.inr (pW (.inr (by rw[List.getElem?_eq_none_iff]at hp;omega)))) hn
   |some p=>
    rw[r8 hu hp,ry hp];rw[hu,X7]at h4;omega
theorem jU.mvle {c:CuS}(h:jU c):c.mv≤100100001:=by
 have h1:=h.mvs;have h2:=mE c.ps (if c.told=true then c.u else c.u-1);have h3:=h.tot;have h4:=h.at_;have h5:=h.small.1;omega
theorem MV (c:CuS) (t:Int):(jK c t).ps=c.ps:=by unfold jK;split <;> rfl
theorem xy (c:CuS):(jD c).ps=c.ps:=by unfold jD;split <;> rfl
theorem XC (c:CuS):(jD c).u=c.u:=by unfold jD;split <;> rfl
theorem UO {c:CuS}(h:jU c) (a:t≤2147483647):t≤gz (jK c t).ps (jK c t).u:=by
 unfold jK
 split
 ·rename_i hc;rcases hc with hc|hc
  ·exact hc
  ·rw[hc,yq];exact a
 ·rename_i hn;have b:c.u≤c.ps.length:=by have:=h.at_;omega
  obtain⟨h1,h2,h3,h4⟩:=ya (t:=t) b;show t≤gz c.ps (nP c.ps c.u t+1);rw[gz]
  split
  ·rename_i p hp;exact h4 p hp
  ·exact a
end
abbrev Ins:=Nat×Nat×Nat
abbrev VV:=Bool×Nat
structure lI where
 cs:List Int
 offs:List Int
 slop:Int
structure PrG where
 avgs:List Int
 curs:List (Int×ByteArray)
 nears:List lI
 all:Bool
 drive:List Int
 code:List Nat
structure Cfg where
 ins:List Ins
 p:PrG
 lens:List (List Nat)
 ids:List Int
 dead:Nat→Bool
structure MS where
 cs:List CuS
 pl:Int
 steps:Nat
 visits:Nat
def w64 (n:Nat):Nat:=n%18446744073709551616
def fm (n:Nat):Nat:=min n 1048576
def Co (f l a:Nat):Nat:=10240*fm f*max (fm a) 1/(10*fm f*max (fm a) 1+3*max (fm a) 1+9*fm l)
def qo (ls:List (List Nat)) (f d:Nat):Nat:=(ls.getD f []).getD d 0
def fo:CuS:=⟨[],0,0,false⟩
def fJ (d:Int) (c:CuS):CuS:=if gz c.ps c.u<d then jK c d else c
def pT (d:Int) (c:CuS):Bool:=decide (gz c.ps c.u=d)
def sS (c:Cfg) (d w f:Nat) (fd:Int):VV:=(true,w64 (w*Co f (qo c.lens fd.toNat d) (c.p.avgs.getD fd.toNat 0).toNat))
def lX (c:Cfg) (k:Nat):Int:=match c.p.curs[k]? with
 |some x=>x.1
 |none=>0
def qE (c:Cfg) (d a w:Nat) (cs:List CuS):VV×List CuS:=
 (if pT d (fJ d (cs.getD a fo))=true then sS c d w (fj (fJ d (cs.getD a fo))).length (lX c a)else(false,0),cs.set a (fJ d (cs.getD a fo)))
def qt (d:Int):List Int→List CuS→Bool×List CuS
 | [],cs=>(true,cs)
 |k::r,cs=>if pT d (fJ d (cs.getD k.toNat fo))=true then qt d r (cs.set k.toNat (fJ d (cs.getD k.toNat fo)))else(false,cs.set k.toNat (fJ d (cs.getD k.toNat fo)))
def jE:List Int→List CuS→List (List Nat)×List CuS
 | [],cs=>([],cs)
 |k::r,cs=>(fj (cs.getD k.toNat fo)::(jE r (cs.set k.toNat (jD (cs.getD k.toNat fo)))).1,(jE r (cs.set k.toNat (jD (cs.getD k.toNat fo)))).2)
def It (x:Int):List Int→List Int
 | []=>[x]
 |y::l=>if x≤y then x::y::l else y::It x l
def jO (l:List Int):List Int:=l.foldr It []
def kc:List Int→List Int
 | []=>[]
 | [x]=>[x]
 |x::y::l=>if x=y then kc (y::l)else x::kc (y::l)
def gG (l:List Int) (at_:Nat) (b:Int):Nat:=at_+(l.drop at_).findIdx λx=>decide (b≤x)
def pX (l:List Int) (at_:Nat) (b:Int) (slop:Int):Bool:=match l[at_]? with
 |some x=>decide (x≤b+slop)
 |none=>false
def gS (b slop:Int):List (List Int)→List Nat→Bool×List Nat
 |l::ls,a::as_=>(pX l (gG l a b) b slop&&(gS b slop ls as_).1,gG l a b::(gS b slop ls as_).2)
 |_,_=>(true, [])
def kd (slop:Int) (lists:List (List Int)):List Int→List Nat→Nat
 | [],_=>0
 |b::r,at_=>(if(gS b slop lists at_).1=true then 1 else 0)+kd slop lists r (gS b slop lists at_).2
def sR (ps:List Nat) (o:Int):List Int:=jO (ps.map λp:Nat=>(p:Int)-o)
def gX:List (List Nat)→List Int→List (List Int)
 |l::ls,o::os=>sR l o::gX ls os
 |_,_=>[]
def jF (lists:List (List Nat)) (offs:List Int) (slop:Int):Nat:=
 if lists.any (λl=>l.any λp=>decide (2147483646<p))=true then 0 else
 kd slop (gX lists offs) (kc (jO (gX lists offs).flatten)) (List.replicate lists.length 0)
def CO:lI:=⟨[], [],0⟩
def jm (c:Cfg) (d a w:Nat) (cs:List CuS):VV×List CuS:=
 let n:=c.p.nears.getD a CO
 let r:=qt d n.cs cs
 if r.1=false then((false,0),r.2)else
 let t:=jE n.cs r.2
 let f:=jF t.1 n.offs n.slop
 (if f=0 then(false,0)else sS c d w f (lX c (n.cs.headD 0).toNat),t.2)
def eX (st:List VV):VV:=st.getLast?.getD (false,0)
def mi (st:List VV) (f:VV→VV→VV):List VV:=
 let r:=f (eX st.dropLast) (eX st)
 st.dropLast.dropLast++ [(r.1,if r.1=true then r.2 else 0)]
def qy (st:List VV) (f:VV→VV):List VV:=st.dropLast++ [f (eX st)]
def qq (st:List VV):Nat:=(st.filter λv=>v.1).length
def yK (st:List VV):Nat:=st.foldl (λs v=>if v.1=true then w64 (s+v.2)else s) 0
def opV (c:Cfg) (d:Nat) (x:Ins) (pc:Nat) (st:List VV) (cs:List CuS):Nat×List VV×List CuS:=
 match x.1 with
 | 1=>(pc,st++ [(false,0)],cs)
 | 2=>(pc,st++ [(true,262144)],cs)
 | 3=>(pc,st++ [if 0<qo c.lens x.2.1 d then(true,262144)else(false,0)],cs)
 | 4=>(pc,st++ [(qE c d x.2.1 x.2.2 cs).1],(qE c d x.2.1 x.2.2 cs).2)
 | 5=>(pc,st++ [(jm c d x.2.1 x.2.2 cs).1],(jm c d x.2.1 x.2.2 cs).2)
 | 6=>(pc,mi st λa b=>(a.1&&b.1,w64 (a.2+b.2)),cs)
 | 7=>(pc,mi st λa b=>(a.1 ||b.1,w64 (a.2+b.2)),cs)
 | 8=>(pc,mi st λa b=>(a.1 ||b.1,max a.2 b.2),cs)
 | 9=>(pc,mi st λa b=>(a.1,w64 (a.2+b.2)),cs)
 | 10=>(pc,mi st λa b=>(a.1&&!b.1,a.2),cs)
 | 11=>(pc,qy st λa=>(!a.1,0),cs)
 | 12=>(pc,qy st λa=>(a.1,w64 (a.2*x.2.1)),cs)
 | 13=>(pc,qy st λa=>if a.1=true then(true,w64 (x.2.1*262144))else(false,0),cs)
 | 14=>(pc,st.take (st.length-x.2.1)++ [if x.2.2≤qq (st.drop (st.length-x.2.1))then(true,yK (st.drop (st.length-x.2.1)))else(false,0)],cs)
 | 15=>(if(eX st).1=true then pc else pc+x.2.1,st,cs)
 | 16=>(if(eX st).1=true then pc+x.2.1 else pc,st,cs)
 |_=>(pc,st,cs)
def lD (c:Cfg) (pc:Nat):Ins:=c.ins.getD pc (0,0,0)
def mF (c:Cfg) (d:Nat):Nat→Nat→List VV→List CuS→Nat→VV×List CuS×Nat
 | 0,_,st,cs,k=>(eX st,cs,k)
 |n+1,pc,st,cs,k=>
  if(lD c pc).1=0 then(eX st,cs,k+1)else
  mF c d n (opV c d (lD c pc) (pc+1) st cs).1 (opV c d (lD c pc) (pc+1) st cs).2.1 (opV c d (lD c pc) (pc+1) st cs).2.2 (k+1)
def jh (c:Cfg) (s:MS):VV×MS:=
 let r:=mF c s.pl.toNat c.ins.length 0 [] s.cs s.steps
 (r.1,⟨r.2.1,s.pl,r.2.2,s.visits+1⟩)
def fR (pl:Int) (c:CuS):CuS:=if gz c.ps c.u≤pl then jK c (pl+1)else c
def jJ (pl:Int):List Int→List CuS→Int→List CuS×Int
 | [],cs,le=>(cs,le)
 |k::r,cs,le=>jJ pl r (cs.set k.toNat (fR pl (cs.getD k.toNat fo))) (min le (gz (fR pl (cs.getD k.toNat fo)).ps (fR pl (cs.getD k.toNat fo)).u))
def kU (c:Cfg) (d:Int):Bool:=decide (0≤d)&&decide (d.toNat<c.ids.length)&&!c.dead d.toNat
def fE (c:Cfg):Nat→Int→List CuS→Bool×Int×List CuS
 | 0,pl,cs=>(false,pl,cs)
 |n+1,pl,cs=>
  if(jJ pl c.p.drive cs 2147483647).2=2147483647 then(false,pl,(jJ pl c.p.drive cs 2147483647).1)else
  if kU c (jJ pl c.p.drive cs 2147483647).2=true then(true,(jJ pl c.p.drive cs 2147483647).2,(jJ pl c.p.drive cs 2147483647).1)else
  fE c n (jJ pl c.p.drive cs 2147483647).2 (jJ pl c.p.drive cs 2147483647).1
def lj (c:Cfg) (i:Nat):Option Nat:=((List.range c.ids.length).drop i).find? λd=>!c.dead d
def eQ (c:Cfg) (s:MS):Bool×MS:=
 if c.p.all=true then
  match lj c (s.pl+1).toNat with
  |some d=>(true,⟨s.cs,(d:Int),s.steps,s.visits⟩)
  |none=>(false,s)
 else((fE c 2147483648 s.pl s.cs).1,⟨(fE c 2147483648 s.pl s.cs).2.2,(fE c 2147483648 s.pl s.cs).2.1,s.steps,s.visits⟩)
abbrev Hit:=Int×Nat
def qZ (c:Cfg):Nat→MS→Option Hit×MS
 | 0,s=>(none,s)
 |n+1,s=>
  if(eQ c s).1=false then(none,(eQ c s).2)else
  if(jh c (eQ c s).2).1.1=true then(some (c.ids.getD (eQ c s).2.pl.toNat 0,(jh c (eQ c s).2).1.2),(jh c (eQ c s).2).2)else
  qZ c n (jh c (eQ c s).2).2
def fh (c:Cfg) (s:MS):Option Hit×MS:=qZ c (c.ids.length+1) s
def nJ (c:Cfg):Nat→MS→List Hit×MS
 | 0,s=>([],s)
 |n+1,s=>match (fh c s).1 with
  |none=>([],(fh c s).2)
  |some h=>(h::(nJ c n (fh c s).2).1,(nJ c n (fh c s).2).2)
def Kl (c:Cfg) (s:MS):List Hit×MS:=nJ c (c.ids.length+1) s
def rF (s:MS):Nat:=(s.cs.map (·.mv)).sum
def mn (pss:List (List Po)):MS:=⟨pss.map λps=>⟨ps,0,0,false⟩, -1,0,0⟩
def fw (x:Int) (n:Nat):Bool:=decide (0≤x)&&decide (x<(n:Int))
def sF (p:PrG) (n:lI):List Int→List Int→Bool
 | [],_=>true
 |k::r,os=>fw k p.curs.length&&fw (os.headD 0) 2147483647&&decide ((match p.curs[k.toNat]? with|some x=>x.1|none=>0)=(match p.curs[(n.cs.headD 0).toNat]? with|some x=>x.1|none=>0))&&sF p n r os.tail
def fQ (p:PrG) (n:lI):Bool:=decide (1≤n.cs.length)&&decide (n.offs.length=n.cs.length)&&fw n.slop 2147483647&&sF p n n.cs n.offs
def jq (p:PrG):Option Int→List Int→Bool
 |_, []=>true
 |b,k::r=>fw k p.curs.length&&(match b with|none=>true|some x=>decide (x<k))&&jq p (some k) r
def iP (p:PrG):Bool:=decide (1≤p.avgs.length)&&decide (p.avgs.length≤16)&&p.avgs.all (λa=>decide (0≤a))&&p.curs.all (λc=>fw c.1 p.avgs.length&&decide (c.2.size≤64))&&p.nears.all (fQ p)&&!(p.all&&decide (0<p.drive.length))&&jq p none p.drive
def ng (p:PrG) (x:Ins):Bool:=match x.1 with
 | 3=>decide (x.2.1<p.avgs.length)
 | 4=>decide (x.2.1<p.curs.length)
 | 5=>decide (x.2.1<p.nears.length)
 | 14=>decide (1≤x.2.1)&&decide (1≤x.2.2)&&decide (x.2.2≤x.2.1)
 |_=>true
def jw (x:Ins) (h:Nat):Option Nat:=match x.1 with
 | 1=>some (h+1)
 | 2=>some (h+1)
 | 3=>some (h+1)
 | 4=>some (h+1)
 | 5=>some (h+1)
 | 6=>if 2≤h then some (h-1)else none
 | 7=>if 2≤h then some (h-1)else none
 | 8=>if 2≤h then some (h-1)else none
 | 9=>if 2≤h then some (h-1)else none
 | 10=>if 2≤h then some (h-1)else none
 | 14=>if h<x.2.1 then none else some (h-x.2.1+1)
 | 0=>if h=1 then some h else none
 |_=>if 1≤h then some h else none
abbrev Hs:=List (Option Nat)
def kD (hs:Hs) (i h:Nat):Option Hs:=match hs.getD i none with
 |none=>some (hs.set i (some h))
 |some k=>if k=h then some hs else none
def sX (x:Ins):Bool:=decide (x.1=15) ||decide (x.1=16)
def jr (p:PrG) (code:List Ins):Nat→Nat→Hs→Option Hs
 | 0,_,hs=>some hs
 |n+1,i,hs=>
  match jw (code.getD i (0,0,0)) ((hs.getD i none).getD 0)with
  |none=>none
  |some h=>
   if decide (i+1=code.length)=decide ((code.getD i (0,0,0)).1=0)∧ng p (code.getD i (0,0,0))=true then
        if i+1=code.length then some hs else
        match kD hs (i+1) h with
        |none=>none
        |some hs1=>
         if sX (code.getD i (0,0,0))=true then
          if code.length-2-i<(code.getD i (0,0,0)).2.1 then none else
          match kD hs1 (i+1+(code.getD i (0,0,0)).2.1) h with
          |none=>none
          |some hs2=>jr p code n (i+1) hs2
         else jr p code n (i+1) hs1
   else none
def hs0 (n:Nat):Hs:=(List.replicate n none).set 0 (some 0)
def nI (op:Nat):Option Nat:= [0,0,0,1,2,2,0,0,0,0,0,0,1,1,2,1,1][op]?
def mO:Nat→List Nat→Option (List Nat×List Nat)
 | 0,l=>some ([],l)
 |n+1,l=>match iz 0 l with
  | .error _=>none
  | .ok (v,m)=>match mO n (l.drop m)with
   |none=>none
   |some (vs,r)=>some (v::vs,r)
def LD (op:Nat) (vs:List Nat):Ins:=(op,vs.getD 0 0,vs.getD 1 0)
def lA:Nat→List Nat→Option (List Ins)
 | 0,_=>some []
 |_+1, []=>some []
 |n+1,op::l=>match nI op with
  |none=>none
  |some k=>match mO k l with
   |none=>none
   |some (vs,r)=>match lA n r with
    |none=>none
    |some xs=>some (LD op vs::xs)
def lu (p:PrG):Option (List Ins):=lA p.code.length p.code
def gA (p:PrG):Option Hs:=match lu p with
 |none=>none
 |some code=>if code.length=0∨iP p=false then none else jr p code code.length 0 (hs0 code.length)
section
variable {c:Cfg}{cs:List CuS}{d pl:Int}{pss:List (List Po)}{s:MS}
structure iq (pss:List (List Po)) (cs:List CuS):Prop where
 same:cs.map (·.ps)=pss
 ok:∀c∈cs,jU c
theorem iq.len (h:iq pss cs):cs.length=pss.length:=by rw[←h.same,Yh]
theorem iq.get (h:iq pss cs){k:Nat}{c:CuS}(hk:cs[k]? =some c):jU c:=h.ok c (Yj hk)
theorem iq.set (h:iq pss cs){f:CuS→CuS}(k:Nat) (hf:∀c,jU c→jU (f c)) (hp:∀c,(f c).ps=c.ps):iq pss (cs.set k (f (cs.getD k fo))):=by
 rcases Us k cs.length with hk|hk
 ·have a:cs[k]? =some cs[k]:=Yi hk;have hd:cs.getD k fo=cs[k]:=by rw[Xj,a];all_goals rfl
  rw[hd];refine⟨?_,λc hc=>?_⟩
  ·rw[←h.same];apply Vz;intro j;rw[Xd,Xd,Vf]
   by_cases hj:k=j
   ·subst hj;rw[if_pos rfl,if_pos hk,a];simp[hp]
   ·rw[if_neg hj]
  ·rcases R6 hc with hc|rfl
   ·exact h.ok c hc
   ·exact hf _ (h.get a)
 ·rw[List.set_eq_of_length_le hk];exact h
theorem qL {c:CuS}(h:jU c):jU (fJ d c):=by unfold fJ;split;exact h.adv d;exact h
theorem qK (d:Int) (c:CuS):(fJ d c).ps=c.ps:=by unfold fJ;split;exact MV c d;rfl
theorem rf {c:CuS}(h:jU c):jU (fR pl c):=by unfold fR;split;exact h.adv _;exact h
theorem oY (pl:Int) (c:CuS):(fR pl c).ps=c.ps:=by unfold fR;split;exact MV c _;rfl
theorem yB:∀{ks:List Int}{cs:List CuS},iq pss cs→iq pss (qt d ks cs).2
 | [],_,h=>h
 |k::r,cs,h=>by
  have h1:=h.set k.toNat (λc hc=>qL (d:=d) hc) (λc=>qK d c);rw[qt]
  split
  ·exact yB h1
  ·exact h1
theorem wV:∀{ks:List Int}{cs:List CuS},iq pss cs→iq pss (jE ks cs).2
 | [],_,h=>h
 |k::r,cs,h=>wV (ks:=r) (h.set k.toNat (λc hc=>hc.pos) xy)
theorem JE {d a w:Nat}(h:iq pss cs):iq pss (qE c d a w cs).2:=h.set a (λc hc=>qL hc) (λc=>qK _ c)
theorem ED {d a w:Nat}(h:iq pss cs):iq pss (jm c d a w cs).2:=by
 unfold jm;simp only[]
 split
 ·exact yB h
 ·exact wV (yB h)
theorem EI {d:Nat}{x:Ins}{pc:Nat}{st:List VV}(h:iq pss cs):iq pss (opV c d x pc st cs).2.2:=by
 unfold opV
 split
 all_goals (try simp only[])
 all_goals (first|exact h|exact JE h|exact ED h)
theorem AG {pss:List (List Po)}{c:Cfg}{d:Nat}:∀(n pc:Nat) (st:List VV) (cs:List CuS) (k:Nat),iq pss cs→iq pss (mF c d n pc st cs k).2.1∧k≤(mF c d n pc st cs k).2.2∧(mF c d n pc st cs k).2.2≤k+n
 | 0,pc,st,cs,k,h=>⟨h,Xl _,Xl _⟩
 |n+1,pc,st,cs,k,h=>by
  rw[mF]
  split
  ·exact⟨h,aq,aq⟩
  ·obtain⟨h1,h2,h3⟩:=AG (c:=c) (d:=d) n _ _ _ (k+1) (EI (c:=c) (d:=d) (x:=lD c pc) (pc:=pc+1) (st:=st) h);exact⟨h1,a8,a8⟩
structure lT (c:Cfg) (pss:List (List Po)) (s:MS):Prop where
 cs:iq pss s.cs
 lo: -1≤s.pl
 hi:s.pl<2147483647
 vis:(s.visits:Int)≤s.pl+1
 stp:s.steps≤s.visits*c.ins.length
theorem Ju (h:iq pss s.cs):iq pss (jh c s).2.cs∧(jh c s).2.pl=s.pl∧(jh c s).2.visits=s.visits+1∧s.steps≤(jh c s).2.steps∧(jh c s).2.steps≤s.steps+c.ins.length:=by
 obtain⟨h1,h2,h3⟩:=AG (c:=c) (d:=s.pl.toNat) c.ins.length 0 [] s.cs s.steps h;exact⟨h1,rfl,rfl,h2,h3⟩
theorem Bn:∀{ks:List Int}{cs:List CuS}{le:Int},iq pss cs→iq pss (jJ pl ks cs le).1
 | [],_,_,h=>h
 |k::r,cs,le,h=>Bn (ks:=r) (h.set k.toNat (λc hc=>rf hc) (oY pl))
theorem ym {c:CuS}(h:jU c) (hp:pl+1≤2147483647):pl<gz (fR pl c).ps (fR pl c).u:=by
 unfold fR
 split
 ·have:=UO h hp;omega
 ·omega
theorem Bo (hp:pl+1≤2147483647):∀{ks:List Int}{cs:List CuS}{le:Int},iq pss cs→(∀k∈ks,0≤k∧k<(pss.length:Int))→pl<le→pl<(jJ pl ks cs le).2
 | [],_,_,_,_,hl=>hl
 |k::r,cs,le,h,hk,hl=>by
  obtain⟨h0,h1⟩:=hk k aq;have a:k.toNat<cs.length:=by rw[h.len];omega
  have b:cs[k.toNat]? =some cs[k.toNat]:=Yi a;have hd:cs.getD k.toNat fo=cs[k.toNat]:=by rw[Xj,b];all_goals rfl
  refine Bo hp (ks:=r) (h.set k.toNat (λc hc=>rf hc) (oY pl)) (λx hx=>hk x (Xa _ hx)) ?_;have:=ym (pl:=pl) (h.get b) hp;rw[hd];omega
theorem wE:∀{ks:List Int}{cs:List CuS}{le:Int},(jJ pl ks cs le).2≤le
 | [],_,_=>T8 _
 |k::r,cs,le=>Int.le_trans (wE (ks:=r)) (Int.min_le_left _ _)
def lq (c:Cfg) (n:Nat):Prop:=∀k∈c.p.drive,0≤k∧k<(n:Int)
theorem yC (h:kU c d=true):0≤d∧d<(c.ids.length:Int):=by
 unfold kU at h;simp only[Xu,Xq]at h;omega
theorem zf (a:lq c pss.length):∀(n:Nat) (pl:Int) (cs:List CuS), -1≤pl→pl<2147483647→iq pss cs→
 iq pss (fE c n pl cs).2.2∧pl≤(fE c n pl cs).2.1∧(fE c n pl cs).2.1<2147483647∧((fE c n pl cs).1=true→pl<(fE c n pl cs).2.1∧kU c (fE c n pl cs).2.1=true)
 | 0,pl,cs,h1,h2,h=>⟨h,T8 _,h2,λh=>bx⟩
 |n+1,pl,cs,h1,h2,h=>by
  have hc:=Bn (pl:=pl) (ks:=c.p.drive) (le:=2147483647) h;have d:=Bo (pl:=pl) a8 (le:=2147483647) h a a8;have hl:=wE (pl:=pl) (ks:=c.p.drive) (cs:=cs) (le:=2147483647);rw[fE]
  split
  ·exact⟨hc,T8 _,h2,λh=>bx⟩
  ·rename_i hne
   split
   ·rename_i ha;exact⟨hc,Int.le_of_lt d,by show(jJ pl c.p.drive cs 2147483647).2<2147483647;omega,λ_=>⟨d,ha⟩⟩
   ·obtain⟨f,i2,e,b⟩:=zf a n (jJ pl c.p.drive cs 2147483647).2 (jJ pl c.p.drive cs 2147483647).1 a8 a8 hc;exact⟨f,a8,e,λh=>⟨by have:=(b h).1;omega,(b h).2⟩⟩
theorem Pd {i d:Nat}(h:lj c i=some d):i≤d∧d<c.ids.length∧c.dead d=false:=by
 unfold lj at h;have h1:=List.mem_of_find?_eq_some h;have h2:=List.find?_some h;obtain⟨j,hj⟩:=Vo h1;rw[Xh]at hj;have a:=(Yk.1 hj).1;rw[List.length_range]at a;rw[Ur a]at hj;obtain rfl:=Xk hj;exact⟨a8,a,cD⟩
theorem qV (e:lq c pss.length) (hn:c.ids.length≤2147483647) (h:lT c pss s):lT c pss (eQ c s).2∧(eQ c s).2.steps=s.steps∧(eQ c s).2.visits=s.visits∧s.pl≤(eQ c s).2.pl∧((eQ c s).1=true→s.pl<(eQ c s).2.pl∧kU c (eQ c s).2.pl=true):=by
 unfold eQ;have a:=h.lo;have b:=h.hi;have hv:=h.vis
 split
 ·cases hd:lj c (s.pl+1).toNat with
  |none=>exact⟨h,rfl,rfl,T8 _,λh=>bx⟩
  |some d=>
   obtain⟨h1,h2,h3⟩:=Pd hd;refine⟨⟨h.cs,by show(-1:Int)≤(d:Int);omega,by show(d:Int)<2147483647;omega,by show(s.visits:Int)≤(d:Int)+1;omega,h.stp⟩,rfl,rfl,by show s.pl≤(d:Int);omega,λ_=>⟨by show s.pl<(d:Int);omega,?_⟩⟩;show kU c (d:Int)=true;unfold kU;simp[h2,h3]
 ·obtain⟨j,i,g,f⟩:=zf e 2147483648 s.pl s.cs a b h.cs;exact⟨⟨j,by show(-1:Int)≤(fE c 2147483648 s.pl s.cs).2.1;omega,g,by show(s.visits:Int)≤(fE c 2147483648 s.pl s.cs).2.1+1;omega,h.stp⟩,rfl,rfl,i,f⟩
theorem wT (b:lq c pss.length) (hn:c.ids.length≤2147483647) (h:lT c pss s) (hy:(eQ c s).1=true):lT c pss (jh c (eQ c s).2).2∧s.steps≤(jh c (eQ c s).2).2.steps∧s.pl<(jh c (eQ c s).2).2.pl∧kU c (jh c (eQ c s).2).2.pl=true:=by
 obtain⟨h1,h2,h3,h4,h5⟩:=qV b hn h;obtain⟨h6,f⟩:=h5 hy;obtain⟨e,a,d,v4,v5⟩:=Ju (c:=c) h1.cs;refine⟨⟨e,by rw[a];exact h1.lo,by rw[a];exact h1.hi,?_,?_⟩,a8,by rw[a];exact h6,by rw[a];exact f⟩
 ·rw[a,d,h3];have:=h.vis;have:=h1.lo;omega
 ·rw[d,Vy,Nat.one_mul];have:=h1.stp;omega
theorem rJ (a:lq c pss.length) (hn:c.ids.length≤2147483647):∀(n:Nat) (s:MS),lT c pss s→lT c pss (qZ c n s).2∧s.steps≤(qZ c n s).2.steps∧s.pl≤(qZ c n s).2.pl∧((qZ c n s).1≠none→s.pl<(qZ c n s).2.pl∧(qZ c n s).2.pl<(c.ids.length:Int))
 | 0,s,h=>⟨h,Xl _,T8 _,λh=>absurd rfl h⟩
 |n+1,s,h=>by
  obtain⟨h1,h2,h3,h4,h5⟩:=qV a hn h;rw[qZ]
  split
  ·exact⟨h1,by rw[h2];exact Xl _,h4,λh=>absurd rfl h⟩
  ·rename_i hy;obtain⟨d,g,b,f⟩:=wT a hn h (by simpa using hy)
   split
   ·exact⟨d,g,Int.le_of_lt b,λ_=>⟨b,(yC f).2⟩⟩
   ·obtain⟨i,i2,i3,e⟩:=rJ a hn n _ d;exact⟨i,a8,a8,λh=>⟨by have:=(e h).1;omega,(e h).2⟩⟩
theorem Hx (a:lq c pss.length) (hn:c.ids.length≤2147483647):∀(n:Nat) (s:MS),lT c pss s→lT c pss (nJ c n s).2∧s.steps≤(nJ c n s).2.steps
 | 0,s,h=>⟨h,Xl _⟩
 |n+1,s,h=>by
  obtain⟨h1,h2,h3,h4⟩:=rJ a hn (c.ids.length+1) s h;rw[nJ];unfold fh
  split
  ·exact⟨h1,h2⟩
  ·obtain⟨d,b⟩:=Hx a hn n _ h1;exact⟨d,Xi h2 b⟩
theorem K3 (h:∀a∈pss,j5 0 a∧fL a∧ec a≤100000000):lT c pss (mn pss):=by
 refine⟨⟨?_,?_⟩,(by decide:(-1:Int)≤ -1),(by decide:(-1:Int)<2147483647),(by decide:((0:Nat):Int)≤ -1+1),Yl _⟩
 ·simp[mn,Uo,Function.comp_def]
 ·intro x hx;obtain⟨a,b,rfl⟩:=Xt.1 hx;obtain⟨h1,h2,h3⟩:=h a b;exact⟨h1,h2,h3,Yl _,Yl _⟩
end
section
variable {hs:Hs}{p:PrG}{st:List VV}
structure FH (p:PrG) (code:List Ins) (hs:Hs) (j:Nat):Prop where
 ex:∃h h',hs.getD j none=some h∧jw (code.getD j (0,0,0)) h=some h'∧(j+1=code.length↔(code.getD j (0,0,0)).1=0)∧ng p (code.getD j (0,0,0))=true∧
  (j+1<code.length→hs.getD (j+1) none=some h'∧(sX (code.getD j (0,0,0))=true→(code.getD j (0,0,0)).2.1≤code.length-2-j∧hs.getD (j+1+(code.getD j (0,0,0)).2.1) none=some h'))
theorem zr {a:Hs}{i h:Nat}(hm:kD hs i h=some a) (hi:i<hs.length):a.length=hs.length∧a.getD i none=some h∧∀j k,hs.getD j none=some k→a.getD j none=some k:=by
 unfold kD at hm
 split at hm
 ·rename_i hn;obtain rfl:=Xk hm;refine⟨Ub ..,by rw[Xj,Ue hi];all_goals rfl,λj k hj=>?_⟩
  by_cases e:i=j
  ·subst e;rw[hn]at hj;cases hj
  ·rw[Xj,List.getElem?_set_ne e,←Xj];exact hj
 ·rename_i k hk
  split at hm
  ·rename_i e;obtain rfl:=Xk hm;exact⟨rfl,by rw[hk,e],λ_ _ h=>h⟩
  ·cases hm
theorem yw {a:List Ins}:∀(n i:Nat) (hs hs':Hs),n+i=a.length→hs.length=a.length→(i<a.length→∃h,hs.getD i none=some h)→jr p a n i hs=some hs'→
 (∀j k,hs.getD j none=some k→hs'.getD j none=some k)∧hs'.length=a.length∧∀j,i≤j→j<a.length→FH p a hs' j
 | 0,i,hs,hs',hn,hl,_,h=>by
  obtain rfl:=Xk h;exact⟨λ_ _ h=>h,hl,λj h1 h2=>a8⟩
 |n+1,i,hs,hs',hn,hl,hi,h=>by
  obtain⟨h0,d⟩:=hi a8;rw[jr,d,V4]at h
  split at h
  ·cases h
  ·rename_i h1 he
   split at h
   ·rename_i hc;have b:(i+1=a.length↔(a.getD i (0,0,0)).1=0):=by simpa using hc.1
    split at h
    ·rename_i hL;obtain rfl:=Xk h;refine⟨λ_ _ h=>h,hl,λj g c=>?_⟩;obtain rfl:j=i:=a8;exact⟨⟨h0,h1,d,he,b,hc.2,λhh=>a8⟩⟩
    ·rename_i hL
     split at h
     ·cases h
     ·rename_i s u;obtain⟨a1,q,m⟩:=zr u a8
      split at h
      ·rename_i y
       split at h
       ·cases h
       ·rename_i hA
        split at h
        ·cases h
        ·rename_i r t;obtain⟨b1,z,l⟩:=zr t a8;obtain⟨f,x,w⟩:=yw n (i+1) r hs' a8 a8 (λ_=>⟨h1,l _ _ q⟩) h;refine⟨λj k hj=>f _ _ (l _ _ (m _ _ hj)),x,λj g c=>?_⟩
         by_cases e:j=i
         ·subst e;exact⟨⟨h0,h1,f _ _ (l _ _ (m _ _ d)),he,b,hc.2,λ_=>⟨f _ _ (l _ _ q),λ_=>⟨a8,f _ _ z⟩⟩⟩⟩
         ·exact w j a8 c
      ·rename_i y;obtain⟨f,x,w⟩:=yw n (i+1) s hs' a8 a8 (λ_=>⟨h1,q⟩) h;refine⟨λj k hj=>f _ _ (m _ _ hj),x,λj g c=>?_⟩
       by_cases e:j=i
       ·subst e;exact⟨⟨h0,h1,f _ _ (m _ _ d),he,b,hc.2,λ_=>⟨f _ _ q,λv=>absurd v y⟩⟩⟩
       ·exact w j a8 c
   ·cases h
structure yG (p:PrG) (code:List Ins) (hs:Hs):Prop where
 dec:lu p=some code
 ne:0<code.length
 tab:iP p=true
 at0:hs.getD 0 none=some 0
 step:∀j,j<code.length→FH p code hs j
theorem vz (h:gA p=some hs):∃a,yG p a hs:=by
 unfold gA at h
 split at h
 ·cases h
 ·rename_i a hc
  split at h
  ·cases h
  ·rename_i hn;have b:0<a.length:=Nat.pos_of_ne_zero λe=>hn (.inl e);have c:iP p=true:=by cases e:iP p with|true=>rfl|false=>exact absurd (.inr e) hn
   have h0:(hs0 a.length).getD 0 none=some 0:=by
    unfold hs0;rw[Xj,Ue (by simpa using b)];all_goals rfl
   obtain⟨f,c2,d⟩:=yw a.length 0 _ hs a8 (by simp[hs0]) (λ_=>⟨0,h0⟩) h;exact⟨a,hc,b,c,f _ _ h0,λj hj=>d j (Yl _) hj⟩
theorem qC {f:VV→VV→VV}(h:2≤st.length):(mi st f).length=st.length-1:=by simp[mi];omega
theorem xB {f:VV→VV}(h:1≤st.length):(qy st f).length=st.length:=by simp[qy];omega
theorem oB {n:Nat}(v:VV) (h:st.length+1=n):(st++ [v]).length=n:=by rw[Ya,Ul];exact h
theorem CG {c:Cfg}{d pc:Nat}{cs:List CuS}(s:FH c.p c.ins hs pc) (hp:pc<c.ins.length) (p:hs.getD pc none=some st.length) (h0:(lD c pc).1≠0):
 pc<(opV c d (lD c pc) (pc+1) st cs).1∧(opV c d (lD c pc) (pc+1) st cs).1<c.ins.length∧hs.getD (opV c d (lD c pc) (pc+1) st cs).1 none=some (opV c d (lD c pc) (pc+1) st cs).2.1.length:=by
 obtain⟨h,i,r,f,u,v,t⟩:=s.ex;rw[p]at r;obtain rfl:=Xk r;have hne:¬pc+1=c.ins.length:=λe=>h0 (u.1 e);obtain⟨q,k⟩:=t a8;have g:∀j:List VV,j.length=i→pc<pc+1∧pc+1<c.ins.length∧hs.getD (pc+1) none=some j.length:=λj hl=>⟨a8,a8,by rw[hl];exact q⟩;change jw (lD c pc) st.length=some i at f;change sX (lD c pc)=true→(lD c pc).2.1≤c.ins.length-2-pc∧hs.getD (pc+1+(lD c pc).2.1) none=some i at k;clear u v t s r;generalize lD c pc=x at*;obtain⟨op,A,B⟩:=x
 match op,f,k,h0 with
 | 0,_,_,h0=>exact absurd rfl h0
 | 1,f,_,_=>exact g _ (oB _ (Xk f))
 | 2,f,_,_=>exact g _ (oB _ (Xk f))
 | 3,f,_,_=>exact g _ (oB _ (Xk f))
 | 4,f,_,_=>exact g _ (oB _ (Xk f))
 | 5,f,_,_=>exact g _ (oB _ (Xk f))
 | 6,f,_,_=>
  have h2:2≤st.length∧st.length-1=i:=by
   change (if 2≤st.length then some (st.length-1)else none)=some i at f
   split at f
   ·exact⟨aU,Xk f⟩
   ·cases f
  exact g (mi st (λa b=>(a.1&&b.1,w64 (a.2+b.2)))) ((qC h2.1).trans h2.2)
 | 7,f,_,_=>
  have h2:2≤st.length∧st.length-1=i:=by
   change (if 2≤st.length then some (st.length-1)else none)=some i at f
   split at f
   ·exact⟨aU,Xk f⟩
   ·cases f
  exact g (mi st (λa b=>(a.1 ||b.1,w64 (a.2+b.2)))) ((qC h2.1).trans h2.2)
 | 8,f,_,_=>
  have h2:2≤st.length∧st.length-1=i:=by
   change (if 2≤st.length then some (st.length-1)else none)=some i at f
   split at f
   ·exact⟨aU,Xk f⟩
   ·cases f
  exact g (mi st (λa b=>(a.1 ||b.1,max a.2 b.2))) ((qC h2.1).trans h2.2)
 | 9,f,_,_=>
  have h2:2≤st.length∧st.length-1=i:=by
   change (if 2≤st.length then some (st.length-1)else none)=some i at f
   split at f
   ·exact⟨aU,Xk f⟩
   ·cases f
  exact g (mi st (λa b=>(a.1,w64 (a.2+b.2)))) ((qC h2.1).trans h2.2)
 | 10,f,_,_=>
  have h2:2≤st.length∧st.length-1=i:=by
   change (if 2≤st.length then some (st.length-1)else none)=some i at f
   split at f
   ·exact⟨aU,Xk f⟩
   ·cases f
  exact g (mi st (λa b=>(a.1&&!b.1,a.2))) ((qC h2.1).trans h2.2)
 | 11,f,_,_=>
  have h1:1≤st.length∧st.length=i:=by
   change (if 1≤st.length then some st.length else none)=some i at f
   split at f
   ·exact⟨aU,Xk f⟩
   ·cases f
  exact g (qy st (λa=>(!a.1,0))) ((xB h1.1).trans h1.2)
 | 12,f,_,_=>
  have h1:1≤st.length∧st.length=i:=by
   change (if 1≤st.length then some st.length else none)=some i at f
   split at f
   ·exact⟨aU,Xk f⟩
   ·cases f
  exact g (qy st (λa=>(a.1,w64 (a.2*A)))) ((xB h1.1).trans h1.2)
 | 13,f,_,_=>
  have h1:1≤st.length∧st.length=i:=by
   change (if 1≤st.length then some st.length else none)=some i at f
   split at f
   ·exact⟨aU,Xk f⟩
   ·cases f
  exact g (qy st (λa=>if a.1=true then(true,w64 (A*262144))else(false,0))) ((xB h1.1).trans h1.2)
 | 14,f,_,_=>
  have h1:A≤st.length∧st.length-A+1=i:=by
   change (if st.length<A then none else some (st.length-A+1))=some i at f
   split at f
   ·cases f
   ·exact⟨a8,Xk f⟩
  exact g _ (oB (st:=st.take (st.length-A)) _ az)
 | 15,f,k,_=>
  have h1:1≤st.length∧st.length=i:=by
   change (if 1≤st.length then some st.length else none)=some i at f
   split at f
   ·exact⟨aU,Xk f⟩
   ·cases f
  obtain⟨m,l⟩:=k rfl;change A≤c.ins.length-2-pc at m;change hs.getD (pc+1+A) none=some i at l;change pc<(if(eX st).1=true then pc+1 else pc+1+A)∧(if(eX st).1=true then pc+1 else pc+1+A)<c.ins.length∧hs.getD (if(eX st).1=true then pc+1 else pc+1+A) none=some st.length;rw[h1.2]
  split
  ·exact⟨a8,a8,q⟩
  ·exact⟨a8,a8,l⟩
 | 16,f,k,_=>
  have h1:1≤st.length∧st.length=i:=by
   change (if 1≤st.length then some st.length else none)=some i at f
   split at f
   ·exact⟨aU,Xk f⟩
   ·cases f
  obtain⟨m,l⟩:=k rfl;change A≤c.ins.length-2-pc at m;change hs.getD (pc+1+A) none=some i at l;change pc<(if(eX st).1=true then pc+1+A else pc+1)∧(if(eX st).1=true then pc+1+A else pc+1)<c.ins.length∧hs.getD (if(eX st).1=true then pc+1+A else pc+1) none=some st.length;rw[h1.2]
  split
  ·exact⟨a8,a8,l⟩
  ·exact⟨a8,a8,q⟩
 |n+17,f,_,_=>
  have h1:1≤st.length∧st.length=i:=by
   change (if 1≤st.length then some st.length else none)=some i at f
   split at f
   ·exact⟨aU,Xk f⟩
   ·cases f
  exact g _ h1.2
end
section
variable {i:Nat}
structure En where
 key:ByteArray
 docs:Nat
 tot:Nat
 at_:Nat
 size:Nat
def eY:List Nat→List Nat→Nat
 |a::x,b::y=>if a=b then eY x y+1 else 0
 |_,_=>0
def oX (prev:List Nat) (e:En):List Nat:=uv (eY prev (dC e.key))++(uv ((dC e.key).length-eY prev (dC e.key))++(dC e.key).drop (eY prev (dC e.key)))++(uv e.docs++uv e.tot++uv e.at_++uv e.size)
def fe:List Nat→List En→List Nat
 |_, []=>[]
 |prev,e::r=>oX prev e++fe (dC e.key) r
def nk (prev:List Nat) (l:List En):List Nat:=match l.getLast? with|none=>prev|some e=>dC e.key
def gB (l:List En) (k:Nat):List En:=(l.take (16*k+16)).drop (16*k)
def eH (l:List En):Nat→List Nat×List Nat
 | 0=>([], [])
 |k+1=>((eH l k).1++uv (fe [] (gB l k)).length,(eH l k).2++fe [] (gB l k))
def gO (l:List En):Nat:=(l.length+15)/16
def iC (l:List En):List Nat:=uv l.length++(eH l (gO l)).1++(eH l (gO l)).2
def w9 (l:List En):Prop:=(∀e∈l,1≤e.key.size∧e.key.size≤65∧e.docs≤2147483647∧e.tot≤2147483647∧e.at_≤2147483647∧e.size≤2147483647)∧∀i a b,l[i]? =some a→l[i+1]? =some b→dC a.key<dC b.key
theorem qP (b:List Nat):eY [] b=0:=by cases b <;> rfl
theorem n6:∀a b:List Nat,eY a b≤a.length∧eY a b≤b.length
 | [],b=>by simp[qP]
 |a::x, []=>by simp[eY]
 |a::x,b::y=>by
  have:=n6 x y;simp only[eY,Yb]
  split <;> omega
theorem tG:∀a b:List Nat,a.take (eY a b)=b.take (eY a b)
 | [],b=>by simp[qP]
 |a::x, []=>by simp[eY]
 |a::x,b::y=>by
  simp only[eY]
  split
  ·rename_i h;rw[Vq,Vq,tG x y,h]
  ·simp
theorem pG:∀{a b:List Nat}{k:Nat},k≤a.length→k≤b.length→(∀j,j<k→at0 a j=at0 b j)→(k=a.length∨k=b.length∨at0 a k≠at0 b k)→eY a b=k
 | [],b,k,h1,_,_,_=>by simp at h1;subst h1;exact qP b
 |a::x, [],k,_,h2,_,_=>by simp at h2;subst h2;rfl
 |a::x,b::y,0,_,_,_,h=>by
  rcases h with h|h|h
  ·simp at h
  ·simp at h
  ·simp only[eY];rw[if_neg (by simpa [at0] using h)]
 |a::x,b::y,k+1,h1,h2,hj,h=>by
  have h0:a=b:=by simpa [at0] using hj 0 a8
  simp only[eY];rw[if_pos h0];rw[pG (a:=x) (b:=y) (k:=k) dt cD (λj hlt=>by simpa [at0] using hj (j+1) a8) (by simpa [at0] using h)]
theorem Ir (p:List Nat):nk p []=p:=rfl
theorem EP (p:List Nat) (l:List En) (e:En):nk p (l++ [e])=dC e.key:=by simp[nk]
theorem ER (p:List Nat) (e:En) (l:List En):nk p (e::l)=nk (dC e.key) l:=by
 cases l with
 |nil=>rfl
 |cons q l=>
  have h:(q::l).getLast? ≠none:=aq;simp only[nk,List.getLast?_cons_cons];cases hc:(q::l).getLast? with
  |none=>exact absurd hc h
  |some r=>rfl
theorem rN:∀(a b:List En) (p:List Nat),fe p (a++b)=fe p a++fe (nk p a) b
 | [],b,p=>by simp[fe,Ir]
 |e::a,b,p=>by rw[Yd,fe,rN a b,ER,fe,Yf]
theorem qe {l:List En}{e:En}(h:l[i]? =some e) (p:List Nat):fe p (l.take (i+1))=fe p (l.take i)++oX (nk p (l.take i)) e:=by
 rw[dK h,rN];simp[fe]
theorem sW {l:List En}{e:En}(h:l[i]? =some e) (p:List Nat):nk p (l.take (i+1))=dC e.key:=by
 rw[dK h,EP]
theorem ri (l:List En) (k:Nat):(gB l k).length=min (16*k+16) l.length-16*k:=by simp[gB]
theorem DL (l:List En) (k i:Nat) (h:i<16):(gB l k)[i]? =l[16*k+i]? :=by
 rw[gB,Xh,X3,if_pos a8]
theorem DK {l:List En}{k:Nat}{e:En}(h:e∈gB l k):e∈l:=Yq (Yp h)
def lV (l:List En):Prop:=∀e∈l,e.key.size≤1000∧e.docs<1099511627776∧e.tot<1099511627776∧e.at_<1099511627776∧e.size<1099511627776
theorem Di {prev:List Nat}{e:En}(h:e.key.size≤1000∧e.docs<1099511627776∧e.tot<1099511627776∧e.at_<1099511627776∧e.size<1099511627776):(oX prev e).length≤1040:=by
 have h0:=n6 prev (dC e.key);have hb:=dI e.key;have h1:=gb (n:=eY prev (dC e.key)) (k:=6) a8 a8;have h2:=gb (n:=(dC e.key).length-eY prev (dC e.key)) (k:=6) a8 a8;have h3:=gb (n:=e.docs) (k:=6) h.2.1 a8;have h4:=gb (n:=e.tot) (k:=6) h.2.2.1 a8;have h5:=gb (n:=e.at_) (k:=6) h.2.2.2.1 a8;have h6:=gb (n:=e.size) (k:=6) h.2.2.2.2 a8;simp only[oX,Ya,Yo];omega
theorem oW:∀{l:List En}{p:List Nat},lV l→(fe p l).length≤1040*l.length
 | [],_,_=>by simp[fe]
 |e::r,p,h=>by
  have h1:=Di (prev:=p) (h e aq);have h2:=oW (p:=dC e.key) (λx hx=>h x (Xa _ hx));simp only[fe,Ya,Yb];omega
theorem qN {l:List En}(h:lV l) (k:Nat):lV (gB l k):=λe he=>h e (DK he)
theorem AB {l:List En}(h:lV l) (i:Nat):lV (l.take i):=λe he=>h e (Yq he)
theorem qf {l:List En}(h:lV l):∀k,(eH l k).1.length≤6*k∧(eH l k).2.length≤16640*k
 | 0=>by simp[eH]
 |k+1=>by
  obtain⟨h1,h2⟩:=qf h k;have h3:=oW (p:= []) (qN h k);have h4:=ri l k;have h5:=gb (n:=(fe [] (gB l k)).length) (k:=6) a8 a8;simp only[eH,Ya];omega
theorem IV {l:List En}(h:lV l) (hn:l.length<1099511627776):(iC l).length≤20000+1100*l.length:=by
 obtain⟨h1,h2⟩:=qf h (gO l);have h3:=gb (n:=l.length) (k:=6) hn a8;have h5:16*gO l≤l.length+15:=cS;simp only[iC,Ya];omega
theorem xF {l:List En}(h:w9 l):lV l:=λe he=>by
 obtain⟨_,h2,h3,h4,h5,h6⟩:=h.1 e he;exact⟨a8,a8,a8,a8,a8⟩
theorem Dg:∀(l:List En) (p:List Nat),∀x∈fe p l,x<256
 | [],_,x,hx=>by simp[fe]at hx
 |e::r,p,x,hx=>by
  simp only[fe,oX,Xm]at hx;rcases hx with((hx|hx|hx)|((hx|hx)|hx)|hx)|hx
  ·exact kz _ x hx
  ·exact kz _ x hx
  ·exact lZ _ x (Yp hx)
  ·exact kz _ x hx
  ·exact kz _ x hx
  ·exact kz _ x hx
  ·exact kz _ x hx
  ·exact Dg r _ x hx
theorem zW (l:List En):∀k,(∀x∈(eH l k).1,x<256)∧∀x∈(eH l k).2,x<256
 | 0=>by simp[eH]
 |k+1=>by
  obtain⟨h1,h2⟩:=zW l k
  constructor
  ·intro x hx;rcases Xm.1 hx with hx|hx
   ·exact h1 x hx
   ·exact kz _ x hx
  ·intro x hx;rcases Xm.1 hx with hx|hx
   ·exact h2 x hx
   ·exact Dg _ _ x hx
theorem Dx (l:List En):∀x∈iC l,x<256:=by
 intro x hx;obtain⟨h1,h2⟩:=zW l (gO l);rcases Xm.1 hx with hx|hx
 ·rcases Xm.1 hx with hx|hx
  ·exact kz _ x hx
  ·exact h1 x hx
 ·exact h2 x hx
end
section
variable {c:List (List Nat×List Po)}{d p:Nat}{k:List Nat}
abbrev Tri:=List Nat×Nat×Nat
def fI (l:List Po) (d p:Nat):List Po:=match l.getLast? with
 |some q=>if q.1=d then l.dropLast++ [(d,q.2++ [p])]else l++ [(d, [p])]
 |none=>[(d, [p])]
def jI (ts:List (Nat×Nat)):List Po:=ts.foldl (λl t=>fI l t.1 t.2) []
def ofK (ts:List Tri) (k:List Nat):List (Nat×Nat):=(ts.filter λt=>decide (t.1=k)).map (·.2)
theorem mT (a:List (Nat×Nat)) (d p:Nat):jI (a++ [(d,p)])=fI (jI a) d p:=by simp[jI]
theorem mG (a:List Tri) (k:List Nat) (d p:Nat):ofK (a++ [(k,d,p)]) k=ofK a k++ [(d,p)]:=by simp[ofK]
theorem nU {a:List Tri}{k':List Nat}(h:k'≠k):ofK (a++ [(k',d,p)]) k=ofK a k:=by simp[ofK,h]
theorem tQ {a:List Tri}(h:k ∉ a.map (·.1)):ofK a k= []:=by
 simp only[ofK,List.map_eq_nil_iff,List.filter_eq_nil_iff,Xq];intro t b he;exact h (he ▸ Vj b)
theorem M5:jI []= []:=rfl
theorem J5 (d p:Nat):fI [] d p= [(d, [p])]:=rfl
structure iE (c:List (List Nat×List Po)) (ts:List Tri):Prop where
 nodup:(c.map (·.1)).Nodup
 keys:∀k,k∈c.map (·.1)↔k∈ts.map (·.1)
 vals:∀e∈c,e.2=jI (ofK ts e.1)
theorem iE.nil:iE [] []:=⟨aq,aq,aq⟩
theorem iE.new {i:List Tri}(h:iE c i) (hk:k ∉ c.map (·.1)):iE (c++ [(k, [(d, [p])])]) (i++ [(k,d,p)]):=by
 refine⟨?_,λl=>?_,λe he=>?_⟩
 ·rw[Xp,List.nodup_append];refine⟨h.nodup,aq,λa ha b j=>?_⟩;simp at j;subst j;rintro rfl;exact hk ha
 ·simp only[Xp,Xm,h.keys l,Xs,Ud]
 ·rcases Xm.1 he with he|he
  ·have f:k≠e.1:=λg=>hk (g ▸ Vj he);rw[nU f];exact h.vals e he
  ·simp at he;subst he;rw[mG,mT,tQ (λg=>hk ((h.keys k).2 g)),M5,J5]
theorem iE.old {n:List Tri}{l:List Po}{i:Nat}(h:iE c n) (hi:c[i]? =some (k,l)):iE (c.set i (k,fI l d p)) (n++ [(k,d,p)]):=by
 have f:=(Yk.1 hi).1;have b:(c.set i (k,fI l d p)).map (·.1)=c.map (·.1):=by
  apply Vz;intro j;rw[Xd,Vf,Xd]
  split
  ·rename_i hj;subst hj;first|(rw[if_pos f,hi];all_goals rfl)|(rw[hi];all_goals rfl)
  ·rfl
 have a:(k,l)∈c:=Yj hi;refine⟨by rw[b];exact h.nodup,λq=>?_,λe he=>?_⟩
 ·rw[b,h.keys q,Xp,Xm]
  constructor
  ·exact .inl
  ·rintro(hh|hh)
   ·exact hh
   ·simp at hh;subst hh;exact(h.keys q).1 (Vj a)
 ·obtain⟨j,hj⟩:=Vo he;rw[Vf]at hj
  split at hj
  ·rename_i g
   try rw[if_pos a8]at hj
   obtain rfl:=Xk hj;show fI l d p=_;rw[mG,mT,←h.vals (k,l) a]
  ·rename_i g;have m:k≠e.1:=by
    intro hh;have h1:(c.map (·.1))[i]? =some k:=by rw[Xd,hi];all_goals rfl
    have h2:(c.map (·.1))[j]? =some k:=by rw[Xd,hj,hh];all_goals rfl
    have hjl:=(Yk.1 hj).1;exact g ((S1 (by rw[Yh];exact f) h.nodup).1 (h1.trans h2.symm))
   rw[nU m];exact h.vals e (Yj hj)
theorem ni (a:List Nat):¬a<a:=List.lt_irrefl a
theorem zw {a b c:List Nat}(h:a<b) (d:b<c):a<c:=List.lt_trans h d
theorem v7 {a b:List Nat}(h:¬a<b) (c:a≠b):b<a:=by
 rw[List.not_lt,List.le_iff_lt_or_eq]at h;exact h.resolve_right (λe=>c e.symm)
def tm (ks:List (List Nat)):Prop:=ks.Pairwise (· < ·)
def AY (k:List Nat):List (List Nat)→List (List Nat)
 | []=>[k]
 |a::r=>if k<a then k::a::r else if k=a then a::r else a::AY k r
def oA (ks:List (List Nat)):List (List Nat):=ks.foldr AY []
theorem xU (k:List Nat):∀(l:List (List Nat)) (x:List Nat),x∈AY k l↔x=k∨x∈l
 | [],x=>by simp[AY]
 |a::r,x=>by
  simp only[AY]
  split
  ·simp
  ·split
   ·rename_i h;subst h;simp
   ·simp only[Xo,xU k r x];constructor
    ·rintro(h|h|h) <;> simp[h]
    ·rintro(h|h|h) <;> simp[h]
theorem zy (k:List Nat):∀{l:List (List Nat)},tm l→tm (AY k l)
 | [],_=>by simp[AY,tm]
 |a::r,h=>by
  obtain⟨h1,h2⟩:=Vl.1 h;simp only[AY]
  split
  ·rename_i hk;refine Vl.2 ⟨λx hx=>?_,h⟩;rcases Xo.1 hx with rfl|hx
   ·exact hk
   ·exact zw hk (h1 x hx)
  ·split
   ·exact h
   ·rename_i hk b;refine Vl.2 ⟨λx hx=>?_,zy k h2⟩;rcases(xU k r x).1 hx with rfl|hx
    ·exact v7 hk b
    ·exact h1 x hx
theorem lJ:∀(ks:List (List Nat)) (x:List Nat),x∈oA ks↔x∈ks
 | [],x=>by simp[oA]
 |k::r,x=>by show x∈AY k (oA r)↔_;rw[xU,lJ r x,Xo]
theorem kN:∀(ks:List (List Nat)),tm (oA ks)
 | []=>by simp[oA,tm]
 |k::r=>zy k (kN r)
theorem xm:∀{a b:List (List Nat)},tm a→tm b→(∀x,x∈a↔x∈b)→a=b
 | [], [],_,_,_=>rfl
 | [],y::b,_,_,h=>by have:=(h y).2 aq;simp at this
 |x::a, [],_,_,h=>by have:=(h x).1 aq;simp at this
 |x::a,y::b,ha,hb,h=>by
  obtain⟨e,i⟩:=Vl.1 ha;obtain⟨d,g⟩:=Vl.1 hb;have f:x=y:=by
   rcases Xo.1 ((h x).1 aq)with h1|h1
   ·exact h1
   ·rcases Xo.1 ((h y).2 aq)with h2|h2
    ·exact h2.symm
    ·exact absurd (zw (d x h1) (e y h2)) (ni y)
  subst f;congr 1;refine xm i g λz=>⟨λc=>?_,λc=>?_⟩
  ·rcases Xo.1 ((h z).1 (Xa _ c))with rfl|h1
   ·exact absurd (e z c) (ni z)
   ·exact h1
  ·rcases Xo.1 ((h z).2 (Xa _ c))with rfl|h1
   ·exact absurd (d z c) (ni z)
   ·exact h1
def eE (ts:List Tri):List (List Nat×List Po):=(oA (ts.map (·.1))).map λk=>(k,jI (ofK ts k))
structure rn (R:List (List Nat×List Po)) (ts:List Tri):Prop where
 rise:tm (R.map (·.1))
 keys:∀k,k∈R.map (·.1)↔k∈ts.map (·.1)
 vals:∀e∈R,e.2=jI (ofK ts e.1)
theorem xj (a:List Tri):(eE a).map (·.1)=oA (a.map (·.1)):=by simp[eE,Function.comp_def]
theorem rn.eq {R:List (List Nat×List Po)}{a:List Tri}(h:rn R a):R=eE a:=by
 have h1:R.map (·.1)=oA (a.map (·.1)):=xm h.rise (kN _) λx=>by rw[h.keys,lJ]
 have h2:R=(R.map (·.1)).map λk=>(k,jI (ofK a k)):=by
  rw[Uo]
  conv=>lhs;rw[←P0 R]
  exact T1 λe he=>by show e=(e.1,jI (ofK a e.1));rw[←h.vals e he]
 rw[h2,h1,eE]
def ltP (a b:Nat×Nat):Prop:=a.1<b.1∨a.1=b.1∧a.2<b.2
def UpT (ts:List Tri):Prop:=∀k,(ofK ts k).Pairwise ltP
theorem zm:∀{l:List Nat}{nb x:Nat},tP nb l→(∀y∈l,y<x)→nb≤x→tP nb (l++ [x])
 | [],nb,x,_,_,h=>⟨h,trivial⟩
 |y::r,nb,x,hk,hl,_=>⟨hk.1,zm hk.2 (λz a=>hl z (Xa _ a)) (by have:=hl y aq;omega)⟩
theorem xE:∀{l:List Po}{nb:Nat}{p:Po},j5 nb l→fB nb l≤p.1→p.2≠ []→tP 0 p.2→j5 nb (l++ [p])
 | [],nb,p,_,h1,h2,h3=>⟨h1,h2,h3,trivial⟩
 |q::r,nb,p,hk,h1,h2,h3=>by
  rw[kQ]at h1;exact⟨hk.1,hk.2.1,hk.2.2.1,xE hk.2.2.2 h1 h2 h3⟩
theorem zo:∀{l:List Po}{nb:Nat}{p:Po},j5 nb (l++ [p])→j5 nb l∧fB nb l≤p.1∧p.2≠ []∧tP 0 p.2
 | [],nb,p,h=>⟨trivial,h.1,h.2.1,h.2.2.1⟩
 |q::r,nb,p,h=>by
  obtain⟨h1,h2⟩:=zo (l:=r) h.2.2.2;rw[kQ];exact⟨⟨h.1,h.2.1,h.2.2.1,h1⟩,h2⟩
theorem D2:∀r:List (Nat×Nat),r.reverse.Pairwise ltP→j5 0 (jI r.reverse)∧∀p∈jI r.reverse,∀x∈p.2,(p.1,x)∈r.reverse
 | [],_=>⟨trivial,by simp[jI]⟩
 |(d,p)::r,h=>by
  rw[List.reverse_cons]at h⊢;obtain⟨j,_,i⟩:=Uj.1 h;have e:∀u∈r.reverse,ltP u (d,p):=λu m=>i u m (d,p) aq;obtain⟨k,c⟩:=D2 r j;rw[mT];generalize r.reverse=ts at*;generalize jI ts=l at*;rcases X4 l with rfl|⟨b,q,hl⟩
  ·refine⟨⟨Yl _,aq,⟨Yl _,trivial⟩,trivial⟩,?_⟩;intro q f x hx;simp[fI]at f;subst f;simp at hx;subst hx;simp
  ·obtain rfl:l=b++ [q]:=by simpa using hl
   obtain⟨t,c2,s,n⟩:=zo k
   by_cases he:q.1=d
   ·have a:fI (b++ [q]) d p=b++ [(d,q.2++ [p])]:=by simp[fI,he]
    rw[a];have f:∀y∈q.2,y<p:=λy hy=>by
     rcases e _ (c q aq y hy)with h1|h1
     ·simp at h1;omega
     ·exact h1.2
    refine⟨xE t (by show fB 0 b≤d;omega) aq (zm n f (Yl _)),?_⟩;intro r hr x hx;rcases Xm.1 hr with hr|hr
    ·exact Yy _ (c r (Yy _ hr) x hx)
    ·simp at hr;subst hr;rcases Xm.1 hx with hx|hx
     ·exact Yy _ (by have:=c q aq x hx;rwa [he]at this)
     ·simp at hx;subst hx;simp
   ·have a:fI (b++ [q]) d p=b++ [q]++ [(d, [p])]:=by simp[fI,he]
    rw[a];obtain⟨y,hy⟩:=List.exists_mem_of_ne_nil _ s;have g:q.1<d:=by
     rcases e _ (c q aq y hy)with h1|h1
     ·exact h1
     ·exact absurd h1.1 he
    refine⟨xE k (by rw[pR];exact g) aq ⟨Yl _,trivial⟩,?_⟩;intro r hr x hx;rcases Xm.1 hr with hr|hr
    ·exact Yy _ (c r hr x hx)
    ·simp at hr;subst hr;simp at hx;subst hx;simp
theorem Pw {a:List (Nat×Nat)}(h:a.Pairwise ltP):j5 0 (jI a)∧∀p∈jI a,∀x∈p.2,(p.1,x)∈a:=by
 have:=D2 a.reverse (by rwa [S0])
 rwa [S0]at this
end
section
variable {pre:List Nat}{s:SV}
theorem Ha {lo hi j:Nat}(h:lo<s.c):(s.cut 1 lo hi).elt 1 j 0=s.elt 1 (lo+j) 0:=by
 have h2:¬s.c=lo:=a8;simp only[SV.cut,SV.elt,if_neg h2,Option.map_map];cases s.a with
 |none=>rfl
 |some a=>
  by_cases h0:lo=0
  ·subst h0;simp[Addr.add]
  ·simp[Addr.add,h0,V0]
theorem UI {H:dD}{l:List Nat}{lo hi:Nat} [h:Sl H s eB (pre++l)] (h1:pre.length=lo) (h2:hi=lo+l.length):Sl H (s.cut 1 lo hi) eB l:=by
 have:=Sl.cut h (lo:=lo) (hi:=hi) a8 bz;rw[Xr bz,←h1,Vg]at this;rw[←h1];exact this
theorem Oi (pre l:List Nat) (j v:Nat):(pre++l).set (pre.length+j) v=pre++l.set j v:=by
 rw[List.set_append,if_neg a8,Q4]
theorem ZW {G:dJ}{H R:dD}{m N a w x:Nat} [hr:mh H s eB (pre++leB m N) R] (hN:N<2^a) (hm:a+w≤8*m) (hx:x<2^w) (hx40:x<1099511627776) (hm9:m≤10000000000) (hp9:pre.length≤10000000000) (hw:w≤40) (hc:pre.length<s.c∨w=0):SC G prog 222 [(s.cut 1 pre.length (pre.length+m)).val,iN a,iN w,iN x] H (λv A=>v=.tuple #[]∧A=Row s eB (pre++leB m (N+2^a*x))::R):=by
 refine SC.less (gi hr dH.refl) ?_;refine sWk func222 ?_;refine gk (k:=e8 (Nat×(List Nat)) (λy=>N+2^a*(x%2^y.1)<2^(a+y.1)∧y.1≤w+8∧y.2=leB m (N+2^a*(x%2^y.1))) (λy=>[(8,iN y.1)]) [(0,_),(1,_),(2,_),(3,_)] (λy=>[Row s eB (pre++y.2)]) _ (λy=>w-y.1) ((0,leB m N)) (h0:=?_) (k:=?_))
 ·try dsimp only
  exact⟨by simp[Nat.mod_one];exact hN,a8,by simp[Nat.mod_one]⟩
 rintro⟨d,o⟩ ⟨hd,hdw,j⟩
 try dsimp only[Yd,Ye]at*
 refine gW (λh1=>?_) λh1=>?_
 ·have hdw2:d<w:=by omega
  have z:(a+d)/8<m:=a8;have l:=KH (m:=m) (y:=x/2^d) z hd;obtain⟨g,hp2,f,q⟩:=l;rw[←j]at g f;have r:o.length=m:=by rw[j,gH]
  have hpc:pre.length<s.c:=a8;haveI hcs:Sl (Row s eB (pre++o)::R) (s.cut 1 pre.length (pre.length+m)) eB o:=UI rfl a8;have h:(pre++o)[pre.length+(a+d)/8]? =some ((N+2^a*(x%2^d))/256^((a+d)/8)):=by
   rw[Yu a8,Q4];exact f
  have t:(a+d)%8<8:=V2 _ ae;have u:2^((a+d)%8)≤2^7:=X0 ae a8;have c:x/2^d≤x:=Nat.div_le_self _ _;have hsh:x/2^d*2^((a+d)%8)≤x*2^7:=Uv c u;have e:=Jy hd;have p:=KJ (y:=x/2^d) e t;have hplen:(pre++o).length=pre.length+m:=by rw[Ya,r]
  refine wk_ (qn_ (wb_ (ws_ (wr_ (e_ mv (e_ mv (e_ iad ?_)))))));refine e_ (mw rfl rfl (a+d) 8 a8 rfl ae) (go ?_);refine wD [15] (λk H=>(k=5→Sl H (s.cut 1 pre.length (pre.length+m)) eB o)∧(k=6→Sl H s eB (pre++o))∧(k=14→Sl H (s.cut 1 pre.length (pre.length+m)) eB o)) (aF 0 (k:=aF 1 (k:=aF 2 (k:=aF 3 (k:=?_)))));refine aN 4 rfl (λH hH=>fX rfl rfl (a+d) 8 a8 rfl ae ai) ?_;refine aN 5 rfl (λH hH=>by have hN:=hH.1 rfl;exact evq (er rfl rfl ((a+d)/8) rfl a8) (congrArg Value.pointer (Ha hpc))) ?_;refine aN 6 rfl (λH hH=>by have hN:=hH.2.1 rfl;exact lel (hy:=h)) ?_;refine aF 7 (k:=aF 8 (k:=?_));refine aN 9 rfl (λH hH=>hX rfl rfl x d rfl rfl (by show _≤64;omega)) ?_;refine aF 10 (k:=?_);refine aN 11 rfl (λH hH=>ye rfl rfl (x/2^d) ((a+d)%8) rfl rfl a8 a8) ?_;refine aN 12 rfl (λH hH=>ez 256 rfl rfl rfl _ rfl) ?_;refine aN 13 rfl (λH hH=>evq (ku 256 rfl rfl rfl rfl _ _ rfl rfl a8 (V2 _ ae)) (congrArg (λn:Nat=>Value.int .u8 (n:Int)) p)) ?_;refine aN 14 rfl (λH hH=>by have hN:=hH.2.2 rfl;exact evq (er rfl rfl ((a+d)/8) rfl a8) (congrArg Value.pointer (Ha hpc))) ?_;refine aS 15 rfl (et (s:=s) (i:=pre.length+(a+d)/8) rfl rfl rfl a8) ?_;rintro _ _ ⟨rfl,rfl⟩;refine aZ (qn_ (wr_ ?_));rw[Oi,g];have b:N+2^a*(x%2^d)+2^(a+d)*(x/2^d%2^(8-(a+d)%8))=N+2^a*(x%2^(d+(8-(a+d)%8))):=by
   rw[←CA x d,R7,V0,Uz,V3]
  refine e_ mv (e_ mv (e_ isb ?_));refine e_ (evq iad (congrArg (Value.int .i64) (show _=((d+(8-(a+d)%8):Nat):Int)from a8))) (go ?_);refine lN ((d+(8-(a+d)%8),leB m (N+2^a*(x%2^d)+2^(a+d)*(x/2^d%2^(8-(a+d)%8))))) ?_
  try dsimp only
  exact⟨by rw[←b,←V0];exact q,a8,by rw[b]⟩
 have c:x%2^d=x:=Xw (Q6 hx (X0 ae a8));rw[c]at j;rw[j];exact gZ
end
theorem EU (ns:List Nat):o8 (dT ns)=false:=by
 rw[mX];intro i x h;exact FD ns x (Yj h)
section
variable {G:dJ}{P:Program}{N:Nat}{Q:Post}{t:Tm}{H:dD}{ops:Array Oper}{l:List Oper}
theorem XL (s:SV) {α:Type}{e:Enc α}{xs:List α} [hs:Sl H s e xs] (h:xs.length≤s.c→O G P N ops l Q t H):O G P N ops l Q t H:=
 ⟨λa w ha b=>(h (by obtain⟨h1,h2,_⟩:=hs.get b;omega)).go a w ha b⟩
end
theorem Lu (m:Nat):leB m 0=List.replicate m 0:=by
 apply Vz;intro j
 by_cases h:j<m
 ·rw[rH h,S2,if_pos h];simp
 ·rw[Xz (by rw[gH];omega),Xz (by rw[Xe];omega)]
theorem Av {G:dJ}{H R:dD}{b:Nat}{xs:List Nat}{s:SV}{ns:List Nat} [hg:Glb G R] [hr:Rem H Wr b xs R] [hs:Sl R s eI (dT ns)] (hn:xs.length≤1000000000) (hm:ns.length≤100000000) (hl:∀x∈ns,x<1099511627776) (r:fO (orL ns)=0→ns.length≤65536):SC G prog 167 [pA b,s.val] H (λv U=>v=.nilIface∧U=Wr b (xs++ff ns)::R):=by
 have d:=eJ ns;have M:=EU ns;refine SC.rem (h:=hr) ?_;refine sWk func167 ?_;refine ws_ (wr_ (e_ asn (on_ (qn_ (ws_ (ws_ (wr_ (e_ mv ?_))))))));refine d1_ rfl (DP a8) ?_;rw[M];refine on_ (qn_ (wi_ (k:=λh1=>?_) (m:=λh1=>?_)))
 ·exact absurd h1 ae
 refine wk_ (qn_ (ws_ (wr_ (e_ asn (on_ (qn_ (ws_ (ws_ (wr_ (e_ mv (e_ lnn (e_ mv (on_ ?_)))))))))))));refine qn_ (wb_ (e8 Nat (λy=>y≤ns.length) (λy=>[(5,iN (orL (ns.take y))),(17,iN y)]) [(0,_),(1,_),(15,_),(16,_)] (λy=>[]) _ (λy=>ns.length-y) (0) (h0:=?_) (k:=?_)))
 ·exact Yl _
 rintro i hi
 try dsimp only[Yd,Ye]at*
 refine ws_ (wr_ (e_ ilt (on_ (qn_ (ws_ (wi_ (k:=λh2=>?_) (m:=λh2=>?_)))))))
 ·obtain⟨x,hx⟩:=gE ns i;have F:=gh hx;have g:=hl x (Yj hx);have T:orL (ns.take i)<2^40:=qU ae λy hy=>hl y (Yq hy);refine wk_ (qn_ (ws_ (wb_ (ws_ (wr_ (e_ ixa (e_ lel (e_ asn (on_ (qn_ (wr_ (e_ mv (e_ mv ?_)))))))))))));refine e_ (evq (Bd rfl rfl (orL (ns.take i)) x rfl rfl a8 a8) (congrArg (λn:Nat=>iN n) (CF hx).symm)) ?_;refine e_ asn (on_ (bn_ (qn_ (wr_ (e_ iad (e_ mv (on_ ?_)))))));refine lN (i+1) ?_
  try dsimp only
  omega
 obtain rfl:i=ns.length:=a8;rw[Xn];have T:orL ns<2^40:=qU ae hl;refine we_ (qe_ (le_ (bh_ (qn_ (ws_ (wr_ (e_ mv ?_)))))));refine e_ (dW 18446744073709551616 rfl rfl rfl (orL ns) rfl a8) ?_;refine d1_ rfl (Wb a8) ?_;obtain⟨W,C⟩:=ex (fO (orL ns));rw[←C];have e:W≤40:=by rw[C,j7];exact T
 have p:∀x∈ns,x<2^W:=λx hx=>by rw[C];exact KT hx
 have hul:=iw (n:=ns.length) a8;refine e_ asn (on_ (qn_ (ws_ (ws_ (wr_ (e_ mv (e_ ieq (e_ mv (dV 4 34 (k:=λh3=>eg_ mv (eg_ lnn (eg_ igt (e_ pkt (on_ edq))))) (q:=on_ (qn_ (wi_ (k:=λh4=>?_) (m:=λh4=>?_)))))))))))))
 ·obtain⟨c1,c2⟩:=h4;exfalso;rw[←C]at r;have:=r a8;omega
 refine wk_ (qn_ (ws_ (wr_ (e_ mv (e_ mv (e_ lnn ?_))))));refine e_ ((ad)) ?_;refine d2_ rfl (gl (dT ns).length a8 a8) ?_;rw[d];refine on_ (qn_ (ws_ (ws_ (wr_ (e_ mv (e_ lnn (e_ ieq (on_ (qn_ (wi_ (k:=λh5=>?_) (m:=λh5=>?_)))))))))))
 ·have u:ns= []:=Uc a8;refine ws_ (wr_ (e_ asn (on_ (qn_ (wt_ (qr_ (rT (k:=?_))))))));exact⟨_,hsb,rfl,by rw[ff,if_pos u,Ym]⟩
 have J:¬ns= []:=λh=>by have h9:=h5;rw[d,h]at h9;exact h9 rfl
 refine wk_ (qn_ (ws_ (wr_ (e_ mv (e_ mv ?_)))));refine e_ (dW 256 rfl rfl rfl W rfl a8) ?_;refine d2_ rfl (qA W aj) (on_ (qn_ (ws_ (wr_ ?_))));refine KY b λsw=>?_;have hnW:ns.length*W≤ns.length*40:=V7 _ e;have hcast:((dT ns).length:Int)*(W:Int)=((ns.length*W:Nat):Int):=by rw[d];simp
 refine e_ mv (e_ nck (e_ fla (e_ ldv (e_ lnn (e_ asn (on_ (qn_ (ws_ (wr_ (e_ mv (e_ mv (e_ nck (e_ fla ?_)))))))))))));refine e_ ldv (e_ mv (e_ lnn (e_ mv (e_ iml (e_ iad ?_)))));refine e_ (fX rfl rfl (ns.length*W+7) 8 a8 rfl ae ai) ?_;refine s_ (xa (T3:=9) rfl rfl rfl (by simp only[Ya,Yb,Yc];omega) (by simp only[Ya,Yb,Yc];omega) inferInstance) ?_;rintro _ _ ⟨j,rfl,rfl⟩;obtain⟨m,z⟩:=ex ((ns.length*W+7)/8);obtain⟨pre,c⟩:=ex (xs++uv ns.length++ [W]);rw[←z,←c,←Lu];have hpl:pre.length≤1000000011:=by rw[c];simp only[Ya,Yb,Yc];omega
 refine XL j λB=>?_;rw[Ya,gH]at B;refine e_ nck (e_ fla (sto (k:=on_ (qn_ (ws_ (ws_ (wr_ (e_ mv (e_ lnn (e_ mv (on_ (qn_ (wb_ ?_)))))))))))));refine e8 (Nat×(List Nat)) (λy=>y.1≤ns.length∧y.2=leB m (jd W (ns.take y.1))) (λy=>[(69,iN y.1)]) [(0,_),(8,_),(9,_),(67,_),(68,_)] (λy=>[Row j eB (pre++y.2)]) _ (λy=>ns.length-y.1) ((0,leB m 0)) (h0:=?_) (k:=?_)
 ·exact⟨Yl _,rfl⟩
 rintro⟨i,o⟩ ⟨hi,f⟩
 try dsimp only[Yd,Ye]at*
 refine ws_ (wr_ (e_ ilt (on_ (qn_ (ws_ (wi_ (k:=λh6=>?_) (m:=λh6=>?_)))))))
 ·obtain⟨x,hx⟩:=gE ns i;have F:=gh hx;have g:=hl x (Yj hx);have E:=p x (Yj hx);have hol:(pre++o).length=pre.length+m:=by rw[Ya,f,gH]
  have hiW:i*W≤i*40:=V7 _ e;have hi1:(i+1)*W≤ns.length*W:=Vu _ a8;have hi2:(i+1)*W=i*W+W:=by rw[Vy,Nat.one_mul]
  have L:(i:Int)*(W:Int)=((i*W:Nat):Int):=aq;have S:jd W (ns.take i)<2^(i*W):=by
   have:=CD (w:=W) (l:=ns.take i) λy hy=>p y (Yq hy)
   rwa [Yg,Ug hi,V5]at this
  have K:pre.length<j.c∨W=0:=a8;refine wk_ (qn_ (ws_ (wb_ (ws_ (wr_ (e_ mv (e_ ixa (e_ lel (e_ asn (e_ asn (on_ (qn_ (wr_ ?_)))))))))))));rw[f];refine e_ mv (e_ nck (e_ fla (e_ ldv (e_ mv ?_))));refine e_ (fV rfl bH pre.length (pre.length+m) ⟨_,_,rfl,by rw[c]⟩ (by rw[Ya,gH]) a8 (by rw[Ya,gH];exact Xl _)) ?_;refine e_ mv (e_ mv ?_);refine e_ (evq iml (congrArg (Value.int .i64) L)) ?_;refine e_ mv (e_ mv ?_);refine cp_ (vs:=[_,_,_,_]) rfl (ZW (pre:=pre) (m:=m) (N:=jd W (ns.take i)) (a:=i*W) (w:=W) (x:=x) S a8 E g a8 a8 e K) ?_;rw[V5 i W,←EF hx];refine on_ (bn_ (qn_ (wr_ (e_ iad (e_ mv (on_ ?_))))));refine lN ((i+1,leB m (jd W (ns.take (i+1))))) ?_
  exact⟨a8,rfl⟩
 obtain rfl:i=ns.length:=a8;rw[Xn]at f;have t:ff ns=uv ns.length++ [W]++leB m (jd W ns):=by
  rw[ff,if_neg J,←C,Gu,z];simp
 have A:xs++ff ns=pre++o:=by rw[t,c,f];simp
 refine we_ (qe_ (le_ (bh_ (qn_ (ws_ (wr_ (e_ asn (on_ (qn_ (wt_ (rT (k:=?_))))))))))));rw[A];exact⟨_,hsb,rfl,rfl⟩
section
variable {G:dJ}{H:dD}{l:List (Nat×SV)}{nb:Nat}{ps:List Po}{s:SV}
def ePo:Enc (Nat×SV):=⟨λp=>[.int .i64 ((p.1:Nat):Int),p.2.val],2,true,λ_=>rfl,λp v h=>by simp at h;rcases h with rfl|rfl <;> rfl,ae,λh=>aK,ae⟩
instance {p:Nat×SV}:kV ePo p (.agg [.int .i64 ((p.1:Nat):Int),p.2.val].toArray):=⟨rfl⟩
instance {d:Nat}{s:SV}:gP ePo (.agg [.int .i64 ((d:Nat):Int),s.val].toArray) (d,s):=⟨rfl⟩
def su (H:dD) (l:List (Nat×SV)) (ps:List Po):Prop:=l.length=ps.length∧∀(i:Nat) (p:Nat×SV) (q:Po),l[i]? =some p→ps[i]? =some q→p.1=q.1∧Sl H p.2 eI (dT q.2)
theorem su.get (h:su H l ps){i:Nat}(hi:i<l.length):∃s pos,l[i]? =some ((ps.getD i (0, [])).1,s)∧ps[i]? =some ((ps.getD i (0, [])).1,pos)∧Sl H s eI (dT pos):=by
 obtain⟨p,hp⟩:∃p,l[i]? =some p:=⟨_,Yi hi⟩;obtain⟨q,a⟩:∃q,ps[i]? =some q:=⟨_,Yi (by rw[←h.1];exact hi)⟩;obtain⟨h1,h2⟩:=h.2 i p q hp a;rw[Xj,a];exact⟨p.2,q.2,by rw[hp,V4,←h1],rfl,h2⟩
theorem su.cut (h:su H l ps) (a b:Nat):su H ((l.take b).drop a) ((ps.take b).drop a):=by
 refine⟨by simp[h.1],λi p q hp c=>?_⟩;rw[Xh,X3]at hp c
 split at hp
 ·rename_i d;rw[if_pos d]at c;exact h.2 _ p q hp c
 ·cases hp
theorem su.tail {A:Hp}(h:su H l ps):su (A::H) l ps:=⟨h.1,λi p q hp a=>by
 obtain⟨h1,h2⟩:=h.2 i p q hp a;exact⟨h1,Sl.tail⟩⟩
theorem AA {l:List Po}(h:fL l) (i:Nat):fL (l.take i):=⟨by have:=h.1;rw[Yg];omega,λp hp=>h.2 p (Yq hp)⟩
theorem NN {d:Nat}{pos:List Nat} [hs:Sl H s eI (dT pos)] (hd:d≤1000000) (hnb:nb≤d) (c:pos≠ []) (b:tP 0 pos) (hl:pos.length≤100000000):SC G prog 252 [.agg #[iN d,s.val],.int .i64 (((nb:Nat):Int)-1)] H (λv g=>v=.nilIface∧g=H):=by
 have hlen:=eJ pos;have hpos:0<pos.length:=List.length_pos_iff.2 c;refine sWk func252 ?_;refine ws_ (wr_ (bxx (k:=λb2=>?_)));refine e_ asn (on_ (qn_ (ws_ (wb_ (ws_ (wr_ (e_ fla (e_ ldv (e_ ilt (e_ mv (ep 4 16 (k:=λh1=>eg_ fla (eg_ ldv (eg_ ige (e_ pkf (on_ edq))))) (q:=e_ asn (on_ ?_)))))))))))));refine qn_ (wi_ (k:=λh2=>?_) (m:=λh2=>?_))
 ·exact absurd h2 a8
 refine ws_ (wr_ (e_ fla (e_ ldv (e_ mv (e_ ile (e_ asn (on_ (qn_ (wi_ (k:=λh3=>?_) (m:=λh3=>?_))))))))))
 ·exact absurd h3 a8
 refine ws_ (wr_ (e_ fla (e_ ldv (e_ lnn (e_ ieq (e_ asn (on_ (qn_ (wi_ (k:=λh4=>?_) (m:=λh4=>?_))))))))))
 ·exact absurd h4 a8
 refine wk_ (bn_ (qn_ (ws_ (ws_ (wr_ (e_ fla (e_ ldv (e_ lnn (e_ mv (on_ (qn_ (wb_ (e8 Nat (λy=>True) (λy=>[(33,iN y)]) [(2,_),(31,_),(32,_)] (λy=>[]) _ (λy=>pos.length-y) (0) (h0:=?_) (k:=?_))))))))))))))
 ·try dsimp only
  all_goals trivial
 rintro i -
 try dsimp only[Yd,Ye]at*
 refine ws_ (wr_ (e_ ilt (on_ (qn_ (ws_ (wi_ (k:=λh5=>?_) (m:=λh5=>?_)))))))
 ·obtain⟨x,hx⟩:=gE pos i;have a:=gh hx;refine wk_ (qn_ (ws_ (wb_ (ws_ (wr_ (e_ ixa (e_ lel (e_ asn (on_ (qn_ (ws_ (wr_ (e_ mv ?_)))))))))))));refine e_ ilt (on_ (qn_ (wi_ (k:=λh6=>?_) (m:=λh6=>?_))))
  ·exact absurd h6 a8
  refine wk_ (bn_ (qn_ (wr_ (e_ iad (e_ mv (on_ ?_))))));refine lN (i+1) ?_
  try dsimp only
  all_goals trivial
 refine we_ (qe_ (le_ (bh_ (qn_ (ws_ (ws_ (wr_ (e_ asn (on_ (qn_ (wb_ (e8 Nat (λy=>1≤y) (λy=>[(7,iN y)]) [(2,_)] (λy=>[]) _ (λy=>pos.length-y) (1) (h0:=?_) (k:=?_)))))))))))))
 ·exact Xl _
 rintro j hj
 try dsimp only[Yd,Ye]at*
 refine ws_ (ws_ (wr_ (e_ mv (e_ fla (e_ ldv (e_ lnn (e_ ilt (on_ (qn_ (wi_ (k:=λf=>?_) (m:=λf=>?_)))))))))))
 ·obtain⟨x,hx⟩:=gE pos j;obtain⟨y,hy⟩:=gE pos (j-1);have a:=gh hx;have hyi:=gh hy;have e:=rE b hx;rw[if_neg a8,Xj,hy,V4]at e;refine wk_ (qn_ (ws_ (wb_ (ws_ ?_))));refine dX dN (as_ 0 (q:=fla) (k:=as_ 1 (q:=ldv) (k:=as_ 2 (q:=mv) (k:=as_ 3 (q:=ixa) (k:=as_ 4 (q:=lel) (k:=as_ 5 (q:=fla) (k:=as_ 6 (q:=ldv) (k:=as_ 7 (q:=mv) (k:=as_ 8 (q:=isb) (k:=as_ 9 (q:=ixa) (k:=as_ 10 (q:=lel) (k:=as_ 11 (q:=ile) (k:=az_ (k:=?_))))))))))))));refine qn_ (wi_ (k:=λh8=>?_) (m:=λh8=>?_))
  ·exact absurd h8 a8
  refine wk_ (bn_ (qn_ (wr_ (e_ mv (e_ iad (e_ asn (on_ ?_)))))));refine lN (j+1) ?_
  try dsimp only
  omega
 refine we_ (qe_ (le_ (bh_ (qn_ (ws_ (wr_ (e_ asn (on_ (qn_ (wt_ (rT (k:=?_))))))))))));exact⟨_,hsb,rfl,rfl⟩
theorem NJ [hg:Glb G H] [hs:Sl H s ePo l] (hp:su H l ps) (A:j5 nb ps) (hsm:fL ps) (hn:ps.length≤16) (hnb:nb≤1000001):SC G prog 253 [s.val,.int .i64 (((nb:Nat):Int)-1)] H (λv Y=>∃V:SV,v=V.val∧Y=Row V eB (my nb ps)::H):=by
 have hpl:=hp.1;have L:(dT (je nb ps)).length=l.length:=by rw[eJ,iO,hpl]
 have M:(dT (kt ps)).length=l.length:=by rw[eJ,kt,Yh,hpl]
 have hT:∀i,ec (ps.take i)≤1600000000:=λi=>by
  have:=Aq (AA hsm i);rw[Yg]at this;omega
 refine sWk func253 ?_;refine go ?_;refine c0_ rfl iM ?_;rintro _ _ ⟨F,rfl,rfl⟩;refine e_ asn (on_ (qn_ (ru (SV×SV) (λy=>True) (λy=>[(6,y.1.val),(7,y.2.val)]) [6,7,15,16,17,18,19,20] (λy=>[Row y.1 eI (List.replicate l.length (0:Int)),Row y.2 eI (List.replicate l.length (0:Int))]) (Wr F []::H) ?_ ?_)))
 ·refine wD [2,5] (λk H=>(k=1→Sl H s ePo l)∧(k=4→Sl H s ePo l)) (aF 0 (k:=?_));refine aN 1 rfl (λH hH=>by have hN:=hH.1 rfl;exact lnn) ?_;refine aF 3 (k:=?_);refine aN 4 rfl (λH hH=>by have hN:=hH.2 rfl;exact lnn) ?_;refine Bw 2 5 rfl rfl aa rfl rfl (λk hk=>⟨λhi=>bm,λhi=>bm⟩) (gn eI 0 rfl rfl _ _ rfl rfl rfl a8 a8 a8) (gn eI 0 rfl rfl _ _ rfl rfl rfl a8 a8 a8) ?_ ?_
  ·rintro _ _ ⟨f,rfl,t,u,rfl⟩;refine aF 6 (k:=?_);refine aS 5 rfl (gn eI 0 rfl rfl _ _ rfl rfl rfl a8 a8 a8) ?_;rintro _ _ ⟨e,rfl,n,r,rfl⟩;refine gk (k:=aZ (jnE ((f,e)) (q:=?_)));trivial
  rintro _ _ ⟨e,rfl,n,r,rfl⟩;refine aS 2 rfl (gn eI 0 rfl rfl _ _ rfl rfl rfl a8 a8 a8) ?_;rintro _ _ ⟨f,rfl,t,u,rfl⟩;refine gk (k:=aZ (jnE ((f,e)) (q:=?_)));trivial
 rintro⟨f,e⟩ -
 try dsimp only[Yd,Ye]at*
 refine ws_ (ws_ (wr_ ?_));rw[show Row f eI (List.replicate l.length (0:Int))=Row f eI (gx (dT (je nb ps)) 0 0)from by rw[mW,L],show Row e eI (List.replicate l.length (0:Int))=Row e eI (gx (dT (kt ps)) 0 0)from by rw[mW,M]];refine gk (k:=e8 Nat (λy=>y≤l.length) (λy=>[(1,.int .i64 (((fB nb (ps.take y):Nat):Int)-1)),(23,iN y)]) [(0,_),(5,_),(6,_),(7,_),(21,_),(22,_)] (λy=>[Row f eI (gx (dT (je nb ps)) 0 y),Row e eI (gx (dT (kt ps)) 0 y)]) _ (λy=>l.length-y) (0) (h0:=?_) (k:=?_))
 ·exact Yl _
 rintro i hi
 try dsimp only[Yd,Ye]at*
 refine gW (λh1=>?_) λh1=>?_
 ·obtain⟨X,pos,B,a,R⟩:=hp.get (i:=i) a8;generalize (ps.getD i (0, [])).1=d at B a;have E:=(jP A a).1;have K:=(jP A a).2.1;have hpos:0<pos.length:=List.length_pos_iff.2 K;have c:=hsm.2 _ (Yj a);simp only at E c K;have w:=eJ pos;have hg1:(dT (je nb ps))[i]? =some ((d-fB nb (ps.take i):Nat):Int):=gh (vk a);have S:(dT (kt ps))[i]? =some ((pos.length-1:Nat):Int):=gh (by rw[kt,Xd,a];all_goals rfl);have hl1:=kG (z:=(0:Int)) (full:=dT (je nb ps)) (i:=i) a8;have hl2:=kG (z:=(0:Int)) (full:=dT (kt ps)) (i:=i) a8;refine gk (k:=alc (k:=λb9=>?_));refine e_ asn (sto (k:=on_ (qn_ (ws_ (wr_ (e_ mv (e_ mv (e_ fla (e_ ldv (e_ mv (e_ isb ?_)))))))))));refine e_ (evq isb (congrArg (Value.int .i64) (show _=((d-fB nb (ps.take i):Nat):Int)from a8))) (go ?_);refine s_ (et (i:=i) rfl rfl rfl a8) ?_;rintro _ _ ⟨rfl,rfl⟩;refine on_ (qn_ (ws_ (wr_ (e_ fla (e_ ldv (e_ asn (on_ (qn_ (wr_ (e_ mv (e_ mv (e_ fla (e_ ldv ?_)))))))))))));refine e_ lnn ?_;refine e_ (evq isb (congrArg (Value.int .i64) (show _=((pos.length-1:Nat):Int)from a8))) (go ?_);refine s_ (et (i:=i) rfl rfl rfl a8) ?_;rintro _ _ ⟨rfl,rfl⟩;refine on_ (bn_ (qn_ (wr_ ?_)));rw[oT hg1,oT S];have C:fB nb (ps.take (i+1))=d+1:=sV a;have T:(d:Int)=((fB nb (ps.take (i+1)):Nat):Int)-1:=by rw[C];omega
  rw[T];refine go ?_;refine lN (i+1) ?_
  try dsimp only
  omega
 obtain rfl:i=l.length:=a8;rw[show gx (dT (je nb ps)) 0 l.length=dT (je nb ps)from by rw[←L,nu],show gx (dT (kt ps)) 0 l.length=dT (kt ps)from by rw[←M,nu]];refine go ?_;refine d2_ rfl (Av aq cI (λx hx=>bB) (λ_=>cI)) (go ?_);refine d2_ rfl (Av (by have:=kY (ns:=je nb ps) (λx hx=>bB) cI;rw[iO]at this;simp only[Ya,Yc];omega) bX (λx hx=>cr) (λ_=>bX)) (on_ (qn_ (ws_ (ws_ (wr_ ?_)))));obtain⟨b,h⟩:=ex ([]++ff (je nb ps)++ff (kt ps));have hprl:b.length≤1000:=by
  have h1:=kY (ns:=je nb ps) (λx hx=>bB) cI;have h2:=kY (ns:=kt ps) (λx hx=>cr) bX;rw[iO]at h1;rw[show(kt ps).length=ps.length from by rw[kt,Yh]]at h2;rw[h];simp only[Ya,Yc];omega
 rw[←h,show Wr F b=Wr F (b++fP (ps.take 0))from by simp[fP]];refine gk (k:=e8 Nat (λy=>y≤l.length) (λy=>[(54,iN y)]) [(5,_),(52,_),(53,_)] (λy=>[Wr F (b++fP (ps.take y))]) _ (λy=>l.length-y) (0) (h0:=?_) (k:=?_))
 ·exact Yl _
 rintro i hi
 try dsimp only[Yd,Ye]at*
 refine gW (λh2=>?_) λh2=>?_
 ·obtain⟨X,pos,B,a,R⟩:=hp.get (i:=i) a8;generalize (ps.getD i (0, [])).1=d at B a;have m:=(jP A a).2.2;have c:=hsm.2 _ (Yj a);simp only at c m;have w:=eJ pos;have hTi:=hT i;have htl:=sN (l:=ps.take i) (λp hp=>(hsm.2 p (Yq hp)).2.2);refine gk (k:=alc (k:=λb11=>?_));refine sto (k:=on_ (qn_ (ws_ (wr_ (e_ fla (e_ ldv (e_ lnn ?_)))))));rw[show Wr F (b++fP (ps.take i))=Wr F (b++fP (ps.take i)++gU 0 (pos.take 0))from by simp[gU]];refine gk (k:=e8 Nat (λy=>y≤pos.length) (λy=>[(61,iN y)]) [(5,_),(11,_),(52,_),(53,_),(54,_),(59,_),(60,_)] (λy=>[Wr F (b++fP (ps.take i)++gU 0 (pos.take y))]) _ (λy=>pos.length-y) (0) (h0:=?_) (k:=?_))
  ·exact Yl _
  rintro j hj
  try dsimp only[Yd,Ye]at*
  refine gW (λh3=>?_) λh3=>?_
  ·obtain⟨x,hx⟩:=gE pos j;have hxi:=gh hx;have hxl:=c.2.2 x (Yj hx);have E:=rE m hx;have g:=pB (nb:=0) hx;have J:=uJ (l:=pos.take j) (nb:=0) (λy hy=>c.2.2 y (Yq hy));rw[Yg]at J;refine go ?_;refine gW (λh4=>?_) λh4=>?_
   ·obtain⟨y,hy⟩:=gE pos (j-1);have hyi:=gh hy;rw[if_neg a8,Xj,hy,V4]at E g;refine wr_ (e_ mv (e_ fla (e_ ldv (e_ mv (e_ isb (e_ ixa (e_ lel (e_ iad ?_))))))));refine e_ (evq isb (congrArg (Value.int .i64) (show _=((x-(y+1):Nat):Int)from a8))) ?_;refine e_ asn (on_ (qn_ (wr_ (e_ mv (e_ mv ?_)))));refine e_ ((ad)) ?_;refine d2_ rfl (gl _ a8 aj) ?_;rw[Yf (b++fP (ps.take i)),←g];refine go ?_;refine lN (j+1) ?_
    try dsimp only
    omega
   rw[if_pos a8,R8]at g;refine wk_ (qn_ (wr_ (e_ mv (e_ mv ?_))));refine e_ ((ad)) ?_;refine d2_ rfl (gl _ a8 aj) ?_;rw[Yf (b++fP (ps.take i)),←g];refine go ?_;refine lN (j+1) ?_
   try dsimp only
   omega
  obtain rfl:j=pos.length:=a8;rw[Xn,Yf,show fP (ps.take i)++gU 0 pos=fP (ps.take (i+1))from(vI a).symm];refine go ?_;refine lN (i+1) ?_
  try dsimp only
  omega
 obtain rfl:i=l.length:=a8;rw[show ps.take l.length=ps from by rw[hpl,Xn],show b++fP ps=my nb ps from by rw[h];all_goals rfl];have hbl:=uy (nb:=nb) hsm;have U:=hT 16;rw[Xr a8]at U;refine go ?_;refine c1_ rfl (kK a8) ?_;rintro _ _ ⟨N,rfl,rfl⟩;refine gR ?_;exact⟨_,hsb,N,rfl,rfl⟩
end
section
variable {G:dJ}{H:dD}{i:Nat}{l:List SV}{x:List Nat}{xs:List (List Nat)}
def By (H:dD) (l:List SV) (xs:List (List Nat)):Prop:=l.length=xs.length∧∀(i:Nat) (s:SV) (x:List Nat),l[i]? =some s→xs[i]? =some x→Sl H s eB x
theorem By.get (h:By H l xs) (hi:i<l.length):∃s x,l[i]? =some s∧xs[i]? =some x∧Sl H s eB x:=by
 obtain⟨p,hp⟩:∃p,l[i]? =some p:=⟨_,Yi hi⟩;obtain⟨q,a⟩:∃q,xs[i]? =some q:=⟨_,Yi (by rw[←h.1];exact hi)⟩;exact⟨p,q,hp,a,h.2 i p q hp a⟩
theorem By.two {s u:SV}{y:List Nat} [h1:Sl H s eB x] [h2:Sl H u eB y]:By H [s,u] [x,y]:=⟨rfl,λi p q hp a=>by
 match i,hp,a with
 | 0,hp,a=>simp at hp a;subst hp;subst a;exact h1
 | 1,hp,a=>simp at hp a;subst hp;subst a;exact h2⟩
theorem BQ {α:Type}(l:List α) (a b:Nat):(l.take (min b l.length)).drop a=(l.take b).drop a:=by
 rw[←List.take_eq_take_min]
theorem Gy:∀{l:List Po}{nb:Nat},j5 nb l→∀p∈l,nb≤p.1
 | [],_,_,p,hp=>by simp at hp
 |q::r,nb,h,p,hp=>by
  rcases Xo.1 hp with rfl|hp
  ·exact h.1
  ·have:=Gy h.2.2.2 p hp;have:=h.1;omega
theorem By.tail {A:Hp}(h:By H l xs):By (A::H) l xs:=⟨h.1,λi s x h1 h2=>by have:=h.2 i s x h1 h2;exact Sl.tail⟩
theorem vl (h:xs[i]? =some x):(xs.take (i+1)).flatten=(xs.take i).flatten++x:=by
 rw[dK h];simp
theorem B8 (xs:List (List Nat)) (i:Nat):(xs.take i).flatten.length≤xs.flatten.length:=by
 conv=>rhs;rw[←Vd i xs,List.flatten_append,Ya]
 omega
theorem II (h:xs[i]? =some x):(gx xs.flatten 0 (xs.take i).flatten.length).take (xs.take i).flatten.length++x.take x.length++(gx xs.flatten 0 (xs.take i).flatten.length).drop ((xs.take i).flatten.length+x.length)=gx xs.flatten 0 (xs.take (i+1)).flatten.length:=by
 have b:=B8 xs (i+1);have a:=vl h;rw[a,Ya]at b;have e:xs.flatten=(xs.take i).flatten++(x++(xs.drop (i+1)).flatten):=by
  rw[←Yf,←a,←List.flatten_append,Vd]
 have h1:xs.flatten.take (xs.take i).flatten.length=(xs.take i).flatten:=by
  conv=>lhs;rw[e]
  exact T9 ..
 have h2:xs.flatten.take (xs.take (i+1)).flatten.length=(xs.take i).flatten++x:=by
  conv=>lhs;rw[e,←Yf,←a]
  rw[T9,a]
 rw[gx,gx,h1,h2,a,Ya,T9,Xn,List.drop_append,Vn a8,List.drop_replicate];simp only[Ye,Q4];rw[show xs.flatten.length-(xs.take i).flatten.length-x.length=xs.flatten.length-((xs.take i).flatten.length+x.length)from a8]
theorem Qf {p:SV} [hs:Sl H p eSV l] (hl:By H l xs) (hm:xs.length≤1000000000) (hn:xs.flatten.length≤1000000000000):SC G prog 136 [p.val] H (λv r=>∃q:SV,v=q.val∧r=Row q eB xs.flatten::H):=by
 have g:=hl.1;refine sWk func136 ?_;refine go ?_;refine gk (k:=e8 Nat (λy=>y≤l.length) (λy=>[(3,iN ((xs.take y).flatten.length)),(12,iN y)]) [(0,_),(10,_),(11,_)] (λy=>[]) _ (λy=>l.length-y) (0) (h0:=?_) (k:=?_))
 ·exact Yl _
 rintro i hi
 try dsimp only[Yd,Ye]at*
 refine gW (λh1=>?_) λh1=>?_
 ·obtain⟨s,x,j,e,h⟩:=hl.get (i:=i) a8;have c:=vl e;have f:=B8 xs (i+1);rw[c,Ya]at f;refine wk_ (qn_ (ws_ (wb_ (ws_ (wr_ (e_ ixa (e_ lel (e_ asn (on_ (qn_ (wr_ (e_ mv (e_ mv ?_)))))))))))));refine e_ lnn (e_ iad (e_ asn (on_ (bn_ (qn_ (wr_ ?_))))));rw[show(((xs.take i).flatten.length:Nat):Int)+(x.length:Int)=(((xs.take (i+1)).flatten.length:Nat):Int)from by rw[c,Ya];omega];refine go ?_;refine lN (i+1) ?_
  try dsimp only
  omega
 obtain rfl:i=l.length:=a8;rw[show xs.take l.length=xs from by rw[g,Xn]];refine go ?_;refine s_ (gn eB 0 rfl rfl _ _ rfl rfl rfl a8 a8 a8) ?_;rintro _ _ ⟨d,rfl,hs22n,hs22c,rfl⟩;refine e_ asn (on_ (qn_ (ws_ (wr_ ?_))));rw[show Row d eB (List.replicate xs.flatten.length 0)=Row d eB (gx xs.flatten 0 (xs.take 0).flatten.length)from by simp[gx]];refine gk (k:=e8 Nat (λy=>y≤l.length) (λy=>[(7,iN ((xs.take y).flatten.length)),(25,iN y)]) [(6,_),(23,_),(24,_)] (λy=>[Row d eB (gx xs.flatten 0 (xs.take y).flatten.length)]) _ (λy=>l.length-y) (0) (h0:=?_) (k:=?_))
 ·exact Yl _
 rintro i hi
 try dsimp only[Yd,Ye]at*
 refine gW (λh2=>?_) λh2=>?_
 ·obtain⟨s,x,j,e,h⟩:=hl.get (i:=i) a8;have c:=vl e;have f:=B8 xs (i+1);have n:=II e;rw[c,Ya]at f;have m:=kG (full:=xs.flatten) (z:=0) (i:=(xs.take i).flatten.length) a8;refine wk_ (qn_ (ws_ (wb_ (ws_ (wr_ (e_ ixa (e_ lel (e_ asn (on_ (qn_ (wr_ (e_ mv (e_ mv ?_)))))))))))));refine e_ mv ?_;refine e_ (fV rfl bH (xs.take i).flatten.length xs.flatten.length ⟨_,_,rfl,rfl⟩ (by rw[m]) a8 a8) (go ?_);refine s_ (Gd (a:=(xs.take i).flatten.length) (b:=xs.flatten.length) rfl rfl bH a8 a8 x.length a8) ?_;rintro _ _ ⟨rfl,rfl⟩;rw[n];refine e_ iad (e_ asn (on_ (bn_ (qn_ (wr_ ?_)))));rw[show(((xs.take i).flatten.length:Nat):Int)+(x.length:Int)=(((xs.take (i+1)).flatten.length:Nat):Int)from by rw[c,Ya];omega];refine go ?_;refine lN (i+1) ?_
  try dsimp only
  omega
 obtain rfl:i=l.length:=a8;rw[show xs.take l.length=xs from by rw[g,Xn],nu];refine gR ?_;exact⟨_,hsb,d,rfl,rfl⟩
theorem Sg {s:SV}{l:List (Nat×SV)}{ps:List Po} [hg:Glb G H] [hs:Sl H s ePo l] (hp:su H l ps) (f:j5 0 ps) (hsm:fL ps) (ht:ec ps≤1000000000):SC G prog 216 [s.val] H (λv V=>∃S:SV,v=.tuple #[S.val,.nilIface]∧V=Row S eB (eO ps)::H):=by
 have hpl:=hp.1;have hT:∀i,ec (ps.take i)≤ec ps:=λi=>by
  conv=>rhs;rw[←Vd i ps,m6]
  omega
 have hpn:=hsm.1;refine sWk func216 ?_;refine go ?_;refine gk (k:=e8 Nat (λy=>y≤l.length) (λy=>[(4,.int .i64 (((fB 0 (ps.take y):Nat):Int)-1)),(5,iN (ec (ps.take y))),(18,iN y)]) [(0,_),(16,_),(17,_)] (λy=>[]) _ (λy=>l.length-y) (0) (h0:=?_) (k:=?_))
 ·exact Yl _
 rintro i hi
 try dsimp only[Yd,Ye]at*
 refine gW (λh1=>?_) λh1=>?_
 ·obtain⟨sp,pos,J,e,hsl⟩:=hp.get (i:=i) a8;generalize (ps.getD i (0, [])).1=d at J e;obtain⟨A,z,j⟩:=jP f e;have b:=hsm.2 _ (Yj e);simp only at A b z j;have hposl:=eJ pos;have u:=ry e;have hTi:=hT (i+1);simp only at u;refine gk (k:=alc (k:=λb7=>?_));refine go ?_;refine d2_ rfl (NN b.1 A z j b.2.1) (e_ asn (on_ (qn_ (ws_ (wr_ (e_ mv ?_))))));refine e_ (dL rfl) ?_;refine on_ (qn_ (fM (k:=wk_ (qn_ (ws_ (wr_ (e_ fla (e_ ldv (e_ asn (on_ (qn_ (wr_ (e_ mv ?_)))))))))))));refine e_ fla (e_ ldv (e_ lnn (e_ iad (e_ asn (on_ (bn_ (qn_ (wr_ ?_))))))));have m:fB 0 (ps.take (i+1))=d+1:=sV e;rw[show(d:Int)=((fB 0 (ps.take (i+1)):Nat):Int)-1 from by rw[m];omega,show((ec (ps.take i):Nat):Int)+(((dT pos).length:Nat):Int)=((ec (ps.take (i+1)):Nat):Int)from a8];refine go ?_;refine lN (i+1) ?_
  try dsimp only
  omega
 obtain rfl:i=l.length:=a8;rw[show ps.take l.length=ps from by rw[hpl,Xn]];refine go ?_;refine c0_ rfl iM ?_;rintro _ _ ⟨N,rfl,rfl⟩;refine c0_ rfl iM ?_;rintro _ _ ⟨R,rfl,rfl⟩;refine e_ asn (e_ asn (on_ (qn_ (ws_ (wr_ (e_ mv (e_ mv (e_ lnn ?_))))))));refine e_ ((ad)) ?_;refine d2_ rfl (gl l.length a8 aq) (on_ (qn_ (ws_ (wr_ (e_ mv (e_ mv ?_))))));refine e_ ((ad)) ?_;refine d2_ rfl (gl _ a8 (by have:=gb (n:=l.length) (k:=6) a8 a8;simp only[Ya,Yc];omega)) (on_ (qn_ (ws_ (wr_ ?_))));obtain⟨hd,r⟩:=ex ([]++uv l.length++uv (ec ps));have hhl:hd.length≤12:=by
  have h1:=gb (n:=l.length) (k:=6) a8 a8;have h2:=gb (n:=ec ps) (k:=6) a8 a8;rw[r];simp only[Ya,Yc];omega
 rw[←r,show Wr N hd=Wr N (hd++(dP ps 0).2.1)from by simp[dP],show Wr R []=Wr R (dP ps 0).2.2 from rfl];have B:=kO hsm;have hbk:16*eC ps≤ps.length+15:=cR;refine gk (k:=e8 Nat (λy=>y≤eC ps) (λy=>[(11,.int .i64 ((((dP ps y).1:Nat):Int)-1)),(12,iN (16*y))]) [(0,_),(9,_),(10,_)] (λy=>[Wr N (hd++(dP ps y).2.1),Wr R (dP ps y).2.2]) _ (λy=>eC ps-y) (0) (h0:=?_) (k:=?_))
 ·exact Yl _
 rintro k hk
 try dsimp only[Yd,Ye]at*
 refine gW (λh2=>?_) λh2=>?_
 ·have hlt:16*k<ps.length:=by omega
  have hkb:k<eC ps:=cR;obtain⟨M,C,L⟩:=B k;have u:=hT (16*k);have hlk:(ps.take (16*k)).length≤ps.length:=az;have g:=pb ps k;have t:=p9 hsm k;have hbT:ec (ei ps k)≤ec ps:=by
   have:=hT (16*(k+1));rw[←lQ,m6]at this;omega
  have hbl:=uy (nb:=(dP ps k).1) t;have a:=hp.cut (16*k) (16*k+16);rw[show(ps.take (16*k+16)).drop (16*k)=ei ps k from rfl]at a;have K:=a.1;obtain⟨q,E⟩:∃q,(ei ps k).getLast? =some q:=by
   rcases X4 (ei ps k)with h|⟨c,q,h⟩
   ·rw[h]at g;simp at g;omega
   ·exact⟨q,by rw[h];simp⟩
  have hql:fB (dP ps k).1 (ei ps k)=q.1+1:=by rw[fB,E]
  have w:(ei ps k)[(ei ps k).length-1]? =some q:=by rw[←List.getLast?_eq_getElem?];exact E
  obtain⟨T,x⟩:∃p,((l.take (16*k+16)).drop (16*k))[((l.take (16*k+16)).drop (16*k)).length-1]? =some p:=⟨_,Yi a8⟩;have hpq:=(a.2 _ _ _ x (by rw[K];exact w)).1;have hqs:=(t.2 q (Q0 E)).1;have hqge:(dP ps k).1≤q.1:=by
   have:=(jP (nF f k) w).1;have h0:=jP (nF f k) (i:=0) (Yi a8);exact Gy (nF f k) q (Q0 E)
  refine wk_ (qn_ (ws_ (wb_ (ws_ (wr_ (e_ mv (e_ mv (e_ mv (e_ iad (e_ mv (e_ lnn ?_)))))))))));refine e_ (oh rfl rfl) ?_;refine kJ H rfl (16*k) (min (16*k+16) l.length) ⟨_,_,rfl,(aT)⟩ ⟨_,_,rfl,(aT)⟩ a8 aP rfl (λsb U=>?_);rw[BQ]at U;refine go ?_;refine c2_ rfl (NJ a.tail.tail (nF f k) t a8 a8) ?_;rintro _ _ ⟨s63,rfl,rfl⟩;refine e_ asn (on_ (qn_ (ws_ (wr_ (e_ mv (e_ mv (e_ lnn (e_ isb (e_ (ixa (i:=((l.take (16*k+16)).drop (16*k)).length-1)) (e_ fle (e_ lfl (e_ asn (on_ ?_)))))))))))));refine qn_ (ws_ (wr_ (e_ mv (e_ mv (e_ mv (e_ isb ?_))))));refine e_ (evq isb (congrArg (Value.int .i64) (show _=((fB (dP ps k).1 (ei ps k)-1-(dP ps k).1:Nat):Int)from a8))) ?_;refine e_ ((ad)) ?_;refine d2_ rfl (gl _ a8 aj) ?_;have hu1:=gb (n:=fB (dP ps k).1 (ei ps k)-1-(dP ps k).1) (k:=6) a8 a8;refine on_ (qn_ (ws_ (wr_ (e_ mv (e_ mv (e_ lnn ?_))))));refine e_ ((ad)) ?_;refine d2_ rfl (gl _ a8 aj) (go ?_);refine d2_ rfl (Eb a8 a8) (on_ (qn_ (wr_ (e_ mv (e_ asn (on_ (bn_ (qn_ (wr_ ?_)))))))));rw[show hd++(dP ps k).2.1++uv (fB (dP ps k).1 (ei ps k)-1-(dP ps k).1)++uv (my (dP ps k).1 (ei ps k)).length=hd++(dP ps (k+1)).2.1 from by simp[dP],show(dP ps k).2.2++my (dP ps k).1 (ei ps k)=(dP ps (k+1)).2.2 from rfl];rw[show(T.1:Int)=(((dP ps (k+1)).1:Nat):Int)-1 from by rw[show(dP ps (k+1)).1=fB (dP ps k).1 (ei ps k)from rfl];omega,show((16*k:Nat):Int)+16=((16*(k+1):Nat):Int)from a8];refine go ?_;refine lN (k+1) ?_
  try dsimp only
  omega
 obtain rfl:k=eC ps:=by unfold eC at*;omega
 obtain⟨M,C,L⟩:=B (eC ps);rw[qi]at C;refine go ?_;refine c1_ rfl (kK aj) ?_;rintro _ _ ⟨s88,rfl,rfl⟩;refine go ?_;refine c1_ rfl (kK a8) ?_;rintro _ _ ⟨s90,rfl,rfl⟩;refine s_ (HY eSV rfl rfl rfl) ?_;rintro _ _ ⟨s91,rfl,rfl⟩;refine c1_ rfl (Qf (xs:= [hd++(dP ps (eC ps)).2.1,(dP ps (eC ps)).2.2]) By.two aq aQ) ?_;rintro _ _ ⟨F,rfl,rfl⟩;rw[show [hd++(dP ps (eC ps)).2.1,(dP ps (eC ps)).2.2].flatten=eO ps from by rw[r,hpl];simp[eO]];refine gR ?_;exact⟨_,hsb,F,rfl,rfl⟩
end
def eSk:Enc (Nat×Nat×Nat×Nat):=⟨λp=>[.int .i64 ((p.1:Nat):Int),.int .i64 ((p.2.1:Nat):Int),.int .i64 ((p.2.2.1:Nat):Int),.int .i64 ((p.2.2.2:Nat):Int)],4,true,λ_=>rfl,λp v h=>by simp at h;rcases h with rfl|rfl|rfl|rfl <;> rfl,ae,λh=>aK,ae⟩
instance {p:Nat×Nat×Nat×Nat}:kV eSk p (.agg [.int .i64 ((p.1:Nat):Int),.int .i64 ((p.2.1:Nat):Int),.int .i64 ((p.2.2.1:Nat):Int),.int .i64 ((p.2.2.2:Nat):Int)].toArray):=⟨rfl⟩
section
variable {G:dJ}{H:dD}
def eEn:Enc En:=⟨λe=>[.string e.key,.int .i64 ((e.docs:Nat):Int),.int .i64 ((e.tot:Nat):Int),.int .i64 ((e.at_:Nat):Int),.int .i64 ((e.size:Nat):Int)],5,true,λ_=>rfl,λp v h=>by simp at h;rcases h with rfl|rfl|rfl|rfl|rfl <;> rfl,ae,λh=>aK,ae⟩
instance {e:En}:kV eEn e (.agg [.string e.key,.int .i64 ((e.docs:Nat):Int),.int .i64 ((e.tot:Nat):Int),.int .i64 ((e.at_:Nat):Int),.int .i64 ((e.size:Nat):Int)].toArray):=⟨rfl⟩
instance {s:ByteArray}{a b c d:Nat}:gP eEn (.agg [.string s,.int .i64 ((a:Nat):Int),.int .i64 ((b:Nat):Int),.int .i64 ((c:Nat):Int),.int .i64 ((d:Nat):Int)].toArray) ⟨s,a,b,c,d⟩:=⟨rfl⟩
def jG (e:En):List Nat:= [e.docs,e.tot,e.at_,e.size]
def L8 (e:En):List Value:=(jG e).map λn=>Value.int .i64 ((n:Nat):Int)
theorem zp {e:En}{i x:Nat}(h:(jG e)[i]? =some x):(L8 e)[i]? =some (iN x):=by rw[L8,Xd,h];all_goals rfl
theorem QF {s:ByteArray}{a b c d:Nat}:SC G prog 254 [.agg #[.string s,iN a,iN b,iN c,iN d]] H (λv e=>v=.agg (L8 ⟨s,a,b,c,d⟩).toArray∧e=H):=by
 refine sWk func254 ?_;refine gk (k:=bxx (k:=λb1=>?_));refine alc (k:=λb2=>?_);refine on_ (qn_ (ws_ (wr_ (e_ fla (e_ ldv (e_ fla (e_ ldv (e_ fla (e_ ldv (e_ fla (e_ ldv ?_)))))))))));refine e_ (zM [iN a,iN b,iN c,iN d] rfl rfl) ?_;exact gZ
theorem FY {a b:ByteArray}(ha:a.size≤1000000000000) (hb:b.size≤1000000000000):SC G prog 259 [.string a,.string b] H (λv d=>v=iN (eY (dC a) (dC b))∧d=H):=by
 have hal:=dI a;have hbl:=dI b;refine sWk func259 ?_;refine gk (k:=e8 Nat (λy=>y≤a.size∧y≤b.size∧∀j,j<y→at0 (dC a) j=at0 (dC b) j) (λy=>[(5,iN y)]) [(0,_),(1,_)] (λy=>[]) _ (λy=>a.size-y) (0) (h0:=?_) (k:=?_))
 ·exact⟨Yl _,Yl _,λj h=>a8⟩
 rintro k ⟨hk1,hk2,hkj⟩
 try dsimp only[Yd,Ye]at*
 refine go ?_;refine dX dN (as_ 0 (q:=mv) (k:=as_ 1 (q:=mv) (k:=as_ 2 (q:=xO) (k:=as_ 3 (q:=ilt) (k:=?_)))));refine fH 4 rfl rfl aa rfl (ey mv) (λh1=>?_) (λh1=>?_)
 ·replace h1:=nrm h1;refine at2 5 (q:=mv) (k:=at2 6 (q:=mv) (k:=at2 7 (q:=xO) (k:=at2 8 (q:=ilt) (k:=as_ 9 (q:=pkt) (k:=?_)))));refine fH 10 rfl rfl aa rfl (ey mv) (λh2=>?_) (λh2=>?_)
  ·replace h2:=nrm h2;refine gW (λh3=>?_) λh3=>?_
   ·have c:∀j,j<k+1→at0 (dC a) j=at0 (dC b) j:=λj hj=>by
     by_cases h9:j<k
     ·exact hkj j h9
     ·obtain rfl:j=k:=by omega
      omega
    refine go ?_;refine lN (k+1) ?_
    exact⟨a8,a8,c⟩
   have hend:k=(dC a).length∨k=(dC b).length∨at0 (dC a) k≠at0 (dC b) k:=.inr (.inr a8);refine gR ?_;exact⟨_,hsb,cJ,rfl⟩
  replace h2:=nrm h2;have hend:k=(dC a).length∨k=(dC b).length∨at0 (dC a) k≠at0 (dC b) k:=.inr (.inl a8);refine gk (k:=fM (k:=go ?_));refine gR ?_;exact⟨_,hsb,cJ,rfl⟩
 replace h1:=nrm h1;have hend:k=(dC a).length∨k=(dC b).length∨at0 (dC a) k≠at0 (dC b) k:=.inl a8;refine go ?_;refine gk (k:=fM (k:=go ?_));refine gR ?_;exact⟨_,hsb,cJ,rfl⟩
theorem O0 {s:SV}{l:List En} [hs:Sl H s eEn l] (hl:l.length≤16) (hsm:lV l):SC G prog 255 [s.val] H (λv F=>∃A:SV,v=A.val∧F=Row A eB (fe [] l)::H):=by
 refine sWk func255 ?_;refine go ?_;refine c0_ rfl iM ?_;rintro _ _ ⟨d,rfl,rfl⟩;refine e_ asn (on_ (qn_ (ws_ (wr_ (e_ asn (on_ (qn_ (ws_ (ws_ (wr_ ?_))))))))));rw[show Wr d []=Wr d (fe [] (l.take 0))from rfl];refine gk (k:=e8 (Nat×ByteArray) (λy=>y.1≤l.length∧dC y.2=nk [] (l.take y.1)∧y.2.size≤1000) (λy=>[(4,.string y.2),(13,iN y.1)]) [(3,_),(11,_),(12,_)] (λy=>[Wr d (fe [] (l.take y.1))]) _ (λy=>l.length-y.1) ((0,⟨#[]⟩)) (h0:=?_) (k:=?_))
 ·exact⟨Yl _,rfl,Yl _⟩
 rintro⟨i,q⟩ ⟨hi,E,hqs⟩
 try dsimp only[Yd,Ye]at*
 refine gW (λh1=>?_) λh1=>?_
 ·obtain⟨e,he⟩:=gE l i;have t:=hsm e (Yj he);have hsh:=n6 (dC q) (dC e.key);have u:=dI e.key;have hpl:=oW (p:= []) (AB hsm i);rw[Yg]at hpl;have hen:=Di (prev:=dC q) t;obtain⟨f,b⟩:=ex (fe [] (l.take i));rw[←b];rw[←b]at hpl;have hu1:=gb (n:=eY (dC q) (dC e.key)) (k:=6) a8 a8;have hu2:=gb (n:=(dC e.key).length-eY (dC q) (dC e.key)) (k:=6) a8 a8;refine gk (k:=alc (k:=λb6=>?_));refine go ?_;refine d2_ rfl (FY a8 a8) (e_ asn (on_ (qn_ (ws_ (wr_ (e_ mv (e_ mv ?_)))))));refine e_ ((ad)) ?_;refine d2_ rfl (gl _ a8 a8) (on_ (qn_ (ws_ (wr_ (e_ mv (e_ fla (e_ ldv (e_ mv (e_ (I0 (a:=eY (dC q) (dC e.key))) ?_)))))))));refine d2_ rfl (Jj _ aj (by rw[ByteArray.size_extract];omega)) ?_;rw[show uv (e.key.extract (eY (dC q) (dC e.key)) e.key.size).size++dC (e.key.extract (eY (dC q) (dC e.key)) e.key.size)=uv ((dC e.key).length-eY (dC q) (dC e.key))++(dC e.key).drop (eY (dC q) (dC e.key))from by rw[vB,ByteArray.size_extract,u,Nat.min_self]];obtain⟨g,c⟩:=ex (f++uv (eY (dC q) (dC e.key))++(uv ((dC e.key).length-eY (dC q) (dC e.key))++(dC e.key).drop (eY (dC q) (dC e.key))));have hp2l:g.length≤f.length+1100:=by rw[c];simp only[Ya,Yo];omega
  rw[←c];refine go ?_;refine d1_ rfl QF ?_;rw[show Wr d g=Wr d (g++((jG e).take 0).flatMap uv)from aq];refine gk (k:=e8 Nat (λy=>y≤4) (λy=>[(33,iN y)]) [(3,_),(6,_),(11,_),(12,_),(13,_),(32,_)] (λy=>[Wr d (g++((jG e).take y).flatMap uv)]) _ (λy=>4-y) (0) (h0:=?_) (k:=?_))
  ·exact Yl _
  rintro m hm
  try dsimp only[Yd,Ye]at*
  refine gW (λh2=>?_) λh2=>?_
  ·obtain⟨x,hx⟩:∃x,(jG e)[m]? =some x:=⟨_,Yi (by show _<4;omega)⟩;have r:=zp hx;have hxl:x<1099511627776:=by
    have:=Yj hx;simp only[jG,Xo,S9,or_false]at this;rcases this with rfl|rfl|rfl|rfl <;> omega
   have h:((jG e).take (m+1)).flatMap uv=((jG e).take m).flatMap uv++uv x:=by rw[dK hx];simp
   have hfl:(((jG e).take m).flatMap uv).length≤24:=by
    have h4:∀y∈jG e,(uv y).length≤6:=λy hy=>by
     simp only[jG,Xo,S9,or_false]at hy;rcases hy with rfl|rfl|rfl|rfl <;> exact gb a8 a8
    have h5:∀z:List Nat,(∀y∈z,(uv y).length≤6)→(z.flatMap uv).length≤6*z.length:=by
     intro z
     induction z with
     |nil=>intro _;simp
     |cons y z ih=>intro B;have:=ih (λw C=>B w (Xa _ C));have:=B y aq;simp only[Vx,Ya,Yb];omega
    have:=h5 ((jG e).take m) (λy hy=>h4 y (Yq hy));rw[Yg]at this;omega
   refine wk_ (qn_ (ws_ (wb_ (ws_ (wr_ ?_)))));refine e_ (zL m rfl rfl rfl a8 r) ?_;refine e_ asn (on_ (qn_ (wr_ (e_ mv (e_ mv ?_)))));refine e_ ((ad)) ?_;refine d2_ rfl (gl x a8 aj) ?_;rw[Yf,←h];refine go ?_;refine lN (m+1) ?_
   try dsimp only
   omega
  obtain rfl:m=4:=a8;rw[show g++((jG e).take 4).flatMap uv=fe [] (l.take (i+1))from by rw[qe he,←E,oX,c,b];simp[jG]];refine go ?_;refine lN ((i+1,e.key)) ?_
  exact⟨a8,(sW he _).symm,a8⟩
 obtain rfl:i=l.length:=a8;rw[Xn];have hpl:=oW (p:= []) hsm;refine go ?_;refine c1_ rfl (kK a8) ?_;rintro _ _ ⟨j,rfl,rfl⟩;refine gR ?_;exact⟨_,hsb,j,rfl,rfl⟩
end
theorem Wj {G:dJ}{H:dD}{s:SV}{l:List En} [hs:Sl H s eEn l] (hl:l.length≤100000000) (a:w9 l):SC G prog 219 [s.val] H (λv E=>∃z:SV,v=.tuple #[z.val,.nilIface]∧E=Row z eB (iC l)::H):=by
 have hsm:=xF a;have g:=qf hsm;have hbk:16*gO l≤l.length+15:=cS;refine sWk func219 ?_;refine go ?_;refine gk (k:=e8 Nat (λy=>y≤l.length) (λy=>[(15,iN y)]) [(0,_),(13,_),(14,_)] (λy=>[]) _ (λy=>l.length-y) (0) (h0:=?_) (k:=?_))
 ·exact Yl _
 rintro i hi
 try dsimp only[Yd,Ye]at*
 refine gW (λh1=>?_) λh1=>?_
 ·obtain⟨e,he⟩:=gE l i;obtain⟨k1,k2,k3,k4,k5,k6⟩:=a.1 e (Yj he);refine gk (k:=alc (k:=λb5=>?_));refine gk (k:=ep 5 28 (k:=λh2=>gk (k:=edq)) (q:=go ?_));refine wi_ (k:=λh3=>?_) (m:=λh3=>?_)
  ·exact absurd h3 a8
  refine go ?_;refine d1_ rfl QF (gk (k:=e8 Nat (λy=>y≤4) (λy=>[(32,iN y)]) [(0,_),(13,_),(14,_),(15,_),(31,_)] (λy=>[]) _ (λy=>4-y) (0) (h0:=?_) (k:=?_)))
  ·exact Yl _
  rintro m hm
  try dsimp only[Yd,Ye]at*
  refine gW (λh4=>?_) λh4=>?_
  ·obtain⟨x,hx⟩:∃x,(jG e)[m]? =some x:=⟨_,Yi (by show _<4;omega)⟩;have j:=zp hx;have hxl:x≤2147483647:=by
    have:=Yj hx;simp only[jG,Xo,S9,or_false]at this;rcases this with rfl|rfl|rfl|rfl <;> omega
   refine wk_ (qn_ (ws_ (wb_ (ws_ (wr_ ?_)))));refine e_ (zL m rfl rfl rfl a8 j) ?_;refine e_ asn (on_ (qn_ (ws_ (wr_ (e_ mv (e_ ilt (e_ mv (ep 3 40 (k:=λh5=>eg_ mv (eg_ igt (e_ pkf (on_ edq)))) (q:=on_ (qn_ (wi_ (k:=λh6=>?_) (m:=λh6=>?_))))))))))))
   ·exact absurd h6 a8
   refine go ?_;refine lN (m+1) ?_
   try dsimp only
   omega
  refine go ?_;refine lN (i+1) ?_
  try dsimp only
  omega
 refine gk (k:=e8 Nat (λy=>1≤y) (λy=>[(8,iN y)]) [(0,_)] (λy=>[]) _ (λy=>l.length-y) (1) (h0:=?_) (k:=?_))
 ·exact Xl _
 rintro i hi
 try dsimp only[Yd,Ye]at*
 refine gW (λC=>?_) λC=>?_
 ·obtain⟨e,he⟩:=gE l i;obtain⟨d,hd⟩:=gE l (i-1);have c:=a.2 (i-1) d e hd (by rw[Q7 hi];exact he);refine go ?_;refine dX dN (as_ 0 (q:=mv) (k:=as_ 1 (q:=mv) (k:=as_ 2 (q:=ixa) (k:=as_ 3 (q:=fle) (k:=as_ 4 (q:=lfl) (k:=as_ 5 (q:=mv) (k:=as_ 6 (q:=mv) (k:=as_ 7 (q:=isb) (k:=as_ 8 (q:=ixa) (k:=as_ 9 (q:=fle) (k:=as_ 10 (q:=lfl) (k:=?_))))))))))));refine dS 11 rfl rfl aa rfl (ey Zt) ?_;refine gW (λh8=>?_) λh8=>?_
  ·exact absurd c h8
  refine go ?_;refine lN (i+1) ?_
  try dsimp only
  omega
 refine go ?_;refine c0_ rfl iM ?_;rintro _ _ ⟨u,rfl,rfl⟩;refine e_ asn (on_ (qn_ (ws_ (wr_ (e_ mv (e_ mv (e_ lnn ?_)))))));refine e_ ((ad)) ?_;refine d2_ rfl (gl l.length a8 aq) (go ?_);refine c0_ rfl iM ?_;rintro _ _ ⟨w,rfl,rfl⟩;refine e_ asn (on_ (qn_ (ws_ (ws_ (wr_ ?_)))));obtain⟨hd,b⟩:=ex ([]++uv l.length);have hhl:hd.length≤6:=by rw[b];exact gb a8 a8
 rw[←b,show Wr u hd=Wr u (hd++(eH l 0).1)from by simp[eH],show Wr w []=Wr w (eH l 0).2 from rfl];refine gk (k:=e8 Nat (λy=>y≤gO l) (λy=>[(11,iN (16*y))]) [(0,_),(9,_),(10,_)] (λy=>[Wr u (hd++(eH l y).1),Wr w (eH l y).2]) _ (λy=>gO l-y) (0) (h0:=?_) (k:=?_))
 ·exact Yl _
 rintro k hk
 try dsimp only[Yd,Ye]at*
 refine gW (λh9=>?_) λh9=>?_
 ·have c:16*k<l.length:=by omega
  have hkb:k<gO l:=cS;obtain⟨t,r⟩:=g k;have hblen:=ri l k;have f:=qN hsm k;have hbl:=oW (p:= []) f;have hu:=gb (n:=(fe [] (gB l k)).length) (k:=6) a8 a8;refine wk_ (qn_ (ws_ (wb_ (ws_ (wr_ (e_ mv (e_ mv (e_ mv (e_ iad (e_ mv (e_ lnn ?_)))))))))));refine e_ (oh rfl rfl) ?_;refine kJ H rfl (16*k) (min (16*k+16) l.length) ⟨_,_,rfl,(aT)⟩ ⟨_,_,rfl,(aT)⟩ a8 aP rfl (λB A=>?_);rw[BQ]at A;haveI ib2:Sl H B eEn (gB l k):=A;refine c1_ rfl (O0 (l:=gB l k) a8 f) ?_;rintro _ _ ⟨s84,rfl,rfl⟩;refine e_ asn (on_ (qn_ (ws_ (wr_ (e_ mv (e_ mv (e_ lnn ?_)))))));refine e_ ((ad)) ?_;refine d2_ rfl (gl _ a8 aj) (go ?_);refine d2_ rfl (Eb a8 a8) (on_ (bn_ (qn_ (wr_ ?_))));rw[show hd++(eH l k).1++uv (fe [] (gB l k)).length=hd++(eH l (k+1)).1 from by simp[eH],show(eH l k).2++fe [] (gB l k)=(eH l (k+1)).2 from rfl,show((16*k:Nat):Int)+16=((16*(k+1):Nat):Int)from a8];refine go ?_;refine lN (k+1) ?_
  try dsimp only
  omega
 obtain rfl:k=gO l:=by unfold gO at*;omega
 obtain⟨t,r⟩:=g (gO l);refine go ?_;refine c1_ rfl (kK a8) ?_;rintro _ _ ⟨s95,rfl,rfl⟩;refine d2_ rfl (Eb aj a8) ?_;rw[show hd++(eH l (gO l)).1++(eH l (gO l)).2=iC l from by rw[b];simp[iC]];have hDl:=IV hsm a8;refine go ?_;refine c1_ rfl (kK a8) ?_;rintro _ _ ⟨h,rfl,rfl⟩;refine gR ?_;exact⟨_,hsb,h,rfl,rfl⟩
section
variable {j:Nat}{l:List En}
theorem lr (l:List En) (k:Nat):∀n,k≤n→∃r r',(eH l n).1=(eH l k).1++r∧(eH l n).2=(eH l k).2++r'
 | 0,h=> by obtain rfl:k=0:=by omega
            exact⟨[], [],aq,aq⟩
 |n+1,h=> by
  by_cases he:k=n+1
  ·subst he;exact⟨[], [],aq,aq⟩
  ·obtain⟨r,r',h1,h2⟩:=lr l k n a8
   exact⟨r++uv (fe [] (gB l n)).length,r'++fe [] (gB l n),by rw[eH];simp only[h1,Yf],by rw[eH];simp only[h2,Yf]⟩
theorem IU (h:j<gO l):∃r,(iC l).drop ((uv l.length).length+(eH l j).1.length)=uv (fe [] (gB l j)).length++r∧(fe [] (gB l j)).length≤r.length:=by
 obtain⟨r,a,h1,h2⟩:=lr l (j+1) (gO l) a8;rw[eH]at h1 h2;simp only at h1 h2;refine⟨r++((eH l j).2++fe [] (gB l j)++a),?_,aj⟩;rw[iC,h1,h2,←Ya];simp only[Yf];rw[←Yf,Vg]
theorem MG (h:j<gO l):∃r,(iC l).drop ((uv l.length).length+(eH l (gO l)).1.length+(eH l j).2.length)=fe [] (gB l j)++r:=by
 obtain⟨r,a,h1,h2⟩:=lr l (j+1) (gO l) a8;rw[eH]at h2;simp only at h2;refine⟨a,?_⟩;have e:iC l=(uv l.length++(eH l (gO l)).1++(eH l j).2)++(fe [] (gB l j)++a):=by rw[iC,h2];simp only[Yf]
 rw[e,←Ya,←Ya,Vg]
theorem Mz (p:List Nat) (e:En):1≤(oX p e).length:=by
 have:=sM (eY p (dC e.key));simp only[oX,Ya];omega
theorem Dh:∀(l:List En) (p:List Nat),l.length≤(fe p l).length
 | [],_=>aq
 |e::r,p=>by
  have h1:=Mz p e;have h2:=Dh r (dC e.key);simp only[fe,Ya,Yb];omega
theorem zX (l:List En):∀k,min (16*k) l.length≤(eH l k).2.length
 | 0=>aq
 |k+1=>by
  have h1:=zX l k;have h2:=Dh (gB l k) [];rw[ri]at h2;simp only[eH,Ya];omega
theorem MH (l:List En):l.length≤(iC l).length:=by
 have h1:=zX l (gO l);have h2:l.length≤16*gO l:=cS;simp only[iC,Ya];omega
theorem IW (l:List En):(iC l).length=(uv l.length).length+(eH l (gO l)).1.length+(eH l (gO l)).2.length:=by simp only[iC,Ya]
theorem Ql {k:Nat}{e:En}{xs r:List Nat}{P:Nat}(hx:xs.drop P=fe [] (gB l j)++r) (hk:k<16) (he:l[16*j+k]? =some e):∃b,xs.drop (P+(fe [] ((gB l j).take k)).length)=oX (nk [] ((gB l j).take k)) e++b:=by
 have a:=DL l j k hk;rw[he]at a;have h1:gB l j=(gB l j).take (k+1)++(gB l j).drop (k+1):=(Vd ..).symm;have h2:fe [] (gB l j)=fe [] ((gB l j).take (k+1))++fe (nk [] ((gB l j).take (k+1))) ((gB l j).drop (k+1)):=by
  conv=>lhs;rw[h1]
  exact rN _ _ _
 rw[qe a]at h2;refine⟨fe (nk [] ((gB l j).take (k+1))) ((gB l j).drop (k+1))++r,?_⟩;rw[←Vt,hx,h2];simp only[Yf];rw[Vg]
def n5 (l:List En) (j:Nat):List Int:=(List.range j).map λk=>(((fe [] (gB l k)).length:Nat):Int)
theorem Cg (l:List En) (j:Nat):n5 l (j+1)=n5 l j++ [(((fe [] (gB l j)).length:Nat):Int)]:=by simp[n5,X9]
theorem xd (l:List En) (j:Nat):(n5 l j).length=j:=by simp[n5]
theorem Eo {n:Nat}(h:j<n):(n5 l n)[j]? =some (((fe [] (gB l j)).length:Nat):Int):=by
 rw[n5,Xd,Ur h];all_goals rfl
end
section
variable {G:dJ}{H:dD}
theorem k8 {P:Program}{t:Tm}{dst:Option Tmp}{ty:TypeId}{pos:String}{after:Array Edge}{g:Option (Nat×Bool)}{T U:TypeId}{x y:Operand}{i j:Int}(hx:evo t x=some (.int .u64 i)) (hy:evo t y=some (.int .u64 j)) (a b:Nat) (ha:i=a) (c:j=b) (h:a*b<18446744073709551616):
 Ev G P ⟨dst,.binOp .mul T x y U,ty,pos,after,g⟩ t H (uN (a*b)):=by
 have:=nZ (G:=G) (P:=P) (H:=H) (dst:=dst) (ty:=ty) (pos:=pos) (after:=after) (g:=g) (T:=T) (U:=U) (k:=.u64) 18446744073709551616 rfl hx hy rfl a b ha c
 rwa [Xw h]at this
theorem Bu (n:Nat):fm n≤1048576:=Nat.min_le_right _ _
theorem x6 {n:Int}:SC G prog 231 [.int .i64 n] H (λv a=>v=uN (fm n.toNat)∧a=H):=by
 have hc:=Bu n.toNat;refine sWk func231 ?_;refine ws_ (wr_ (e_ asn (on_ (qn_ (ws_ (wr_ (e_ mv ?_)))))));refine e_ (nw rfl rfl) ?_;refine e_ (evq (oh rfl rfl) (congrArg (Value.int .i64) (show _=((fm n.toNat:Nat):Int)from by unfold fm;omega))) ?_;refine e_ (dW 18446744073709551616 rfl rfl rfl (fm n.toNat) rfl a8) ?_;exact gZ
theorem Z7 {f l a:Int}:SC G prog 182 [.int .i64 f,.int .i64 l,.int .i64 a] H (λv d=>v=uN (Co f.toNat l.toNat a.toNat)∧d=H):=by
 have c:=Bu f.toNat;have hl:=Bu l.toNat;have ha:=Bu a.toNat;have hA1:1≤max (fm a.toNat) 1:=Nat.le_max_right _ _;have b:max (fm a.toNat) 1≤1048576:=a8;have hm1:10240*fm f.toNat*max (fm a.toNat) 1≤10240*1048576*1048576:=Uv (Uv (Xl _) c) b;have hm2:10*fm f.toNat*max (fm a.toNat) 1≤10*1048576*1048576:=Uv (Uv (Xl _) c) b;refine sWk func182 ?_;refine go ?_;refine d1_ rfl x6 (go ?_);refine d1_ rfl x6 (go ?_);refine d1_ rfl x6 ?_;refine e_ (evq (nw rfl rfl) (congrArg (Value.int .u64) (show _=((max (fm a.toNat) 1:Nat):Int)from a8))) ?_;refine e_ asn (e_ asn (e_ asn (on_ (qn_ (ws_ (wr_ (e_ mv ?_)))))));refine e_ (k8 rfl rfl 10240 (fm f.toNat) rfl rfl a8) ?_;refine e_ mv ?_;refine e_ (k8 rfl rfl (10240*fm f.toNat) (max (fm a.toNat) 1) rfl rfl a8) ?_;refine e_ mv ?_;refine e_ (k8 rfl rfl 10 (fm f.toNat) rfl rfl a8) ?_;refine e_ mv ?_;refine e_ (k8 rfl rfl (10*fm f.toNat) (max (fm a.toNat) 1) rfl rfl a8) ?_;refine e_ mv ?_;refine e_ (k8 rfl rfl 3 (max (fm a.toNat) 1) rfl rfl a8) ?_;refine e_ (jo 18446744073709551616 rfl rfl rfl rfl (10*fm f.toNat*max (fm a.toNat) 1) (3*max (fm a.toNat) 1) rfl rfl a8) ?_;refine e_ mv ?_;refine e_ (k8 rfl rfl 9 (fm l.toNat) rfl rfl a8) ?_;refine e_ (jo 18446744073709551616 rfl rfl rfl rfl (10*fm f.toNat*max (fm a.toNat) 1+3*max (fm a.toNat) 1) (9*fm l.toNat) rfl rfl a8) ?_;refine e_ (fX rfl rfl (10240*fm f.toNat*max (fm a.toNat) 1) (10*fm f.toNat*max (fm a.toNat) 1+3*max (fm a.toNat) 1+9*fm l.toNat) rfl rfl a8 (by show _≤(18446744073709551615:Int);omega)) ?_;exact gZ
end
end Go.Sx
