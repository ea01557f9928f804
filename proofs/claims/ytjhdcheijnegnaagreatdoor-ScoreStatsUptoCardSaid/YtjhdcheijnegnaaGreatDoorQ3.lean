import Derived.Test.YtjhdcheijnegnaaGreatDoorQ2
import Derived.LaidEql
import Derived.LaidEqlPtr
import Derived.Laws.Strings
set_option linter.all false
set_option maxHeartbeats 0
namespace Go.Sx
open Go
section
variable {E T U:TypeId}{a b s:ByteArray}{ix x y:Operand}{j:Int}{k:IntKind}{l:List Value}{ms:Array (String×TypeId)}{p:Option Addr}{v z:Value}{w:World}
class rA (H:cG) (b:Nat):Prop where
 mem:∀L,Sep H L→∃C E,(b,Obj.cells C E (0,0))∈L
instance rA.tail {A:Hp}{H:cG}{b:Nat} [h:rA H b]:rA (A::H) b:=
 ⟨λL hL=>by obtain⟨L1,L2,rfl,_,h2⟩:=hL;obtain⟨C,E,hm⟩:=h.mem _ h2;exact⟨C,E,Yx _ hm⟩⟩
theorem rA.get {G:cJ}{H:cG}{b:Nat}(h:rA H b) (hs:Sat G w H):∃C E,w.heap[b]? =some (.cells C E (0,0)):=by
 obtain⟨_,L,hL,hl⟩:=hs;obtain⟨C,E,hm⟩:=h.mem L hL;exact⟨C,E,hl.at_ _ hm⟩
def cJ.err (G:cJ) (i:Nat):Value:=.iface G.eT (.pointer (some ⟨G.eb i,G.eo i,none⟩))
class Jw (l:List (Nat×Nat)) (i:Nat) (x:outParam (Nat×Nat)):Prop where
 out:l[i]? =some x
instance {x:Nat×Nat}{l:List (Nat×Nat)}:Jw (x::l) 0 x:=⟨rfl⟩
instance {y x:Nat×Nat}{l:List (Nat×Nat)}{n:Nat} [h:Jw l n x]:Jw (y::l) (n+1) x:=⟨by simpa using h.out⟩
class Jx (l:List Value) (n:Nat):Prop where
 out:l.length=n
instance:Jx [] 0:=⟨rfl⟩
instance {x:Value}{l:List Value}{n:Nat} [h:Jx l n]:Jx (x::l) (n+1):=⟨by simp[h.out]⟩
class Fil (places:List (Nat×Nat)) (l:List Value) (ps:List (Nat×Value)) (l':outParam (List Value)):Prop where
 out:Instr.fill (λi=>places[i]?) l.toArray ps=some l'.toArray
instance Fil.nil {places:List (Nat×Nat)}{l:List Value}:Fil places l [] l:=⟨rfl⟩
instance Fil.cons {places:List (Nat×Nat)}{l:List Value}{i:Nat}{v:Value}{ps:List (Nat×Value)}{off n:Nat}{cs l1 l':List Value} [h1:Jw places i (off,n)] [h2:n4 v cs] [h3:Jx cs n] [h4:Spl l off cs l1] [h5:Fil places l1 ps l']:Fil places l ((i,v)::ps) l':=
 ⟨by
  have hf:=h4.fit
  have e1:(cs.toArray.zipIdx.foldl (λa (y:Value×Nat)=>a.setIfInBounds (off+y.2) y.1) l.toArray)=l1.toArray:=by
   rw[←Array.foldl_toList]
   have:=v7 cs l.toArray off 0
   rw[show cs.toArray.zipIdx.toList=cs.zipIdx 0 from ak,this]
   have h6:=h4.out l.toArray (ak)
   apply Array.ext'
   simpa using h6
  simp only[Instr.fill,h1.out,h2.out]
  rw[if_neg (by simp[h3.out];have:=h3.out;omega)]
  have:=h5.out
  rw[←e1]at this
  exact this⟩
class Str (P:Program) (T:TypeId) (places:outParam (List (Nat×Nat))) (z:outParam (List Value)):Prop where
 out:∃fields i zv,P.underlying T=some (.struct fields)∧(∀w,(fields.mapM fun(f:Field)=>(do pure (f.offset,←sizeOf f.type):Sem (Nat×Nat))).run P w=.ok places.toArray w)∧P.info? T=some i∧i.zero=some zv∧zv.cells=z.toArray
section
variable {G:cJ}{P:Program}{N:Nat}{Q:Post}{t:Tm}{H:cG}{dst:Option Tmp}{ty:TypeId}{pos:String}{after:Array Edge}{g:Option (Nat×Bool)}
theorem Gq {ps:List (Nat×Operand)}{vs:List (Nat×Value)}{a:List (Nat×Nat)}{z:List Value}(hp:qI t ps=some vs) [hs:Str P T a z] [hf:Fil a z vs l]:
 Ev G P ⟨dst,.build T ps.toArray,ty,pos,after,g⟩ t H (.agg l.toArray):=
 fun ρ hρ w _=>by
  obtain⟨b,i,d,h1,h2,h3,h4,e⟩:=hs.out;have k:(underlying T).run P w=.ok (.struct b) w:=by simp[underlying,h1]
  have j:(zeroValue T).run P w=.ok d w:=by simp[zeroValue,typeInfo,h3,h4]
  have h:(ps.toArray.map fun(i,x)=>(i,ρ x)).toList=vs:=by simp[nC hρ hp]
  have c:=hf.out;have f:(fun(i:Nat)=>a.toArray[i]?)=fun(i:Nat)=>a[i]? :=by funext i;simp
  simp only[execOp,Instr.build,Sem.run_bind,k,j,h2,Result.andThen_ok,h,e,f,c,Sem.run_pure]
theorem gy {op:BinOp}{a b:Value}(h:(match x with| .const _=>true|_=>false)=true∨(match y with| .const _=>true|_=>false)=true) (ha:∀c,a≠ .agg c):(eqGuard op T x y a b).run P w=.ok () w:=by
 unfold eqGuard;cases op <;> simp only[S3,V1,Xp,↓reduceIte,Sem.run_pure]
 all_goals
  cases a <;> first
   |exact absurd rfl (ha _)
   |(cases b <;> first
       |rfl
       |(cases x <;> cases y <;> simp at h <;> rfl))
theorem iA {x y:Value}{r:Bool}(h:∀d,(Op.equalIn (d+1) T x y).run P w=.ok r w):(Op.equal T x y).run P w=.ok r w:=h 9999
theorem iu [hT:Und P T (.interface ms)] (hx:evo t x=some .nilIface):Ev G P ⟨dst,.binOp .eql T x (.const .nilIface) U,ty,pos,after,g⟩ t H (.bool true):=
 fun ρ hρ w _=>by
  have h1:=gy (P:=P) (op:=.eql) (T:=T) (x:=x) (y:=.const .nilIface) (w:=w) (a:=.nilIface) (b:=.nilIface) (.inr rfl) (λc h=>aU);have h2:=iA (P:=P) (w:=w) (T:=T) (x:=.nilIface) (y:=.nilIface) (r:=true) (λd=>ax);simp only[execOp,hρ _ _ hx,hρ (.const .nilIface) _ rfl,Sem.run_bind,h1,Result.andThen_ok,binOp,h2,Sem.run_pure]
theorem cK [hT:Und P T (.interface ms)] (hx:evo t x=some .nilIface):Ev G P ⟨dst,.binOp .neq T x (.const .nilIface) U,ty,pos,after,g⟩ t H (.bool false):=
 fun ρ hρ w _=>by
  have h1:=gy (P:=P) (op:=.neq) (T:=T) (x:=x) (y:=.const .nilIface) (w:=w) (a:=.nilIface) (b:=.nilIface) (.inr rfl) (λc h=>aU);have h2:=iA (P:=P) (w:=w) (T:=T) (x:=.nilIface) (y:=.nilIface) (r:=true) (λd=>ax);simp only[execOp,hρ _ _ hx,hρ (.const .nilIface) _ rfl,Sem.run_bind,h1,Result.andThen_ok,binOp,h2,Sem.run_pure,S3]
theorem kQ {u:TypeId} [hT:Und P T (.interface ms)] (hx:evo t x=some (.iface u v)):Ev G P ⟨dst,.binOp .eql T x (.const .nilIface) U,ty,pos,after,g⟩ t H (.bool false):=
 fun ρ hρ w _=>by
  have h1:=gy (P:=P) (op:=.eql) (T:=T) (x:=x) (y:=.const .nilIface) (w:=w) (a:=.iface u v) (b:=.nilIface) (.inr rfl) (λc h=>aU);have h2:=iA (P:=P) (w:=w) (T:=T) (x:=.iface u v) (y:=.nilIface) (r:=false) (λd=>ax);simp only[execOp,hρ _ _ hx,hρ (.const .nilIface) _ rfl,Sem.run_bind,h1,Result.andThen_ok,binOp,h2,Sem.run_pure]
theorem de {u:TypeId} [hT:Und P T (.interface ms)] (hx:evo t x=some (.iface u v)):Ev G P ⟨dst,.binOp .neq T x (.const .nilIface) U,ty,pos,after,g⟩ t H (.bool true):=
 fun ρ hρ w _=>by
  have h1:=gy (P:=P) (op:=.neq) (T:=T) (x:=x) (y:=.const .nilIface) (w:=w) (a:=.iface u v) (b:=.nilIface) (.inr rfl) (λc h=>aU);have h2:=iA (P:=P) (w:=w) (T:=T) (x:=.iface u v) (y:=.nilIface) (r:=false) (λd=>ax);simp only[execOp,hρ _ _ hx,hρ (.const .nilIface) _ rfl,Sem.run_bind,h1,Result.andThen_ok,binOp,h2,Sem.run_pure,V1]
theorem gN [hT:Und P T (.pointer E)] (hx:evo t x=some (.pointer p)):Ev G P ⟨dst,.binOp .eql T x (.const (.pointer none)) U,ty,pos,after,g⟩ t H (.bool p.isNone):=
 fun ρ hρ w _=>by
  have h1:=gy (P:=P) (op:=.eql) (T:=T) (x:=x) (y:=.const (.pointer none)) (w:=w) (a:=.pointer p) (b:=.pointer none) (.inr rfl) (λc h=>aU);have h2:=iA (P:=P) (w:=w) (T:=T) (x:=.pointer p) (y:=.pointer none) (r:=p.isNone) (λd=>by cases p <;> simp only[Op.equalIn,Sem.run_bind,cS (T:=T),Result.andThen_ok,Sem.run_pure,Option.isNone]);cases p <;> simp only[execOp,hρ _ _ hx,hρ (.const (.pointer none)) _ rfl,Sem.run_bind,h1,Result.andThen_ok,binOp,h2,Sem.run_pure] <;> rfl
theorem kP [hT:Und P T (.pointer E)] (hx:evo t x=some (.pointer p)):Ev G P ⟨dst,.binOp .neq T x (.const (.pointer none)) U,ty,pos,after,g⟩ t H (.bool p.isSome):=
 fun ρ hρ w _=>by
  have h1:=gy (P:=P) (op:=.neq) (T:=T) (x:=x) (y:=.const (.pointer none)) (w:=w) (a:=.pointer p) (b:=.pointer none) (.inr rfl) (λc h=>aU);have h2:=iA (P:=P) (w:=w) (T:=T) (x:=.pointer p) (y:=.pointer none) (r:=p.isNone) (λd=>by cases p <;> simp only[Op.equalIn,Sem.run_bind,cS (T:=T),Result.andThen_ok,Sem.run_pure,Option.isNone]);cases p <;> simp only[execOp,hρ _ _ hx,hρ (.const (.pointer none)) _ rfl,Sem.run_bind,h1,Result.andThen_ok,binOp,h2,Sem.run_pure] <;> rfl
theorem Aa {i j:Nat}{sz bb:Nat} [hT:Und P T (.interface ms)] [r:Und P G.eT (.pointer E)] [hi:Inf P E sz bb z] (hc:∃k,P.info? G.eT=some k∧k.comparable=true) (n:sz≠0) (l:∀a b,G.eb a=G.eb b→G.eo a=G.eo b→a=b) [h1:rA H (G.eb i)] [h2:rA H (G.eb j)] (hx:evo t x=some (G.err i)) (hy:evo t y=some (G.err j)):Ev G P ⟨dst,.binOp .eql T x y U,ty,pos,after,g⟩ t H (.bool (decide (i=j))):=
 fun ρ hρ w hw=>by
  obtain⟨k,f,d⟩:=hc;obtain⟨c,m,q,_⟩:=hi.out;have v:(eqGuard .eql T x y (G.err i) (G.err j)).run P w=.ok () w:=by simp[eqGuard,cJ.err]
  simp only[execOp,hρ _ _ hx,hρ _ _ hy,Sem.run_bind,v,Result.andThen_ok]
  by_cases e:i=j
  ·subst e;have:=run_eql_iface_ptr_same (P:=P) (w:=w) (ti:=T) (tp:=G.eT) (te:=E) (i:=k) (j:=c) ⟨G.eb i,G.eo i,none⟩ hT.out r.out f d m;simp only[cJ.err,this,Result.andThen_ok,Sem.run_pure,decide_true]
  ·obtain⟨C1,E1,u⟩:=h1.get hw;obtain⟨C2,E2,s⟩:=h2.get hw;have p:(⟨G.eb i,G.eo i,none⟩:Addr)≠⟨G.eb j,G.eo j,none⟩:=λh=>e (l _ _ (by injection h) (by injection h));have:=run_eql_iface_ptr_other (P:=P) (w:=w) (ti:=T) (tp:=G.eT) (te:=E) (i:=k) (j:=c) (a:=⟨G.eb i,G.eo i,none⟩) (b:=⟨G.eb j,G.eo j,none⟩) hT.out r.out f d m (by rw[q];exact n) p u s;simp only[cJ.err,this,Result.andThen_ok,Sem.run_pure,Yr e]
theorem wO (a b:ByteArray):(a.toList==b.toList)=decide (cF a=cF b):=by
 rw[U4];simp only[beq_iff_eq,Xs,iw,ByteArray.toList_eq];exact⟨λh=>ByteArray.ext (Array.toList_inj.mp h),λh=>by rw[h]⟩
theorem mP (hx:evo t x=some (.string a)) (hy:evo t y=some (.string b)):Ev G P ⟨dst,.binOp .eql T x y U,ty,pos,after,g⟩ t H (.bool (decide (cF a=cF b))):=
 fun ρ hρ w _=>by
  simp only[execOp,hρ _ _ hx,hρ _ _ hy,eqGuard,binOp,Op.stringOp,wO];rfl
theorem tG (hx:evo t x=some (.string a)) (hy:evo t y=some (.string b)):Ev G P ⟨dst,.binOp .neq T x y U,ty,pos,after,g⟩ t H (.bool (!decide (cF a=cF b))):=
 fun ρ hρ w _=>by
  simp only[execOp,hρ _ _ hx,hρ _ _ hy,eqGuard,binOp,Op.stringOp,wO];rfl
theorem gU (hx:evo t x=some (.string a)) (hy:evo t y=some (.string b)) (h:a.size+b.size≤9223372036854775807):Ev G P ⟨dst,.binOp .add T x y U,ty,pos,after,g⟩ t H (.string (a++b)):=
 fun ρ hρ w _=>by
  have h1:¬(((a.size+b.size:Nat):Int) > IntKind.i64.max):=by
   simp only[IntKind.max,IntKind.signed,IntKind.bits];simp;omega
  simp only[execOp,hρ _ _ hx,hρ _ _ hy,eqGuard,binOp,Op.stringOp,h1];rfl
theorem mO (hx:evo t x=some (.string s)) (hi:evo t ix=some (.int k j)) [hT:Und P T .string] (i:Nat) (hj:j=i) (y:Nat) (hy:(cF s)[i]? =some y):
 Ev G P ⟨dst,.index T x ix,ty,pos,after,g⟩ t H (.int .u8 (y:Int)):=
 fun ρ hρ w _=>by
  have h1:s[i]? =some (UInt8.ofNat y)∧y<256:=by
   simp only[cF,Xd,U7,Option.map_eq_some_iff]at hy;obtain⟨b,c,rfl⟩:=hy;obtain⟨a,he⟩:=Vh.1 c;refine⟨?_,b.toNat_lt⟩;rw[getElem?_pos s i a];congr 1;show s.data[i]=_;rw[he];simp
  have h0:(0:Int)≤(i:Int):=a8;simp[execOp,hρ _ _ hx,hρ _ _ hi,Instr.index,asIntOf,hj,cS (T:=T),h1.1,Xt h1.2]
theorem gr (s:ByteArray) (l h:Nat):cF (s.extract l h)=((cF s).take h).drop l:=by
 simp[cF,List.map_drop,List.map_take,ByteArray.data_extract,R8]
theorem jl {lo hi:Option Operand}(hx:evo t x=some (.string s)) [hT:Und P T .string] (l h:Nat) (b:match lo with|none=>l=0|some o=>∃k j,evo t o=some (.int k j)∧j=(l:Int)) (a:match hi with|none=>h=s.size|some o=>∃k j,evo t o=some (.int k j)∧j=(h:Int)) (h1:l≤h) (h2:h≤s.size):
 Ev G P ⟨dst,.slice T x lo hi none,ty,pos,after,g⟩ t H (.string (s.extract l h)):=
 fun ρ hρ w _=>by
  have i:(Instr.sliceBounds false s.size s.size (lo.map ρ) (hi.map ρ) none).run P w=.ok (l,h,s.size) w:=by
   have c:∀(j:Nat) (k:IntKind) (y:Nat) (f:BoundsCode),j≤y→(Instr.sliceBound (.int k (j:Int)) y f).run P w=.ok j w:=by
    intro j k y f hj;have:(j:Int)≤(y:Int):=a8;simp[Instr.sliceBound,asIntOf,this]
   cases lo with
   |none=>
    simp only at b;subst b;cases hi with
    |none=>simp only at a;subst a;simp[Instr.sliceBounds]
    |some o=>
     obtain⟨k,j,h3,h4⟩:=a;subst h4;simp[Instr.sliceBounds,hρ _ _ h3,c h k s.size _ a8]
   |some o'=>
    obtain⟨d,j',e,h6⟩:=b;subst h6;cases hi with
    |none=>simp only at a;subst a;simp[Instr.sliceBounds,hρ _ _ e,c l d s.size _ a8]
    |some o=>
     obtain⟨k,j,h3,h4⟩:=a;subst h4;simp[Instr.sliceBounds,hρ _ _ h3,hρ _ _ e,c h k s.size _ a8,c l d h _ a8]
  simp only[execOp,hρ _ _ hx,Instr.sliceAt,Option.map_none,Sem.run_bind,cS (T:=T),Result.andThen_ok];simp only[Instr.slice,Sem.run_bind,cS (T:=T),Result.andThen_ok,i,Sem.run_pure,Option.isSome_none,Xp,↓reduceIte]
theorem gM {b off n sz bb:Nat}(hx:evo t x=some (.pointer (some ⟨b,off,none⟩))) (hi:evo t ix=some (.int k j)) [hT:Und P T (.array n E)] [hE:Inf P E sz bb z] (i:Nat) (hj:j=i) (hlt:i<n):
 Ev G P ⟨dst,.indexAddr T x ix,ty,pos,after,g⟩ t H (.pointer (some ⟨b,off+i*sz,none⟩)):=
 fun ρ hρ w _=>by
  have a:¬(n≤i):=a8;simp[execOp,hρ _ _ hx,hρ _ _ hi,Instr.indexAt,asIntOf,hj,cS (T:=T),Instr.sureAddr,dA (T:=E) (s:=sz),gu,a]
theorem mN {b off:Nat}(hx:evo t x=some (.pointer (some ⟨b,off,none⟩))) [hT:One P T] [hH:cY H b l] (hv:l[off]? =some v):
 Ev G P ⟨dst,.load T x,ty,pos,after,g⟩ t H v:=
 fun ρ hρ w hw=>by
  obtain⟨E,fz,a⟩:=hH.get hw;have h1:w.cell? ⟨b,off,none⟩=some v:=by rw[mT a];simpa using hv
  simp[execOp,hρ _ _ hx,Instr.loadAt,Instr.sureAddr,loadVar,i7,h1]
inductive H6 (P:Program) (t:Tm) (H:cG):ResultVar→Value→Prop
 |tmp {r:Tmp}{v:Value}(h:look t r=some v):H6 P t H (.tmp r) v
 |cell {r:Tmp}{T:TypeId}{b n:Nat}{l:List Value}(h:look t r=some (.pointer (some ⟨b,0,none⟩))) [hT:Agg P T n] [hH:cY H b l] (hn:l.length=n):H6 P t H (.cell r T) (.agg l.toArray)
 |cell1 {r:Tmp}{T:TypeId}{b:Nat}{v:Value}(h:look t r=some (.pointer (some ⟨b,0,none⟩))) [hT:One P T] [hH:cY H b [v]]:H6 P t H (.cell r T) v
inductive mZ (P:Program) (t:Tm) (H:cG):List ResultVar→List Value→Prop
 |nil:mZ P t H [] []
 |cons {r:ResultVar}{rs:List ResultVar}{v:Value}{vs:List Value}(h:H6 P t H r v) (h2:mZ P t H rs vs):mZ P t H (r::rs) (v::vs)
def nq:List Value→Value
 | [v]=>v
 |vs=>.tuple vs.toArray
theorem Cs {g:Func}{K:Value→cG→Prop}{e:Exit}{rs:List ResultVar}{vs:List Value}(k:g.results=rs.toArray) (he:e=.normal∨e=.ret) (hr:mZ P t H rs vs) (s:K (nq vs) H):As P g K e t H:=by
 refine⟨he,nq vs,s,λG N a w ha q=>?_⟩
 let f:ResultVar→Sem Value:=fun
  | .tmp t=>pure (a.tmps.getD t undef)
  | .cell r t=>do loadVar t (←asAddr (a.tmps.getD r undef))
 have c:∀(r:Tmp) (v:Value),look t r=some v→a.tmps.getD r undef=v:=λr v h=>by
  rw[Array.getD_eq_getD_getElem?,ha.look r v h];rfl
 have i:∀r v,H6 P t H r v→(f r).run P w=.ok v w:=by
  intro r v h;cases h with
  |tmp h=>simp only[f,Sem.run_pure,c _ _ h]
  | @cell r T b n l h hT hH hn=>
   obtain⟨E,fz,m⟩:=hH.get q;have h1:=dP (P:=P) (o:=0) m l (λj v hv=>by simpa using hv);rw[hn]at h1;simp only[f,c _ _ h,asAddr,Sem.run_bind,Sem.run_pure,Result.andThen_ok,loadVar,nR (n:=n),↓reduceIte,ji (n:=n),h1]
  | @cell1 r T b v h hT hH=>
   obtain⟨E,fz,m⟩:=hH.get q;have h1:w.cell? ⟨b,0,none⟩=some v:=by rw[mT m];rfl
   simp only[f,c _ _ h,asAddr,Sem.run_bind,Sem.run_pure,Result.andThen_ok,loadVar,i7,Xp,↓reduceIte,run_load,h1]
 have p:∀rs vs,mZ P t H rs vs→(rs.mapM f).run P w=.ok vs w:=by
  intro rs vs h
  induction h with
  |nil=>rfl
  |cons h _ ih=>simp only[List.mapM_cons,Sem.run_bind,i _ _ h,Result.andThen_ok,ih,Sem.run_pure]
 have hm:(g.results.mapM f).run P w=.ok vs.toArray w:=by
  rw[k,List.mapM_toArray,Sem.run_map,p rs vs hr];rfl
 have d:(results g a.tmps).run P w=.ok (if h:vs.toArray.size=1 then vs.toArray[0]else .tuple vs.toArray) w:=by
  show((g.results.mapM f) >>=λvs=>pure (if h:vs.size=1 then vs[0]else .tuple vs)).run P w=_;rw[Sem.run_bind,hm];rfl
 rw[d];congr 1
 match vs with
 | []=>rfl
 | [v]=>rfl
 |v::u::vs=>simp[nq]
end
end
section
variable {c:Operand}{ds:TypeDesc}
section
variable {G:cJ}{P:Program}{N:Nat}{Q:Post}{t:Tm}{H:cG}{ops:Array Oper}{dst:Option Tmp}{ty:TypeId}{pos:String}{after:Array Edge}{g:Option (Nat×Bool)}
theorem qJ {a b:Operand}{d:Value}(hc:evo t c=some (.bool true)) (ha:evo t a=some d):Ev G P ⟨dst,.pick c a b,ty,pos,after,g⟩ t H d:=
 fun ρ hρ w _=>by simp[execOp,hρ _ _ hc,hρ _ _ ha,asBool]
theorem qK {a b:Operand}{vb:Value}(hc:evo t c=some (.bool false)) (d:evo t b=some vb):Ev G P ⟨dst,.pick c a b,ty,pos,after,g⟩ t H vb:=
 fun ρ hρ w _=>by simp[execOp,hρ _ _ hc,hρ _ _ d,asBool]
section
variable {T U:TypeId}{x y:Operand}{k k':IntKind}{i j:Int}(M:Nat)
theorem iE (d:2^k.bits=M) (hx:evo t x=some (.int k i)) (hy:evo t y=some (.int k j)) (hk:k.signed=false) (a b:Nat) (ha:i=a) (c:j=b):
 Ev G P ⟨dst,.binOp .add T x y U,ty,pos,after,g⟩ t H (.int k (((a+b)%M:Nat):Int)):=by subst d;exact J9 hx hy hk a b ha c
theorem jm (d:2^k.bits=M) (hx:evo t x=some (.int k i)) (hy:evo t y=some (.int k j)) (hk:k.signed=false) (a b:Nat) (ha:i=a) (c:j=b) (h:a+b<M):
 Ev G P ⟨dst,.binOp .add T x y U,ty,pos,after,g⟩ t H (.int k ((a+b:Nat):Int)):=by
 have:=iE (G:=G) (P:=P) (H:=H) (dst:=dst) (ty:=ty) (pos:=pos) (after:=after) (g:=g) (T:=T) (U:=U) M d hx hy hk a b ha c
 rwa [Xt h]at this
theorem eh (d:2^k.bits=M) (hx:evo t x=some (.int k i)) (hy:evo t y=some (.int k j)) (hk:k.signed=false) (a b:Nat) (ha:i=a) (c:j=b):
 Ev G P ⟨dst,.binOp .mul T x y U,ty,pos,after,g⟩ t H (.int k (((a*b)%M:Nat):Int)):=by subst d;exact J3 hx hy hk a b ha c
theorem iV (e:2^k.bits=M) (hx:evo t x=some (.int k i)) (hy:evo t y=some (.int k j)) (hk:k.signed=false) (a b:Nat) (ha:i=a) (d:j=b) (c:b≤a) (hlt:a<M):
 Ev G P ⟨dst,.binOp .sub T x y U,ty,pos,after,g⟩ t H (.int k ((a-b:Nat):Int)):=by subst e;exact IZ hx hy hk a b ha d c hlt
theorem gn (f:2^k.bits=M) (hx:evo t x=some (.int k i)) (hy:evo t y=some (.int k j)) (hk:k.signed=false) (a b:Nat) (ha:i=a) (e:j=b) (d:a<M) (c:b<M):
 Ev G P ⟨dst,.binOp .and T x y U,ty,pos,after,g⟩ t H (.int k ((a &&& b:Nat):Int)):=by subst f;exact J8 hx hy hk a b ha e d c
theorem fI (f:2^k.bits=M) (hx:evo t x=some (.int k i)) (hy:evo t y=some (.int k j)) (hk:k.signed=false) (a b:Nat) (ha:i=a) (e:j=b) (d:a<M) (c:b<M):
 Ev G P ⟨dst,.binOp .or T x y U,ty,pos,after,g⟩ t H (.int k ((a |||b:Nat):Int)):=by subst f;exact Mi hx hy hk a b ha e d c
theorem lf (f:2^k.bits=M) (hx:evo t x=some (.int k i)) (hy:evo t y=some (.int k j)) (hk:k.signed=false) (a b:Nat) (ha:i=a) (e:j=b) (d:a<M) (c:b<M):
 Ev G P ⟨dst,.binOp .xor T x y U,ty,pos,after,g⟩ t H (.int k ((a ^^^ b:Nat):Int)):=by subst f;exact IY hx hy hk a b ha e d c
theorem rM (c:2^k.bits=M) (hx:evo t x=some (.int k i)) (hk:k.signed=false) (a:Nat) (ha:i=a) (b:a<M):
 Ev G P ⟨dst,.unOp .xor T x,ty,pos,after,g⟩ t H (.int k (((M-1) ^^^ a:Nat):Int)):=by subst c;exact J2 hx hk a ha b
theorem gm (d:2^k.bits=M) (hx:evo t x=some (.int k i)) (hy:evo t y=some (.int k' j)) (hk:k.signed=false) (a b:Nat) (ha:i=a) (c:j=b):
 Ev G P ⟨dst,.binOp .shl T x y U,ty,pos,after,g⟩ t H (.int k ((a*2^b%M:Nat):Int)):=by subst d;exact J0 hx hy hk a b ha c
theorem wz (d:2^k.bits=M) (hx:evo t x=some (.int k i)) (hy:evo t y=some (.int k' j)) (hk:k.signed=false) (a b:Nat) (ha:i=a) (c:j=b) (h:a*2^b<M):
 Ev G P ⟨dst,.binOp .shl T x y U,ty,pos,after,g⟩ t H (.int k ((a*2^b:Nat):Int)):=by
 have:=gm (G:=G) (P:=P) (H:=H) (dst:=dst) (ty:=ty) (pos:=pos) (after:=after) (g:=g) (T:=T) (U:=U) M d hx hy hk a b ha c
 rwa [Xt h]at this
theorem dk [hs:Und P T ds] [hd:Und P U (.int k')] (b:2^k'.bits=M) (hx:evo t x=some (.int k i)) (hk:k'.signed=false) (a:Nat) (ha:i=a):
 Ev G P ⟨dst,.convert T U x,ty,pos,after,g⟩ t H (.int k' ((a%M:Nat):Int)):=by subst b;exact Gn hx hk a ha
theorem cR [hs:Und P T ds] [hd:Und P U (.int k')] (b:2^k'.bits=M) (hx:evo t x=some (.int k i)) (hk:k'.signed=false) (a:Nat) (ha:i=a) (h:a<M):
 Ev G P ⟨dst,.convert T U x,ty,pos,after,g⟩ t H (.int k' ((a:Nat):Int)):=by
 have:=dk (G:=G) (P:=P) (H:=H) (dst:=dst) (ty:=ty) (pos:=pos) (after:=after) (g:=g) (T:=T) (U:=U) (k':=k') M b hx hk a ha
 rwa [Xt h]at this
end
theorem mC {l:List Oper}{T E:TypeId}{x:Operand}{lo hi:Option Operand}{s:SV}{α:Type}{e:Enc α}{xs:List α}{bb:Nat}{z:Value}(F:cG) (hx:evo t x=some s.val) [f:Sl F s e xs] [hT:Und P T (.slice E)] [hE:Inf P E e.sz bb z] [hs:Sl H s e xs]
 (a b:Nat) (c:match lo with|none=>a=0|some o=>∃k j,evo t o=some (.int k j)∧j=(a:Int)) (d:match hi with|none=>b=xs.length|some o=>∃k j,evo t o=some (.int k j)∧j=(b:Int)) (h1:a≤b) (h2:b≤xs.length) (hd:fC N dst=true)
 (hk:∀s':SV,Sl F s' e ((xs.take b).drop a)→O G P N ops l Q (put t dst s'.val) H):O G P N ops (⟨dst,.slice T x lo hi none,ty,pos,after,none⟩::l) Q t H:=
 Fh (yh hx a b c d h1 h2) hd (hk _ (Sl.cut f h1 h2))
end
end
section
variable {C:Hp→cG}{E T:TypeId}{F H' R:cG}{K:Value→cG→Prop}{α ι:Type}{a y1:α}{args:List Value}{b bb i sz:Nat}{e:Enc α}{f:FuncId}{l:List Oper}{s:SV}{v v1 z:Value}{w:World}{x x1 y:Operand}{xs ys:List α}
class i6 {α:Type}(e:Enc α) (v:Value) (x:outParam α):Prop where
 out:e.v x=v
instance {n:Nat}:i6 eB (.int .u8 ((n:Nat):Int)) n:=⟨rfl⟩
instance {i:Int}:i6 eI (.int .i64 i) i:=⟨rfl⟩
instance {s:ByteArray}:i6 eS (.string s) s:=⟨rfl⟩
instance {s:SV}:i6 eSV s.val s:=⟨rfl⟩
class kX {α:Type}(e:Enc α) (x:α) (v:outParam Value):Prop where
 out:e.v x=v
instance {n:Nat}:kX eB n (.int .u8 (n:Int)):=⟨rfl⟩
instance {i:Int}:kX eI i (.int .i64 i):=⟨rfl⟩
instance {s:ByteArray}:kX eS s (.string s):=⟨rfl⟩
instance {s:SV}:kX eSV s s.val:=⟨rfl⟩
section
variable {G:cJ}{P:Program}{N:Nat}{Q:Post}{t:Tm}{H:cG}{ops:Array Oper}{dst:Option Tmp}{ty:TypeId}{pos:String}{after:Array Edge}{g:Option (Nat×Bool)}
theorem fK (e:Enc α) [hT:Und P T (.slice E)] [hE:Inf P E sz bb z] (a:sz=e.sz):
 St G P ⟨dst,.buildSlice T 0 #[],ty,pos,after,g⟩ t H (λu H'=>∃s:SV,u=s.val∧H'=Row s e []::H):=by
 subst a;exact dt e [] (by simp only[qI,Enc.parts]) rfl (by have:=e.small;omega)
theorem eC (e:Enc α) [hT:Und P T (.slice E)] [hE:Inf P E sz bb z] (a:evo t x1=some v1) [b:i6 e v1 y1] (c:sz=e.sz):
 St G P ⟨dst,.buildSlice T 1 #[(0,x1)],ty,pos,after,g⟩ t H (λu H'=>∃s:SV,u=s.val∧H'=Row s e [y1]::H):=by
 subst c;exact dt e [y1] (by simp only[qI,Enc.parts,a,b.out]) rfl (by have:=e.small;omega)
theorem uC {j:Value}{i:Operand}(e:Enc α){a:α} [hT:Und P T (.slice E)] [hE:Inf P E sz bb z] (c:evo t x1=some v1) (b:evo t i=some j) [f:i6 e v1 y1] [d:i6 e j a] (h:sz=e.sz):
 St G P ⟨dst,.buildSlice T 2 #[(0,x1),(1,i)],ty,pos,after,g⟩ t H (λu H'=>∃s:SV,u=s.val∧H'=Row s e [y1,a]::H):=by
 subst h;exact dt e [y1,a] (by simp only[qI,Enc.parts,c,b,f.out,d.out]) rfl (by have:=e.small;omega)
theorem Cj {w v r:Value}{q p n:Operand}(e:Enc α){c b a:α} [hT:Und P T (.slice E)] [hE:Inf P E sz bb z] (h:evo t x1=some v1) (f:evo t q=some w) (d:evo t p=some v) (hx4:evo t n=some r) [l:i6 e v1 y1] [k:i6 e w c] [j:i6 e v b] [i:i6 e r a] (m:sz=e.sz):
 St G P ⟨dst,.buildSlice T 4 #[(0,x1),(1,q),(2,p),(3,n)],ty,pos,after,g⟩ t H (λu H'=>∃s:SV,u=s.val∧H'=Row s e [y1,c,b,a]::H):=by
 subst m;exact dt e [y1,c,b,a] (by simp only[qI,Enc.parts,h,f,d,hx4,l.out,k.out,j.out,i.out]) rfl (by have:=e.small;omega)
theorem dS (hx:evo t x=some (.pointer (s.elt sz i 0))) [hT:One P T] [hs:Sl H s e xs] (a:e.sz=sz) (ha:e.agg=false) (y:α) (hy:xs[i]? =some y) [hv:kX e y v]:
 Ev G P ⟨dst,.load T x,ty,pos,after,g⟩ t H v:=by subst a;exact hv.out ▸ uh hx ha y hy
theorem yl (hx:evo t x=some (.pointer (s.elt sz i 0))) [hT:Agg P T sz] [hs:Sl H s e xs] (a:e.sz=sz) (ha:e.agg=true) (y:α) (hy:xs[i]? =some y) [hv:kX e y v]:
 Ev G P ⟨dst,.load T x,ty,pos,after,g⟩ t H v:=by subst a;exact hv.out ▸ tI hx ha y hy
theorem oQ {o:Nat}(hx:evo t x=some (.pointer (s.elt sz i o))) [hT:One P T] [hs:Sl H s e xs] (a:e.sz=sz) (y:α) (hy:xs[i]? =some y) (hc:(e.f y)[o]? =some v):
 Ev G P ⟨dst,.load T x,ty,pos,after,g⟩ t H v:=by subst a;exact rl hx y hy hc
theorem yk {o n:Nat}{l cs:List Value}(hx:evo t x=some (.pointer (s.elt sz i o))) [hT:Agg P T n] [hs:Sl H s e xs] (a:e.sz=sz) (y:α) (hy:xs[i]? =some y) (hl:e.f y=l) [hc:Cut l o n cs]:
 Ev G P ⟨dst,.load T x,ty,pos,after,g⟩ t H (.agg cs.toArray):=by subst a;subst hl;exact wB hx y hy
theorem J7 (hx:evo t x=some s.val) [hT:Und P T (.slice E)] [hs:Sl H s e xs]:
 Ev G P ⟨dst,.call ⟨.builtin .len, #[x], #[T]⟩,ty,pos,after,g⟩ t H (.int .i64 ((xs.length:Nat):Int)):=Mo (T:=T) hx rfl
theorem ym {s:ByteArray}(hx:evo t x=some (.string s)) [hT:Und P T .string]:
 Ev G P ⟨dst,.call ⟨.builtin .len, #[x], #[T]⟩,ty,pos,after,g⟩ t H (.int .i64 ((s.size:Nat):Int)):=A8 (T:=T) hx rfl
theorem fA {lo hi:Option Operand}(hx:evo t x=some s.val) [hT:Und P T (.slice E)] [hE:Inf P E sz bb z] [hs:Sl H s e xs] (a:e.sz=sz) (l h:Nat) (b:match lo with|none=>l=0|some o=>∃k j,evo t o=some (.int k j)∧j=(l:Int)) (c:match hi with|none=>h=xs.length|some o=>∃k j,evo t o=some (.int k j)∧j=(h:Int)) (h1:l≤h) (h2:h≤xs.length):
 Ev G P ⟨dst,.slice T x lo hi none,ty,pos,after,g⟩ t H (s.cut sz l h).val:=by subst a;exact yh hx l h b c h1 h2
theorem By {U:TypeId}{a b:Int}(hx:evo t x=some (.int .i64 a)) (hy:evo t y=some (.int .i64 b)) (c:Int) (h:IntKind.i64.wrap (a-b)=c):
 Ev G P ⟨dst,.binOp .sub T x y U,ty,pos,after,g⟩ t H (.int .i64 c):=
 fun ρ hρ w _=>by simp[execOp,hρ _ _ hx,hρ _ _ hy,eqGuard,binOp,Op.intArith,h]
theorem rN {U:TypeId}{a b:Int}(hx:evo t x=some (.int .i64 a)) (hy:evo t y=some (.int .i64 b)) (c:Int) (h:IntKind.i64.wrap (a+b)=c):
 Ev G P ⟨dst,.binOp .add T x y U,ty,pos,after,g⟩ t H (.int .i64 c):=
 fun ρ hρ w _=>by simp[execOp,hρ _ _ hx,hρ _ _ hy,eqGuard,binOp,Op.intArith,h]
theorem cZ {a:Nat}(hm:P.follows .mixedOrders=true) (h:An G P N l.toArray ph (at_ H) Q l.length (Array.replicate l.length false) t H):W G P N (.region a l.toArray true) Q t H:=Kh hm ph (at_ H) h
theorem yn {vs:Array Value}(hx:evo t x=some (.tuple vs)) (hv:vs.toList[i]? =some v):
 Ev G P ⟨dst,.extract x i,ty,pos,after,g⟩ t H v:=A9 hx (by rw[←U7];exact hv)
theorem Eu {T2:TypeId}{s2:SV}{a:Nat}(hx:evo t x=some (s.cut e.sz a b).val) (hy:evo t y=some s2.val) [hT:Und P T (.slice E)] [hE:Inf P E e.sz bb z] [hf:mc H s e xs C] [hs:Sl H s2 e ys] (h1:a≤b) (h2:b≤xs.length) (m:Nat) (hm:m=min ys.length (b-a)):
 St G P ⟨dst,.call ⟨.builtin .copy, #[x,y], #[T,T2]⟩,ty,pos,after,g⟩ t H (λu H'=>u=.int .i64 ((m:Nat):Int)∧H'=C (Row s e (xs.take a++ys.take m++xs.drop (a+m)))):=
 fun ρ hρ w hw=>by
  obtain⟨Z,q2,Y⟩:=hs.get hw;have k:m≤ys.length:=a8;have n:(Builtin.lenOf s2.val).run P w=.ok ys.length w:=by simp[Builtin.lenOf,SV.val,Z]
  have c:(Builtin.firstCells e.sz m s2.val).run P w=.ok (e.all (ys.take m)).toArray w:=by
   rcases Y with⟨rfl,_⟩|⟨p,K,d,l,fz,h4,hb,_,h6⟩
   ·simp at k;subst k;rw[ka];rfl
   ·have:=dP (P:=P) (o:=K) hb (e.all (ys.take m)) (λj v hv=>h6 j v (by
     rw[e.all_take]at hv;have hj:=(Yk.1 hv).1;rw[Yg]at hj
     rwa [Xz a8]at hv))
    rw[e.all_length,Yg,Vk k]at this;simp only[Builtin.firstCells,SV.val,h4,this]
  obtain⟨L1,M,L2,hl,N,R⟩:=hf.split hw;have f:(e.all (ys.take m)).length=m*e.sz:=by rw[e.all_length,Yg,Vk k]
  have B:Nat.min ys.length (b-a)=m:=hm.symm
  by_cases hm0:m=0
  ·subst hm0;have he:xs.take a++ys.take 0++xs.drop (a+0)=xs:=ak;rw[he];have hr:(execOp ρ ⟨dst,.call ⟨.builtin .copy, #[x,y], #[T,T2]⟩,ty,pos,after,g⟩).run P w=.ok (.value (.int .i64 ((0:Nat):Int))) w:=by
    simp only[execOp,resolve,invoke,builtin,Uh,Xn,Ul,hρ _ _ hx,hρ _ _ hy,Sem.run_bind,Sem.run_pure,Result.andThen_ok,Builtin.copy_,Vv,Xb,Xc,cS (T:=T),SV.val,SV.cut];have hlen':=n;have hfirst':=c;simp only[SV.val]at hlen' hfirst';simp only[hlen',Result.andThen_ok,B,dA (T:=E) (s:=e.sz),hfirst'];cases h:(if s.c=a then s.a else Option.map (λx=>x.add (a*e.sz)) s.a) <;> simp[gP,storeCells,goInt]
   rw[hr];exact⟨C (Row s e xs),⟨hw.1,_,R _ M N,hl⟩,rfl,rfl⟩
  ·rcases N with⟨rfl,rfl,rfl⟩|⟨p,d,l,fz,X,g2,g3,rfl,V,U,S⟩
   ·simp at h2;omega
   ·have J:w.heap[p]? =some (.cells d l fz):=hl.at_ (p,.cells d l fz) ak;have L:¬(s.c=a):=a8;have F:a*e.sz+(e.all (ys.take m)).length≤d.size:=by
     rw[f,V,←Vg];exact Vc _ a8
    have A:=ez (P:=P) (o:=a*e.sz) (e.all (ys.take m)) 0 d w J (λj _ h=>U.free j a8) a8 (e.all_one _);have hr:(execOp ρ ⟨dst,.call ⟨.builtin .copy, #[x,y], #[T,T2]⟩,ty,pos,after,g⟩).run P w=.ok (.value (.int .i64 ((m:Nat):Int))) (e7 w p (.cells (ej d (a*e.sz) (e.all (ys.take m))) l fz)):=by
     simp only[execOp,resolve,invoke,builtin,Uh,Xn,Ul,hρ _ _ hx,hρ _ _ hy,Sem.run_bind,Sem.run_pure,Result.andThen_ok,Builtin.copy_,Vv,Xb,Xc,cS (T:=T),SV.val,SV.cut];have hlen':=n;have hfirst':=c;simp only[SV.val]at hlen' hfirst';simp only[hlen',Result.andThen_ok,B,dA (T:=E) (s:=e.sz),hfirst',L,↓reduceIte,X,Vd,gu,Vf,Sem.run_bind];simp only[Ur]at A;rw[A];rfl
    rw[hr];refine⟨C (Row s e (xs.take a++ys.take m++xs.drop (a+m))),⟨⟨hw.1.os,hw.1.tape,hw.1.output⟩,_,R _ [(p,.cells (ej d (a*e.sz) (e.all (ys.take m))) l fz)] (.inr ⟨p,_,l,fz,X,?_,g3,rfl,by rw[er,V],by rw[er];exact U,?_⟩),?_⟩,rfl,rfl⟩
    ·simp;omega
    ·intro j u q;rw[fy _ _ _ _ F,f];rw[e.all_append,e.all_append]at q;have r:(e.all (xs.take a)).length=a*e.sz:=bL
     by_cases hj:j<a*e.sz
     ·rw[if_neg a8];rw[Yf,Yv a8,e.all_take,Xz hj]at q;exact S j u q
     ·by_cases hj2:j<a*e.sz+m*e.sz
      ·rw[if_pos a8];rw[Yf,Yu a8,r,Yv a8]at q;exact q
      ·rw[if_neg a8];rw[Yu (by rw[Ya,r,f];omega),Ya,r,f,e.all_drop,Xh,Vg]at q;exact S j u (by rw[←q];congr 1;omega)
    ·have:=ju.change (w':=e7 w p (.cells (ej d (a*e.sz) (e.all (ys.take m))) l fz)) (L1:=L1) (L2:=L2) (b:=p) (o:=.cells d l fz) (o':=.cells (ej d (a*e.sz) (e.all (ys.take m))) l fz) aP (fB J) (λi hi _=>eL hi)
     simpa using this
theorem rG {T2:TypeId}{s2:SV}{a:Nat}(hx:evo t x=some (s.cut sz a b).val) (hy:evo t y=some s2.val) [hT:Und P T (.slice E)] [hE:Inf P E sz bb z] [hf:mc H s e xs C] [hs:Sl H s2 e ys] (c:e.sz=sz) (h1:a≤b) (h2:b≤xs.length) (m:Nat) (hm:m=min ys.length (b-a)):
 St G P ⟨dst,.call ⟨.builtin .copy, #[x,y], #[T,T2]⟩,ty,pos,after,g⟩ t H (λu H'=>u=.int .i64 ((m:Nat):Int)∧H'=C (Row s e (xs.take a++ys.take m++xs.drop (a+m)))):=by subst c;exact Eu hx hy h1 h2 m hm
theorem Ey {xs:List Nat} [hT:Und P T (.slice E)] [hE:Und P E (.int .u8)] (hx:evo t x=some s.val) [hf:mc H s eB xs C] (k:xs≠ []):
 St G P ⟨dst,.convert T T x,ty,pos,after,g⟩ t H (λu H'=>u=s.val∧H'=C (Row s eB xs)):=
 fun ρ hρ w hw=>by
  obtain⟨L1,M,L2,hl,q,r⟩:=hf.split hw;rcases q with⟨rfl,rfl,rfl⟩|⟨b,c,d,fz,p,B,A,rfl,z,y,v⟩
  ·exact absurd rfl k
  ·have e:w.heap[b]? =some (.cells c d fz):=hl.at_ (b,.cells c d fz) ak;obtain⟨a,m,j⟩:∃a,(if fz.1==fz.2 then(c.size,c.size+1)else(min fz.1 c.size,max fz.2 (c.size+1)))=a∧Okf c.size a:=by
    refine⟨_,rfl,?_⟩
    by_cases h:fz.1=fz.2
    ·rw[if_pos (by simp[h])];exact .inr (Xj _)
    ·rw[if_neg (by simp[h])];rcases y with h6|h6
     ·exact absurd h6 h
     ·exact .inr (by simp only[];omega)
   have n:w.freeze ⟨b,c.size,none⟩ 1=e7 w b (.cells c d a):=by
    unfold World.freeze e7;rw[if_neg ae];congr 1;apply Q3;intro i;simp only[Array.getElem?_modify,X6];have l:=(Vh.1 e).1
    by_cases hi:b=i
    ·subst hi;rw[if_pos rfl,if_pos rfl,if_pos l,e,Vd];rw[←m]
    ·rw[if_neg hi,if_neg hi]
   have f:w.shape? b=some (d,c.size):=by unfold World.shape?;rw[e]
   have hr:(execOp ρ ⟨dst,.convert T T x,ty,pos,after,g⟩).run P w=.ok (.value s.val) (e7 w b (.cells c d a)):=by
    simp only[execOp,convert,hρ _ _ hx,Sem.run_bind,cS (T:=T),cS (T:=E),Result.andThen_ok,SV.val,p,BEq.rfl,markStringish,run_shape,f,run_freeze,n,Sem.run_pure]
   rw[hr];refine⟨C (Row s eB xs),⟨⟨hw.1.os,hw.1.tape,hw.1.output⟩,_,r _ [(b,.cells c d a)] (.inr ⟨b,c,d,a,p,B,A,rfl,z,j,v⟩),?_⟩,rfl,rfl⟩;have:=ju.change (w':=e7 w b (.cells c d a)) (L1:=L1) (L2:=L2) (b:=b) (o:=.cells c d fz) (o':=.cells c d a) aP (fB e) (λi hi _=>eL hi)
   simpa using this
theorem SC.out (h:SC G P f args H (λv H'=>∃a,cH H' a∧K v a)):SC G P f args H K:=
 ⟨h.enter,λw b=>(h.call w b).mono λe w' he=>by
  cases e with
  |returned v=>obtain⟨H',h1,a,h2,h3⟩:=he;exact⟨a,h2.sat h1,h3⟩
  |_=>exact he.elim⟩
class Rem (H:cG) {ι α:Type}(K:ι→α→Hp) (i:ι) (a:outParam α) (R:outParam cG):Prop where
 out:∀L,Sep H L→∃L',L'.Perm L∧Sep (K i a::R) L'
instance Rem.head {H:cG}{ι α:Type}{K:ι→α→Hp}{i:ι}{a:α}:Rem (K i a::H) K i a H:=⟨λL h=>⟨L,.refl L,h⟩⟩
instance Rem.tail {A:Hp}{H R:cG}{ι α:Type}{K:ι→α→Hp}{i:ι}{a:α} [h:Rem H K i a R]:Rem (A::H) K i a (A::R):=
 ⟨λL hL=>by
  obtain⟨L1,L2,rfl,h1,h2⟩:=hL
  obtain⟨L',hp,M1,M2,rfl,h3,h4⟩:=h.out L2 h2
  refine⟨M1++(L1++M2),?_,M1,L1++M2,rfl,h3,L1,M2,rfl,h1,h4⟩
  rw[←Yf]
  refine((List.perm_append_comm.append_right M2).trans ?_)
  rw[Yf]
  exact hp.append_left L1⟩
theorem Rem.sat {K:ι→α→Hp}{i:ι}(h:Rem H K i a R) (b:Sat G w H):Sat G w (K i a::R):=
 b.imp λL hL=>let ⟨L',h1,h2⟩:=h.out L hL;⟨L',h2,.inr h1⟩
theorem SC.rem {b:ι→α→Hp}{i:ι} [h:Rem H b i a R] (hc:SC G P f args (b i a::R) K):SC G P f args H K:=
 hc.heap λ_ c=>h.sat c
def gO (F:cG):Hp:=λL=>Sep F L
theorem SC.star (h:SC G P f args (F++H) K):SC G P f args (gO F::H) K:=
 h.heap λw c=>by
  obtain⟨a,L,⟨L1,L2,rfl,h1,h2⟩,hl⟩:=c;refine⟨a,_,?_,hl⟩;clear hl a h;revert h1;generalize hF:F=F';clear hF
  induction F' generalizing L1 with
  |nil=>intro h1;obtain rfl:L1= []:=h1;exact h2
  |cons A F ih=>
   intro h1;obtain⟨d,b,rfl,h3,h4⟩:=h1;exact⟨d,b++L2,ak,h3,ih b h4⟩
theorem mr:∀{L:mX},Sep (F++H) L→∃L1 L2,L=L1++L2∧Sep F L1∧Sep H L2:=by
 induction F with
 |nil=>intro L hL;exact⟨[],L,rfl,rfl,hL⟩
 |cons A F ih=>
  intro L hL;obtain⟨b,M2,rfl,h1,h2⟩:=hL;obtain⟨a,c,rfl,h3,h4⟩:=ih h2;exact⟨b++a,c,ak,⟨b,a,rfl,h1,h3⟩,h4⟩
theorem cH.star (h:cH H H'):cH (F++H) (gO F::H'):=λL hL=>by
 obtain⟨L1,L2,rfl,h1,h2⟩:=mr hL;obtain⟨a,M,h3,h4⟩:=h L2 h2;exact⟨L1++a,M,⟨L1,a,rfl,h1,h3⟩,by rw[Yf];exact h4.append_left L1⟩
class gV (H:cG) (s:SV) {α:outParam Type}(e:outParam (Enc α)) (xs:outParam (List α)) (R:outParam cG):Prop where
 out:∀L,Sep H L→∃L',L'.Perm L∧Sep (Row s e xs::R) L'
instance gV.head {H:cG}{s:SV}{α:Type}{e:Enc α}{xs:List α}:gV (Row s e xs::H) s e xs H:=⟨λL h=>⟨L,.refl L,h⟩⟩
instance gV.tail {A:Hp}{H R:cG}{s:SV}{α:Type}{e:Enc α}{xs:List α} [h:gV H s e xs R]:gV (A::H) s e xs (A::R):=
 ⟨λL hL=>by
  obtain⟨L1,L2,rfl,h1,h2⟩:=hL
  obtain⟨L',hp,M1,M2,rfl,h3,h4⟩:=h.out L2 h2
  refine⟨M1++(L1++M2),?_,M1,L1++M2,rfl,h3,L1,M2,rfl,h1,h4⟩
  rw[←Yf]
  refine((List.perm_append_comm.append_right M2).trans ?_)
  rw[Yf]
  exact hp.append_left L1⟩
theorem cH.rem {K:ι→α→Hp}{i:ι}(hr:Rem H K i a R) (h:cH (K i a::R) H'):cH H H':=λL hL=>by
 obtain⟨c,h1,h2⟩:=hr.out L hL;obtain⟨b,M,h3,h4⟩:=h c h2;exact⟨b,M,h3,h4.trans h1⟩
theorem dH (hr:gV H s e xs R) (h:cH (Row s e xs::R) H'):cH H H':=λL hL=>by
 obtain⟨b,h1,h2⟩:=hr.out L hL;obtain⟨a,M,h3,h4⟩:=h b h2;exact⟨a,M,h3,h4.trans h1⟩
theorem Jz {l:List Value} [hr:Rem H Vr b l R] (h:cH R H'):cH H (Vr b l::H'):=cH.rem hr h.keep
theorem cH.row [hr:gV H s e xs R] (h:cH R H'):cH H (Row s e xs::H'):=dH hr h.keep
theorem cH.nilRow (h:cH H H'):cH H (Row SV.nil e []::H'):=cH.add (.inl ⟨rfl,rfl,rfl⟩) h
def Wr (b:Nat) (xs:List Nat):Hp:=λL=>∃s:SV,Sep [Vr b [s.val],Row s eB xs] L
theorem Jy {xs:List Nat} [hr:Rem H Wr b xs R] (h:cH R H'):cH H (Wr b xs::H'):=cH.rem hr h.keep
theorem Hd {c:cG}{xs:List Nat} [hr:Rem H Vr b [s.val] R] [a:gV R s eB xs c] (h:cH c H'):cH H (Wr b xs::H'):=by
 refine cH.rem hr (cH.trans (H':=Vr b [s.val]::Row s eB xs::c) ?_ ?_)
 ·exact cH.keep (dH a cH.refl)
 ·intro L hL;obtain⟨L1,L2,rfl,h1,L3,f,rfl,h3,h4⟩:=hL;obtain⟨d,M,e,h6⟩:=h f h4;exact⟨(L1++L3)++d,M,⟨L1++L3,d,rfl,⟨s,L1,L3,rfl,h1,L3, [],ak,h3,rfl⟩,e⟩,aJ⟩
theorem Hc [hr:Rem H Vr b [.slice none 0 0] R] (h:cH R H'):cH H (Wr b []::H'):=by
 refine cH.rem hr λL hL=>?_;obtain⟨L1,L2,rfl,h1,h2⟩:=hL;obtain⟨a,M,c,h6⟩:=h L2 h2;exact⟨L1++a,M,⟨L1,a,rfl,⟨SV.nil,L1, [],ak,h1, [], [],rfl,.inl ⟨rfl,rfl,rfl⟩,rfl⟩,c⟩,by rw[Yf];exact h6.append_left L1⟩
theorem sR {xs:List Nat}(hr:Rem H Wr b xs R) (h:∀s:SV,SC G P f args (Vr b [s.val]::Row s eB xs::R) K):SC G P f args H K:=
 SC.heap (H':=Wr b xs::R) ⟨(h SV.nil).enter,λw a=>by
  obtain⟨d,L,⟨L1,L2,rfl,⟨s,g,M2,rfl,h1,c,e,rfl,h2,h3⟩,h4⟩,hl⟩:=a;obtain rfl:e= []:=h3;exact(h s).call w ⟨d,_,⟨g,c++L2,ak,h1,c,L2,rfl,h2,h4⟩,hl⟩⟩ λ_ a=>hr.sat a
def Ob (ops:Array Oper) (loud:Nat→Bool) (listed:Array Bool) (i:Nat):Bool:=
 (List.range ops.size).all λj=>!(loud j&&listed.getD j false) ||match ops[j]? with
   |some oj=>oj.after.all λe=>!(Region.binds .any e&&e.on==i)
   |none=>true
theorem iR {loud:Nat→Bool}{a:Array Bool}(h:Ob ops loud a i=false):¬qg ops loud i a:=by
 intro hl;rw[←Bool.not_eq_true]at h;refine h (V5.2 λj _=>?_);cases hlj:loud j with
 |false=>rfl
 |true=>
  cases hli:a.getD j false with
  |false=>rfl
  |true=>
   cases hj:ops[j]? with
   |none=>rfl
   |some oj=>
    simp only[Bool.and_self,S3,Bool.false_or];refine Array.all_eq_true'.2 λe he=>?_;cases hb:Region.binds .any e with
    |false=>rfl
    |true=>have:=hl j oj hj hlj hli e he hb;simp[this]
theorem Lp {xs:List Nat}(hr:Rem H Wr b xs R) (c:Sat G w H):∃s:SV,Sat G w (Vr b [s.val]::Row s eB xs::R):=by
 obtain⟨d,L,⟨L1,L2,rfl,⟨s,f,M2,rfl,h1,a,e,rfl,h2,h3⟩,h4⟩,hl⟩:=hr.sat c;obtain rfl:e= []:=h3;exact⟨s,d,_,⟨f,a++L2,ak,h1,a,L2,rfl,h2,h4⟩,hl⟩
theorem Fc (b:Nat){xs:List Nat} [hr:Rem H Wr b xs R] (h:∀s:SV,O G P N ops l Q t (Vr b [s.val]::Row s eB xs::R)):O G P N ops l Q t H:=
 ⟨λa w ha c=>let ⟨s,hs⟩:=Lp hr c;(h s).go a w ha hs⟩
theorem w_hsub {c:Code}(hs:cH H H') (h:W G P N c Q t H'):W G P N c Q t H:=⟨λa w ha b=>h.go a w ha (hs.sat b)⟩
theorem eN (hs:cH H H') (h:O G P N ops l Q t H'):O G P N ops l Q t H:=⟨λa w ha b=>h.go a w ha (hs.sat b)⟩
end
end
def gix:Nat→Nat:=λi=>[11,8,1,2,3,4,5,6,7,9,10,12,0,13,14,15,16,17,18,19,20,21,22,23].getD i 0
def og (i:Nat):Bool:=decide (i<24)&&!([]:List Nat).contains i
theorem wk {i : Nat} (h : og i = true) : i < 24 := by
  unfold og at h
  simp only [Xu, Xs] at h
  exact h.1
class nK (i:Nat):Prop where
 out:og i=true
instance:nK 0:=⟨ae⟩
instance:nK 1:=⟨ae⟩
instance:nK 2:=⟨ae⟩
instance:nK 3:=⟨ae⟩
instance:nK 4:=⟨ae⟩
instance:nK 5:=⟨ae⟩
instance:nK 6:=⟨ae⟩
instance:nK 7:=⟨ae⟩
instance:nK 8:=⟨ae⟩
instance:nK 9:=⟨ae⟩
instance:nK 10:=⟨ae⟩
instance:nK 11:=⟨ae⟩
instance:nK 12:=⟨ae⟩
section
variable {R:cG}{b k:Nat}{w:World}{xs:List Nat}
section
variable {G:cJ}{P:Program}{N:Nat}{Q:Post}{t:Tm}{H:cG}{ops:Array Oper}
def Ex {β:Type}(F:β→cG):Hp:=λL=>∃s,Sep (F s) L
theorem pw:∀{F:cG}{R:cG}{L1 L2:mX},Sep F L1→Sep R L2→Sep (F++R) (L1++L2):=by
 intro F
 induction F with
 |nil=>intro R L1 L2 h1 h2;obtain rfl:L1= []:=h1;exact h2
 |cons A F ih=>
  intro R L1 L2 h1 h2;obtain⟨b,a,rfl,h3,h4⟩:=h1;rw[Yf];exact⟨b,a++L2,rfl,h3,ih h4 h2⟩
theorem zA {ι α β:Type}{K:ι→α→Hp}{i:ι}{a:α}{F:β→cG}(d:K i a=Ex F) (hr:Rem H K i a R) (b:Sat G w H):∃s,Sat G w (F s++R):=by
 obtain⟨c,L,⟨L1,L2,rfl,h1,h2⟩,hl⟩:=hr.sat b;rw[d]at h1;obtain⟨s,h1⟩:=h1;exact⟨s,c,_,pw h1 h2,hl⟩
theorem Bn {ι α β:Type}{K:ι→α→Hp}{i:ι}{a:α}{F:β→cG}(b:K i a=Ex F) (s:β):cH (F s++R) (K i a::R):=λL hL=>by
 obtain⟨L1,L2,rfl,h1,h2⟩:=mr hL;exact⟨L1++L2, [],⟨L1,L2,rfl,by rw[b];exact⟨s,h1⟩,h2⟩,ak⟩
def Rd (b:Nat) (p:List Nat×Nat):Hp:=Ex λs:SV=>[Vr b [.int .i64 ((p.2:Nat):Int),.int .i64 ((p.1.length:Nat):Int),s.val],Row s eB p.1]
theorem EJ (hr:Rem H Rd b (xs,k) R) (a:Sat G w H):∃s:SV,Sat G w (Vr b [.int .i64 ((k:Nat):Int),.int .i64 ((xs.length:Nat):Int),s.val]::Row s eB xs::R):=
 zA (K:=Rd) rfl hr a
theorem mA {l:List Oper}(b:Nat) [hr:Rem H Rd b (xs,k) R] (h:∀s:SV,O G P N ops l Q t (Vr b [.int .i64 ((k:Nat):Int),.int .i64 ((xs.length:Nat):Int),s.val]::Row s eB xs::R)):O G P N ops l Q t H:=
 ⟨λa w ha c=>let ⟨s,hs⟩:=EJ hr c;(h s).go a w ha hs⟩
theorem xB {f:FuncId}{args:List Value}{K:Value→cG→Prop}(hr:Rem H Rd b (xs,k) R) (h:∀s:SV,SC G P f args (Vr b [.int .i64 ((k:Nat):Int),.int .i64 ((xs.length:Nat):Int),s.val]::Row s eB xs::R) K):SC G P f args H K:=
 ⟨(h SV.nil).enter,λw a=>let ⟨s,hs⟩:=EJ hr a;(h s).call w hs⟩
theorem cH.rd {H':cG}{p:List Nat×Nat} [hr:Rem H Rd b p R] (h:cH R H'):cH H (Rd b p::H'):=cH.rem hr h.keep
theorem cH.rd' {d H':cG}{s:SV}{n:Int} [hr:Rem H Vr b [.int .i64 ((k:Nat):Int),.int .i64 n,s.val] R] [c:gV R s eB xs d] (e:n=((xs.length:Nat):Int)) (h:cH d H'):cH H (Rd b (xs,k)::H'):=by
 subst e;refine cH.rem hr (cH.trans (H':=Vr b [.int .i64 ((k:Nat):Int),.int .i64 ((xs.length:Nat):Int),s.val]::Row s eB xs::d) ?_ ?_)
 ·exact cH.keep (dH c cH.refl)
 ·exact(Bn (K:=Rd) (i:=b) (a:=(xs,k)) rfl s).trans h.keep
class Glb (G:outParam cJ) (H:cG):Prop where
 err:∀i,og i=true→∀L,Sep H L→∃E fz,(gix i,Obj.cells #[G.err i] E fz)∈L
 blk:∀i,og i=true→∀L,Sep H L→∃C E,(G.eb i,Obj.cells C E (0,0))∈L
 inj:∀a b,G.eb a=G.eb b→G.eo a=G.eo b→a=b
instance Glb.tail {A:Hp} [h:Glb G H]:Glb G (A::H):=
 ⟨λi hi L hL=>by obtain⟨L1,L2,rfl,_,h2⟩:=hL;obtain⟨E,fz,hm⟩:=h.err i hi L2 h2;exact⟨E,fz,Yx _ hm⟩,
  λi hi L hL=>by obtain⟨L1,L2,rfl,_,h2⟩:=hL;obtain⟨C,E,hm⟩:=h.blk i hi L2 h2;exact⟨C,E,Yx _ hm⟩,h.inj⟩
theorem gK (i:Nat) [h:nK i] [a:Glb G H]:cY H (gix i) [G.err i]:=⟨a.err i h.out⟩
instance {i:Nat} [h:nK i] [hg:Glb G H]:rA H (G.eb i):=⟨hg.blk i h.out⟩
end
class Tab (H:cG) (b:Nat) (l:outParam (List Nat)):Prop where
 out:∀L,Sep H L→∃E fz,(b,Obj.cells (l.map λn=>Value.int .u32 ((n:Nat):Int)).toArray E fz)∈L
instance Tab.tail {A:Hp}{H:cG}{b:Nat}{l:List Nat} [h:Tab H b l]:Tab (A::H) b l:=
 ⟨λL hL=>bS⟩
instance {H:cG}{b:Nat}{l:List Nat} [h:Tab H b l]:cY H b (l.map λn=>Value.int .u32 ((n:Nat):Int)):=⟨h.out⟩
instance:i6 eB (.int .u8 99) 99:=⟨rfl⟩
instance:i6 eB (.int .u8 100) 100:=⟨rfl⟩
instance:i6 eB (.int .u8 110) 110:=⟨rfl⟩
instance:i6 eB (.int .u8 118) 118:=⟨rfl⟩
end
end Go.Sx
