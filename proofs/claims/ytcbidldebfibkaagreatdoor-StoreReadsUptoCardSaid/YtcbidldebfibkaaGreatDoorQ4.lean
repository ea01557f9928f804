import Derived.Test.YtcbidldebfibkaaGreatDoorQ3
import Derived.LaidEql
import Derived.LaidEqlPtr
import Derived.Laws.Strings
import Derived.Test.YtcbidldebfibkaaGreatDoorProg
import Derived.KernelRfl
set_option linter.unusedVariables false
set_option linter.unusedSimpArgs false
set_option linter.unusedSectionVars false
set_option linter.unnecessarySimpa false
set_option maxHeartbeats 0
namespace Go.Sx
open Go
class ze (H:cG) (b:Nat):Prop where
 mem:∀L,Sep H L→∃C E,(b,Obj.cells C E (0,0))∈L
instance ze.tail {A:Hp}{H:cG}{b:Nat} [h:ze H b]:ze (A::H) b:=
 ⟨fun L hL=> by obtain⟨L1,L2,rfl,_,h2⟩:=hL;obtain⟨C,E,hm⟩:=h.mem _ h2;exact⟨C,E,Yx _ hm⟩⟩
theorem ze.get {G:cM}{w:World}{H:cG}{b:Nat}(h:ze H b) (hs:Sat G w H):∃C E,w.heap[b]? =some (.cells C E (0,0)):=by
 obtain⟨_,L,hL,hl⟩:=hs
 obtain⟨C,E,hm⟩:=h.mem L hL
 exact⟨C,E,hl.at_ _ hm⟩
def cM.err (G:cM) (i:Nat):Value:= .iface G.eT (.pointer (some ⟨G.eb i,G.eo i,none⟩))
instance {G:cM}{i:Nat}:sG (G.err i):=⟨rfl⟩
class J3 (l:List (Nat×Nat)) (i:Nat) (x:outParam (Nat×Nat)):Prop where
 out:l[i]? =some x
instance {x:Nat×Nat}{l:List (Nat×Nat)}:J3 (x::l) 0 x:=⟨rfl⟩
instance {y x:Nat×Nat}{l:List (Nat×Nat)}{n:Nat} [h:J3 l n x]:J3 (y::l) (n+1) x:=⟨by simpa using h.out⟩
class J4 (l:List Value) (n:Nat):Prop where
 out:l.length=n
instance:J4 [] 0:=⟨rfl⟩
instance {x:Value}{l:List Value}{n:Nat} [h:J4 l n]:J4 (x::l) (n+1):=⟨by simp[h.out]⟩
class Fil (places:List (Nat×Nat)) (l:List Value) (ps:List (Nat×Value)) (l':outParam (List Value)):Prop where
 out:Instr.fill (fun i=> places[i]?) l.toArray ps=some l'.toArray
instance Fil.nil {places:List (Nat×Nat)}{l:List Value}:Fil places l [] l:=⟨rfl⟩
instance Fil.cons {places:List (Nat×Nat)}{l:List Value}{i:Nat}{v:Value}{ps:List (Nat×Value)}{off n:Nat}{cs l1 l':List Value} [h1:J3 places i (off,n)] [h2:nA v cs] [h3:J4 cs n] [h4:Spl l off cs l1] [h5:Fil places l1 ps l']:Fil places l ((i,v)::ps) l':=
 ⟨by
  have hf:=h4.fit
  have e1:(cs.toArray.zipIdx.foldl (fun a (y:Value×Nat)=> a.setIfInBounds (off+y.2) y.1) l.toArray)=l1.toArray:=by
   rw[←Array.foldl_toList]
   have:=vN cs l.toArray off 0
   rw[show cs.toArray.zipIdx.toList=cs.zipIdx 0 from aj,this]
   have h6:=h4.out l.toArray (aj)
   apply Array.ext'
   simpa using h6
  simp only[Instr.fill,h1.out,h2.out]
  rw[if_neg (by simp[h3.out];have:=h3.out;omega)]
  have:=h5.out
  rw[←e1]at this
  exact this⟩
class Str (P:Program) (T:TypeId) (places:outParam (List (Nat×Nat))) (z:outParam (List Value)):Prop where
 out:∃fields i zv,P.underlying T=some (.struct fields)∧(∀w,(fields.mapM fun(f:Field)=> (do pure (f.offset,←sizeOf f.type):Sem (Nat×Nat))).run P w= .ok places.toArray w)∧P.info? T=some i∧i.zero=some zv∧zv.cells=z.toArray
section
variable {G:cM}{P:Program}{N:Nat}{Q:fY}{t:Tm}{H:cG}{dst:Option Tmp}{ty:TypeId}{pos:String}{after:Array Edge}{g:Option (Nat×Bool)}
theorem FW {T:TypeId}{ps:List (Nat×Operand)}{vs:List (Nat×Value)}{places:List (Nat×Nat)}{z l:List Value}(hp:sF t ps=some vs) [hs:Str P T places z] [hf:Fil places z vs l]:
 Ev G P ⟨dst, .build T ps.toArray,ty,pos,after,g⟩ t H (.agg l.toArray):=
 fun ρ hρ w _=> by
  obtain⟨fields,i,zv,h1,h2,h3,h4,h5⟩:=hs.out
  have e1:(underlying T).run P w= .ok (.struct fields) w:=by simp[underlying,h1]
  have e2:(zeroValue T).run P w= .ok zv w:=by simp[zeroValue,typeInfo,h3,h4]
  have e3:(ps.toArray.map fun(i,x)=> (i,ρ x)).toList=vs:=by simp[qt hρ hp]
  have hfo:=hf.out
  have e4:(fun(i:Nat)=> places.toArray[i]?)=fun(i:Nat)=> places[i]? :=by funext i;simp
  simp only[execOp,Instr.build,Sem.run_bind,e1,e2,h2,Result.andThen_ok,e3,h5,e4,hfo,Sem.run_pure]
theorem gw {op:BinOp}{T:TypeId}{x y:Operand}{w:World}{a b:Value}(h:(match x with| .const _=> true|_=> false)=true∨(match y with| .const _=> true|_=> false)=true) (ha:∀c,a≠ .agg c):(eqGuard op T x y a b).run P w= .ok () w:=by
 unfold eqGuard
 cases op <;> simp only[Bool.not_true,Bool.not_false,Bool.false_eq_true,↓reduceIte,Sem.run_pure]
 all_goals
  cases a <;> first
   |exact absurd rfl (ha _)
   |(cases b <;> first
       |rfl
       |(cases x <;> cases y <;> simp at h <;> rfl))
theorem jQ {T:TypeId}{x y:Value}{r:Bool}{w:World}(h:∀d,(Op.equalIn (d+1) T x y).run P w= .ok r w):(Op.equal T x y).run P w= .ok r w:=h 9999
theorem gS {T U:TypeId}{x:Operand}{ms:Array (String×TypeId)} [hT:Und P T (.interface ms)] (hx:evo t x=some .nilIface):Ev G P ⟨dst, .binOp .eql T x (.const .nilIface) U,ty,pos,after,g⟩ t H (.bool true):=
 fun ρ hρ w _=> by
  have h1:=gw (P:=P) (op:= .eql) (T:=T) (x:=x) (y:= .const .nilIface) (w:=w) (a:= .nilIface) (b:= .nilIface) (.inr rfl) (fun c h=> bC)
  have h2:=jQ (P:=P) (w:=w) (T:=T) (x:= .nilIface) (y:= .nilIface) (r:=true) (fun d=> aL)
  simp only[execOp,hρ _ _ hx,hρ (.const .nilIface) _ rfl,Sem.run_bind,h1,Result.andThen_ok,binOp,h2,Sem.run_pure]
theorem cN {T U:TypeId}{x:Operand}{ms:Array (String×TypeId)} [hT:Und P T (.interface ms)] (hx:evo t x=some .nilIface):Ev G P ⟨dst, .binOp .neq T x (.const .nilIface) U,ty,pos,after,g⟩ t H (.bool false):=
 fun ρ hρ w _=> by
  have h1:=gw (P:=P) (op:= .neq) (T:=T) (x:=x) (y:= .const .nilIface) (w:=w) (a:= .nilIface) (b:= .nilIface) (.inr rfl) (fun c h=> bC)
  have h2:=jQ (P:=P) (w:=w) (T:=T) (x:= .nilIface) (y:= .nilIface) (r:=true) (fun d=> aL)
  simp only[execOp,hρ _ _ hx,hρ (.const .nilIface) _ rfl,Sem.run_bind,h1,Result.andThen_ok,binOp,h2,Sem.run_pure,Bool.not_true]
theorem gR {T U u:TypeId}{x:Operand}{v:Value}{ms:Array (String×TypeId)} [hT:Und P T (.interface ms)] (hx:evo t x=some (.iface u v)):Ev G P ⟨dst, .binOp .eql T x (.const .nilIface) U,ty,pos,after,g⟩ t H (.bool false):=
 fun ρ hρ w _=> by
  have h1:=gw (P:=P) (op:= .eql) (T:=T) (x:=x) (y:= .const .nilIface) (w:=w) (a:= .iface u v) (b:= .nilIface) (.inr rfl) (fun c h=> bC)
  have h2:=jQ (P:=P) (w:=w) (T:=T) (x:= .iface u v) (y:= .nilIface) (r:=false) (fun d=> aL)
  simp only[execOp,hρ _ _ hx,hρ (.const .nilIface) _ rfl,Sem.run_bind,h1,Result.andThen_ok,binOp,h2,Sem.run_pure]
theorem cR {T U u:TypeId}{x:Operand}{v:Value}{ms:Array (String×TypeId)} [hT:Und P T (.interface ms)] (hx:evo t x=some (.iface u v)):Ev G P ⟨dst, .binOp .neq T x (.const .nilIface) U,ty,pos,after,g⟩ t H (.bool true):=
 fun ρ hρ w _=> by
  have h1:=gw (P:=P) (op:= .neq) (T:=T) (x:=x) (y:= .const .nilIface) (w:=w) (a:= .iface u v) (b:= .nilIface) (.inr rfl) (fun c h=> bC)
  have h2:=jQ (P:=P) (w:=w) (T:=T) (x:= .iface u v) (y:= .nilIface) (r:=false) (fun d=> aL)
  simp only[execOp,hρ _ _ hx,hρ (.const .nilIface) _ rfl,Sem.run_bind,h1,Result.andThen_ok,binOp,h2,Sem.run_pure,Bool.not_false]
theorem uF {T U E:TypeId}{x:Operand}{p:Option Addr} [hT:Und P T (.pointer E)] (hx:evo t x=some (.pointer p)):Ev G P ⟨dst, .binOp .eql T x (.const (.pointer none)) U,ty,pos,after,g⟩ t H (.bool p.isNone):=
 fun ρ hρ w _=> by
  have h1:=gw (P:=P) (op:= .eql) (T:=T) (x:=x) (y:= .const (.pointer none)) (w:=w) (a:= .pointer p) (b:= .pointer none) (.inr rfl) (fun c h=> bC)
  have h2:=jQ (P:=P) (w:=w) (T:=T) (x:= .pointer p) (y:= .pointer none) (r:=p.isNone) (fun d=> by cases p <;> simp only[Op.equalIn,Sem.run_bind,df (T:=T),Result.andThen_ok,Sem.run_pure,Option.isNone])
  cases p <;> simp only[execOp,hρ _ _ hx,hρ (.const (.pointer none)) _ rfl,Sem.run_bind,h1,Result.andThen_ok,binOp,h2,Sem.run_pure] <;> rfl
theorem iG {T U E:TypeId}{x:Operand}{p:Option Addr} [hT:Und P T (.pointer E)] (hx:evo t x=some (.pointer p)):Ev G P ⟨dst, .binOp .neq T x (.const (.pointer none)) U,ty,pos,after,g⟩ t H (.bool p.isSome):=
 fun ρ hρ w _=> by
  have h1:=gw (P:=P) (op:= .neq) (T:=T) (x:=x) (y:= .const (.pointer none)) (w:=w) (a:= .pointer p) (b:= .pointer none) (.inr rfl) (fun c h=> bC)
  have h2:=jQ (P:=P) (w:=w) (T:=T) (x:= .pointer p) (y:= .pointer none) (r:=p.isNone) (fun d=> by cases p <;> simp only[Op.equalIn,Sem.run_bind,df (T:=T),Result.andThen_ok,Sem.run_pure,Option.isNone])
  cases p <;> simp only[execOp,hρ _ _ hx,hρ (.const (.pointer none)) _ rfl,Sem.run_bind,h1,Result.andThen_ok,binOp,h2,Sem.run_pure] <;> rfl
theorem Ar {T U E:TypeId}{x y:Operand}{i j:Nat}{ms:Array (String×TypeId)}{sz bb:Nat}{z:Value} [hT:Und P T (.interface ms)] [hE:Und P G.eT (.pointer E)] [hi:Inf P E sz bb z] (hc:∃k,P.info? G.eT=some k∧k.comparable=true) (hsz:sz≠0) (hinj:∀a b,G.eb a=G.eb b→G.eo a=G.eo b→a=b) [h1:ze H (G.eb i)] [h2:ze H (G.eb j)]
 (hx:evo t x=some (G.err i)) (hy:evo t y=some (G.err j)):Ev G P ⟨dst, .binOp .eql T x y U,ty,pos,after,g⟩ t H (.bool (decide (i=j))):=
 fun ρ hρ w hw=> by
  obtain⟨k,hk1,hk2⟩:=hc
  obtain⟨inf,hi1,hi2,_⟩:=hi.out
  have hg:(eqGuard .eql T x y (G.err i) (G.err j)).run P w= .ok () w:=by simp[eqGuard,cM.err]
  simp only[execOp,hρ _ _ hx,hρ _ _ hy,Sem.run_bind,hg,Result.andThen_ok]
  by_cases e:i=j
  ·subst e
   have:=run_eql_iface_ptr_same (P:=P) (w:=w) (ti:=T) (tp:=G.eT) (te:=E) (i:=k) (j:=inf) ⟨G.eb i,G.eo i,none⟩ hT.out hE.out hk1 hk2 hi1
   simp only[cM.err,this,Result.andThen_ok,Sem.run_pure,decide_true]
  ·obtain⟨C1,E1,q1⟩:=h1.get hw
   obtain⟨C2,E2,q2⟩:=h2.get hw
   have hne:(⟨G.eb i,G.eo i,none⟩:Addr)≠⟨G.eb j,G.eo j,none⟩:=fun h=> e (hinj _ _ (by injection h) (by injection h))
   have:=run_eql_iface_ptr_other (P:=P) (w:=w) (ti:=T) (tp:=G.eT) (te:=E) (i:=k) (j:=inf) (a:=⟨G.eb i,G.eo i,none⟩) (b:=⟨G.eb j,G.eo j,none⟩) hT.out hE.out hk1 hk2 hi1 (by rw[hi2];exact hsz) hne q1 q2
   simp only[cM.err,this,Result.andThen_ok,Sem.run_pure,Yr e]
theorem uN (a b:ByteArray):(a.toList==b.toList)=decide (cF a=cF b):=by
 rw[Bool.eq_iff_iff]
 simp only[beq_iff_eq,decide_eq_true_eq,iH,ByteArray.toList_eq]
 exact⟨fun h=> ByteArray.ext (Array.toList_inj.mp h),fun h=> by rw[h]⟩
theorem nh {T U:TypeId}{x y:Operand}{a b:ByteArray}(hx:evo t x=some (.string a)) (hy:evo t y=some (.string b)):Ev G P ⟨dst, .binOp .eql T x y U,ty,pos,after,g⟩ t H (.bool (decide (cF a=cF b))):=
 fun ρ hρ w _=> by
  simp only[execOp,hρ _ _ hx,hρ _ _ hy,eqGuard,binOp,Op.stringOp,uN]
  rfl
theorem uC {T U:TypeId}{x y:Operand}{a b:ByteArray}(hx:evo t x=some (.string a)) (hy:evo t y=some (.string b)):Ev G P ⟨dst, .binOp .neq T x y U,ty,pos,after,g⟩ t H (.bool (!decide (cF a=cF b))):=
 fun ρ hρ w _=> by
  simp only[execOp,hρ _ _ hx,hρ _ _ hy,eqGuard,binOp,Op.stringOp,uN]
  rfl
theorem gz {T U:TypeId}{x y:Operand}{a b:ByteArray}(hx:evo t x=some (.string a)) (hy:evo t y=some (.string b)) (h:a.size+b.size≤9223372036854775807):Ev G P ⟨dst, .binOp .add T x y U,ty,pos,after,g⟩ t H (.string (a++b)):=
 fun ρ hρ w _=> by
  have h1:¬(((a.size+b.size:Nat):Int) > IntKind.i64.max):=by
   simp only[IntKind.max,IntKind.signed,IntKind.bits];simp;omega
  simp only[execOp,hρ _ _ hx,hρ _ _ hy,eqGuard,binOp,Op.stringOp,h1]
  rfl
theorem ng {T:TypeId}{x ix:Operand}{s:ByteArray}{k:IntKind}{j:Int}(hx:evo t x=some (.string s)) (hi:evo t ix=some (.int k j)) [hT:Und P T .string] (i:Nat) (hj:j=i) (y:Nat) (hy:(cF s)[i]? =some y):
 Ev G P ⟨dst, .index T x ix,ty,pos,after,g⟩ t H (.int .u8 (y:Int)):=
 fun ρ hρ w _=> by
  have h1:s[i]? =some (UInt8.ofNat y)∧y<256:=by
   simp only[cF,Xd,Array.getElem?_toList,Option.map_eq_some_iff]at hy
   obtain⟨b,hb,rfl⟩:=hy
   obtain⟨hlt,he⟩:=Array.getElem?_eq_some_iff.1 hb
   refine⟨?_,b.toNat_lt⟩
   rw[getElem?_pos s i hlt]
   congr 1
   show s.data[i]=_
   rw[he];simp
  have h0:(0:Int)≤(i:Int):=a8
  simp[execOp,hρ _ _ hx,hρ _ _ hi,Instr.index,asIntOf,hj,df (T:=T),h1.1,Nat.mod_eq_of_lt h1.2]
theorem gn (s:ByteArray) (l h:Nat):cF (s.extract l h)=((cF s).take h).drop l:=by
 simp[cF,List.map_drop,List.map_take,ByteArray.data_extract,List.drop_take]
theorem kU {T:TypeId}{x:Operand}{lo hi:Option Operand}{s:ByteArray}(hx:evo t x=some (.string s)) [hT:Und P T .string]
 (l h:Nat) (hlo:match lo with|none=> l=0|some o=> ∃k j,evo t o=some (.int k j)∧j=(l:Int)) (hhi:match hi with|none=> h=s.size|some o=> ∃k j,evo t o=some (.int k j)∧j=(h:Int)) (h1:l≤h) (h2:h≤s.size):
 Ev G P ⟨dst, .slice T x lo hi none,ty,pos,after,g⟩ t H (.string (s.extract l h)):=
 fun ρ hρ w _=> by
  have e1:(Instr.sliceBounds false s.size s.size (lo.map ρ) (hi.map ρ) none).run P w= .ok (l,h,s.size) w:=by
   have b1:∀(j:Nat) (k:IntKind) (y:Nat) (cd:BoundsCode),j≤y→(Instr.sliceBound (.int k (j:Int)) y cd).run P w= .ok j w:=by
    intro j k y cd hj
    have:(j:Int)≤(y:Int):=a8
    simp[Instr.sliceBound,asIntOf,this]
   cases lo with
   |none=>
    simp only at hlo
    subst hlo
    cases hi with
    |none=> simp only at hhi;subst hhi;simp[Instr.sliceBounds]
    |some o=>
     obtain⟨k,j,h3,h4⟩:=hhi
     subst h4
     simp[Instr.sliceBounds,hρ _ _ h3,b1 h k s.size _ (a8)]
   |some o'=>
    obtain⟨k',j',h5,h6⟩:=hlo
    subst h6
    cases hi with
    |none=> simp only at hhi;subst hhi;simp[Instr.sliceBounds,hρ _ _ h5,b1 l k' s.size _ (a8)]
    |some o=>
     obtain⟨k,j,h3,h4⟩:=hhi
     subst h4
     simp[Instr.sliceBounds,hρ _ _ h3,hρ _ _ h5,b1 h k s.size _ (a8),b1 l k' h _ (a8)]
  simp only[execOp,hρ _ _ hx,Instr.sliceAt,Option.map_none,Sem.run_bind,df (T:=T),Result.andThen_ok]
  simp only[Instr.slice,Sem.run_bind,df (T:=T),Result.andThen_ok,e1,Sem.run_pure,Option.isSome_none,Bool.false_eq_true,↓reduceIte]
theorem fO {T E:TypeId}{x ix:Operand}{b off n sz bb:Nat}{z:Value}{k:IntKind}{j:Int}(hx:evo t x=some (.pointer (some ⟨b,off,none⟩))) (hi:evo t ix=some (.int k j)) [hT:Und P T (.array n E)] [hE:Inf P E sz bb z] (i:Nat) (hj:j=i) (hlt:i<n):
 Ev G P ⟨dst, .indexAddr T x ix,ty,pos,after,g⟩ t H (.pointer (some ⟨b,off+i*sz,none⟩)):=
 fun ρ hρ w _=> by
  have h5:¬(n≤i):=a8
  simp[execOp,hρ _ _ hx,hρ _ _ hi,Instr.indexAt,asIntOf,hj,df (T:=T),Instr.sureAddr,dZ (T:=E) (s:=sz),iK,h5]
theorem lB {T:TypeId}{x:Operand}{b off:Nat}{l:List Value}{v:Value}(hx:evo t x=some (.pointer (some ⟨b,off,none⟩))) [hT:One P T] [hH:dh H b l] (hv:l[off]? =some v):
 Ev G P ⟨dst, .load T x,ty,pos,after,g⟩ t H v:=
 fun ρ hρ w hw=> by
  obtain⟨E,fz,hb⟩:=hH.get hw
  have h1:w.cell? ⟨b,off,none⟩=some v:=by rw[nn hb];simpa using hv
  simp[execOp,hρ _ _ hx,Instr.loadAt,Instr.sureAddr,loadVar,ik,h1]
inductive Gs (P:Program) (t:Tm) (H:cG):ResultVar→Value→Prop
 |tmp {r:Tmp}{v:Value}(h:look t r=some v):Gs P t H (.tmp r) v
 |cell {r:Tmp}{T:TypeId}{b n:Nat}{l:List Value}(h:look t r=some (.pointer (some ⟨b,0,none⟩))) [hT:Agg P T n] [hH:dh H b l] (hn:l.length=n):Gs P t H (.cell r T) (.agg l.toArray)
 |cell1 {r:Tmp}{T:TypeId}{b:Nat}{v:Value}(h:look t r=some (.pointer (some ⟨b,0,none⟩))) [hT:One P T] [hH:dh H b [v]]:Gs P t H (.cell r T) v
inductive nz (P:Program) (t:Tm) (H:cG):List ResultVar→List Value→Prop
 |nil:nz P t H [] []
 |cons {r:ResultVar}{rs:List ResultVar}{v:Value}{vs:List Value}(h:Gs P t H r v) (h2:nz P t H rs vs):nz P t H (r::rs) (v::vs)
def oU:List Value→Value
 | [v]=> v
 |vs=> .tuple vs.toArray
theorem Cm {fn:Func}{K:Value→cG→Prop}{e:Exit}{rs:List ResultVar}{vs:List Value}(hfn:fn.results=rs.toArray) (he:e= .normal∨e= .ret) (hr:nz P t H rs vs) (hK:K (oU vs) H):Gt P fn K e t H:=by
 refine⟨he,oU vs,hK,fun G N a w ha hw=> ?_⟩
 let f:ResultVar→Sem Value:=fun
  | .tmp t=> pure (a.tmps.getD t undef)
  | .cell r t=> do loadVar t (←asAddr (a.tmps.getD r undef))
 have hget:∀(r:Tmp) (v:Value),look t r=some v→a.tmps.getD r undef=v:=fun r v h=> by
  rw[Array.getD_eq_getD_getElem?,ha.look r v h];rfl
 have one:∀r v,Gs P t H r v→(f r).run P w= .ok v w:=by
  intro r v h
  cases h with
  |tmp h=> simp only[f,Sem.run_pure,hget _ _ h]
  | @cell r T b n l h hT hH hn=>
   obtain⟨E,fz,hb⟩:=hH.get hw
   have h1:=eO (P:=P) (o:=0) hb l (fun j v hv=> by simpa using hv)
   rw[hn]at h1
   simp only[f,hget _ _ h,asAddr,Sem.run_bind,Sem.run_pure,Result.andThen_ok,loadVar,re (n:=n),↓reduceIte,lf (n:=n),h1]
  | @cell1 r T b v h hT hH=>
   obtain⟨E,fz,hb⟩:=hH.get hw
   have h1:w.cell? ⟨b,0,none⟩=some v:=by rw[nn hb];rfl
   simp only[f,hget _ _ h,asAddr,Sem.run_bind,Sem.run_pure,Result.andThen_ok,loadVar,ik,Bool.false_eq_true,↓reduceIte,run_load,h1]
 have all:∀rs vs,nz P t H rs vs→(rs.mapM f).run P w= .ok vs w:=by
  intro rs vs h
  induction h with
  |nil=> rfl
  |cons h _ ih=> simp only[List.mapM_cons,Sem.run_bind,one _ _ h,Result.andThen_ok,ih,Sem.run_pure]
 have hm:(fn.results.mapM f).run P w= .ok vs.toArray w:=by
  rw[hfn,List.mapM_toArray,Sem.run_map,all rs vs hr]
  rfl
 have hfin:(results fn a.tmps).run P w= .ok (if h:vs.toArray.size=1 then vs.toArray[0]else .tuple vs.toArray) w:=by
  show((fn.results.mapM f) >>=fun vs=> pure (if h:vs.size=1 then vs[0]else .tuple vs)).run P w=_
  rw[Sem.run_bind,hm];rfl
 rw[hfin]
 congr 1
 match vs with
 | []=> rfl
 | [v]=> rfl
 |v::u::vs=> simp[oU]
end
open Go Go.Proofs
theorem dr {P:Program}{T:TypeId}{s b:Nat}{z:Value}(h:(P.info? T).map (fun i=> (i.size,i.bytes,i.zero))=some (s,b,some z)):Inf P T s b z:=by
 cases hi:P.info? T with
 |none=> rw[hi]at h;cases h
 |some i=> rw[hi]at h;simp only[Option.map_some,Option.some.injEq,Prod.mk.injEq]at h;exact⟨⟨i,hi,h.1,h.2.1,h.2.2⟩⟩
theorem iJ {P:Program}{T:TypeId}{s b:Nat}{z:Value}{d:TypeDesc}(hm:(match d with| .struct _| .array _ _=> true|_=> false)=true) (hd:P.underlying T=some d) (h:Inf P T s b z):Agg P T s:=by
 obtain⟨i,h1,h2,_⟩:=h.out
 exact⟨⟨d,i,hd,hm,h1,h2⟩⟩
theorem de {P:Program}{T ty:TypeId}{k off s b:Nat}{z:Value}{fs:Array Field}(hd:P.underlying T=some (.struct fs)) (hf:(fs[k]?).map (fun f=> (f.offset,f.type))=some (off,ty)) (h:Inf P ty s b z) (hs:s≠0):Fld P T k off:=by
 obtain⟨i,h1,h2,_⟩:=h.out
 cases hk:fs[k]? with
 |none=> rw[hk]at hf;cases hf
 |some f=>
  rw[hk]at hf
  simp only[Option.map_some,Option.some.injEq,Prod.mk.injEq]at hf
  exact⟨⟨fs,f,i,hd,hk,hf.1,by rw[hf.2];exact h1,by rw[h2];exact hs⟩⟩
theorem eN {P:Program}{T:TypeId}{s b:Nat}{z:Value}{fs:Array Field}{places:List (Nat×Nat)}{zs:List Value}(hd:P.underlying T=some (.struct fs)) (h:Inf P T s b z) (hp:∀w,(fs.mapM fun(f:Field)=> (do pure (f.offset,←sizeOf f.type):Sem (Nat×Nat))).run P w= .ok places.toArray w) (hz:z.cells=zs.toArray):Str P T places zs:=by
 obtain⟨i,h1,_,_,h4⟩:=h.out
 exact⟨⟨fs,i,z,hd,hp,h1,h4,hz⟩⟩
theorem cL:Tryz.prog.follows .mixedOrders=true:=aa
instance:Und Tryz.prog 2 (.int .i64):=⟨Tryz.underlying2⟩
instance:Und Tryz.prog 3 (.int .i64):=⟨Tryz.underlying3⟩
instance:One Tryz.prog 3:=⟨⟨_,Tryz.underlying3,rfl⟩⟩
theorem lu:Inf Tryz.prog 3 1 8 (.int .i64 0):=dr (aa)
instance:Inf Tryz.prog 3 1 8 (.int .i64 0):=lu
instance:One Tryz.prog 4:=⟨⟨_,Tryz.underlying4,rfl⟩⟩
theorem Im:Inf Tryz.prog 4 1 1 (.bool false):=dr (aa)
instance:Inf Tryz.prog 4 1 1 (.bool false):=Im
instance:Und Tryz.prog 5 (.int .u8):=⟨Tryz.underlying5⟩
instance:One Tryz.prog 5:=⟨⟨_,Tryz.underlying5,rfl⟩⟩
theorem Mw:Inf Tryz.prog 5 1 1 (.int .u8 0):=dr (aa)
instance:Inf Tryz.prog 5 1 1 (.int .u8 0):=Mw
instance:Und Tryz.prog 9 .string:=⟨Tryz.underlying9⟩
instance:One Tryz.prog 9:=⟨⟨_,Tryz.underlying9,rfl⟩⟩
theorem uW:Inf Tryz.prog 9 1 16 (.string ByteArray.empty):=dr (aa)
instance:Inf Tryz.prog 9 1 16 (.string ByteArray.empty):=uW
instance:Und Tryz.prog 22 (.slice 59):=⟨Tryz.underlying22⟩
instance:One Tryz.prog 22:=⟨⟨_,Tryz.underlying22,rfl⟩⟩
theorem Js:Inf Tryz.prog 22 1 24 (.slice none 0 0):=dr (aa)
instance:Inf Tryz.prog 22 1 24 (.slice none 0 0):=Js
theorem uk:Inf Tryz.prog 24 1 24 (.agg #[(.slice none 0 0)]):=dr (aa)
instance:Inf Tryz.prog 24 1 24 (.agg #[(.slice none 0 0)]):=uk
instance:Agg Tryz.prog 24 1:=iJ rfl Tryz.underlying24 uk
instance:Und Tryz.prog 25 (.slice 49):=⟨Tryz.underlying25⟩
instance:One Tryz.prog 25:=⟨⟨_,Tryz.underlying25,rfl⟩⟩
theorem Jr:Inf Tryz.prog 25 1 24 (.slice none 0 0):=dr (aa)
instance:Inf Tryz.prog 25 1 24 (.slice none 0 0):=Jr
theorem Fv:Inf Tryz.prog 27 3 56 (.agg #[(.slice none 0 0),(.int .i64 0),(.slice none 0 0)]):=dr (aa)
instance:Inf Tryz.prog 27 3 56 (.agg #[(.slice none 0 0),(.int .i64 0),(.slice none 0 0)]):=Fv
instance:Agg Tryz.prog 27 3:=iJ rfl Tryz.underlying27 Fv
instance:Und Tryz.prog 29 (.slice 5):=⟨Tryz.underlying29⟩
instance:One Tryz.prog 29:=⟨⟨_,Tryz.underlying29,rfl⟩⟩
theorem vH:Inf Tryz.prog 29 1 24 (.slice none 0 0):=dr (aa)
instance:Inf Tryz.prog 29 1 24 (.slice none 0 0):=vH
instance:Und Tryz.prog 34 (.interface #[("Error",371)]):=⟨Tryz.underlying34⟩
instance:One Tryz.prog 34:=⟨⟨_,Tryz.underlying34,rfl⟩⟩
theorem Jq:Inf Tryz.prog 34 1 16 .nilIface:=dr (aa)
instance:Inf Tryz.prog 34 1 16 .nilIface:=Jq
instance:Und Tryz.prog 43 (.slice 29):=⟨Tryz.underlying43⟩
instance:Und Tryz.prog 44 (.slice 47):=⟨Tryz.underlying44⟩
instance:One Tryz.prog 44:=⟨⟨_,Tryz.underlying44,rfl⟩⟩
theorem Mx:Inf Tryz.prog 44 1 24 (.slice none 0 0):=dr (aa)
instance:Und Tryz.prog 47 (.slice 3):=⟨Tryz.underlying47⟩
instance:One Tryz.prog 47:=⟨⟨_,Tryz.underlying47,rfl⟩⟩
theorem Ft:Inf Tryz.prog 47 1 24 (.slice none 0 0):=dr (aa)
instance:Inf Tryz.prog 47 1 24 (.slice none 0 0):=Ft
theorem Fs:Inf Tryz.prog 49 2 48 (.agg #[(.slice none 0 0),(.slice none 0 0)]):=dr (aa)
instance:Inf Tryz.prog 49 2 48 (.agg #[(.slice none 0 0),(.slice none 0 0)]):=Fs
instance:Agg Tryz.prog 49 2:=iJ rfl Tryz.underlying49 Fs
theorem Fq:Inf Tryz.prog 59 5 32 (.agg #[(.string ByteArray.empty),(.int .i64 0),(.bool false),(.bool false),(.bool false)]):=dr (aa)
instance:Inf Tryz.prog 59 5 32 (.agg #[(.string ByteArray.empty),(.int .i64 0),(.bool false),(.bool false),(.bool false)]):=Fq
instance:Agg Tryz.prog 59 5:=iJ rfl Tryz.underlying59 Fq
instance:Und Tryz.prog 60 (.int .u64):=⟨Tryz.underlying60⟩
instance:Und Tryz.prog 69 (.pointer 134):=⟨Tryz.underlying69⟩
theorem Fp:Inf Tryz.prog 75 2 32 (.agg #[(.int .u8 0),(.slice none 0 0)]):=dr (aa)
instance:Inf Tryz.prog 75 2 32 (.agg #[(.int .u8 0),(.slice none 0 0)]):=Fp
instance:Agg Tryz.prog 75 2:=iJ rfl Tryz.underlying75 Fp
instance:Und Tryz.prog 77 (.slice 75):=⟨Tryz.underlying77⟩
instance:Und Tryz.prog 84 (.int .u64):=⟨Tryz.underlying84⟩
instance:One Tryz.prog 84:=⟨⟨_,Tryz.underlying84,rfl⟩⟩
theorem Mu:Inf Tryz.prog 84 1 8 (.int .u64 0):=dr (aa)
instance:Inf Tryz.prog 84 1 8 (.int .u64 0):=Mu
theorem Jp:Inf Tryz.prog 98 2 16 (.agg #[(.int .i64 0),(.int .i64 0)]):=dr (aa)
theorem KX:Inf Tryz.prog 100 3 40 (.agg #[(.int .i64 0),(.int .i64 0),(.slice none 0 0)]):=dr (aa)
instance:Und Tryz.prog 104 (.pointer 107):=⟨Tryz.underlying104⟩
theorem KW:Inf Tryz.prog 107 2 24 (.agg #[(.int .i64 0), .nilIface]):=dr (aa)
instance:Und Tryz.prog 118 (.slice 124):=⟨Tryz.underlying118⟩
instance:One Tryz.prog 118:=⟨⟨_,Tryz.underlying118,rfl⟩⟩
theorem Fz:Inf Tryz.prog 118 1 24 (.slice none 0 0):=dr (aa)
instance:Inf Tryz.prog 118 1 24 (.slice none 0 0):=Fz
instance:Und Tryz.prog 119 (.slice 129):=⟨Tryz.underlying119⟩
instance:One Tryz.prog 119:=⟨⟨_,Tryz.underlying119,rfl⟩⟩
theorem um:Inf Tryz.prog 119 1 24 (.slice none 0 0):=dr (aa)
theorem KV:Inf Tryz.prog 121 5 88 (.agg #[(.slice none 0 0),(.int .i64 0),(.slice none 0 0),(.slice none 0 0),(.bool false)]):=dr (aa)
instance:Und Tryz.prog 122 (.slice 4):=⟨Tryz.underlying122⟩
instance:One Tryz.prog 122:=⟨⟨_,Tryz.underlying122,rfl⟩⟩
theorem KU:Inf Tryz.prog 122 1 24 (.slice none 0 0):=dr (aa)
theorem Ag:Inf Tryz.prog 124 2 48 (.agg #[(.slice none 0 0),(.slice none 0 0)]):=dr (aa)
instance:Inf Tryz.prog 124 2 48 (.agg #[(.slice none 0 0),(.slice none 0 0)]):=Ag
instance:Agg Tryz.prog 124 2:=iJ rfl Tryz.underlying124 Ag
instance:Und Tryz.prog 127 (.slice 194):=⟨Tryz.underlying127⟩
instance:One Tryz.prog 127:=⟨⟨_,Tryz.underlying127,rfl⟩⟩
theorem Fy:Inf Tryz.prog 127 1 24 (.slice none 0 0):=dr (aa)
instance:Inf Tryz.prog 127 1 24 (.slice none 0 0):=Fy
theorem Af:Inf Tryz.prog 129 2 32 (.agg #[(.int .i64 0),(.slice none 0 0)]):=dr (aa)
instance:Inf Tryz.prog 129 2 32 (.agg #[(.int .i64 0),(.slice none 0 0)]):=Af
instance:Agg Tryz.prog 129 2:=iJ rfl Tryz.underlying129 Af
instance:Und Tryz.prog 132 (.slice 138):=⟨Tryz.underlying132⟩
instance:One Tryz.prog 132:=⟨⟨_,Tryz.underlying132,rfl⟩⟩
theorem Fx:Inf Tryz.prog 132 1 24 (.slice none 0 0):=dr (aa)
instance:Inf Tryz.prog 132 1 24 (.slice none 0 0):=Fx
theorem KT:Inf Tryz.prog 134 5 88 (.agg #[(.slice none 0 0),(.int .i64 0),(.slice none 0 0),(.slice none 0 0),(.bool false)]):=dr (aa)
instance:One Tryz.prog 135:=⟨⟨_,Tryz.underlying135,rfl⟩⟩
theorem KS:Inf Tryz.prog 135 1 8 (.pointer none):=dr (aa)
instance:One Tryz.prog 136:=⟨⟨_,Tryz.underlying136,rfl⟩⟩
theorem KR:Inf Tryz.prog 136 1 8 (.pointer none):=dr (aa)
theorem Ae:Inf Tryz.prog 138 2 16 (.agg #[(.pointer none),(.pointer none)]):=dr (aa)
instance:Inf Tryz.prog 138 2 16 (.agg #[(.pointer none),(.pointer none)]):=Ae
instance:Agg Tryz.prog 138 2:=iJ rfl Tryz.underlying138 Ae
instance:Und Tryz.prog 146 (.int .u32):=⟨Tryz.underlying146⟩
instance:One Tryz.prog 146:=⟨⟨_,Tryz.underlying146,rfl⟩⟩
theorem KQ:Inf Tryz.prog 146 1 4 (.int .u32 0):=dr (aa)
instance:Inf Tryz.prog 146 1 4 (.int .u32 0):=KQ
theorem KP:Inf Tryz.prog 152 1 24 (.agg #[(.slice none 0 0)]):=dr (aa)
instance:One Tryz.prog 186:=⟨⟨_,Tryz.underlying186,rfl⟩⟩
theorem KO:Inf Tryz.prog 186 1 8 (.pointer none):=dr (aa)
instance:Inf Tryz.prog 186 1 8 (.pointer none):=KO
theorem KN:Inf Tryz.prog 188 6 128 (.agg #[(.slice none 0 0),(.slice none 0 0),(.slice none 0 0),(.pointer none),(.slice none 0 0),(.slice none 0 0)]):=dr (aa)
instance:Und Tryz.prog 189 (.slice 84):=⟨Tryz.underlying189⟩
instance:One Tryz.prog 189:=⟨⟨_,Tryz.underlying189,rfl⟩⟩
theorem KM:Inf Tryz.prog 189 1 24 (.slice none 0 0):=dr (aa)
theorem KL:Inf Tryz.prog 191 3 40 (.agg #[(.int .i64 0),(.int .i64 0),(.slice none 0 0)]):=dr (aa)
theorem Ad:Inf Tryz.prog 194 2 32 (.agg #[(.string ByteArray.empty),(.string ByteArray.empty)]):=dr (aa)
instance:Inf Tryz.prog 194 2 32 (.agg #[(.string ByteArray.empty),(.string ByteArray.empty)]):=Ad
instance:Agg Tryz.prog 194 2:=iJ rfl Tryz.underlying194 Ad
instance:Und Tryz.prog 198 (.slice 208):=⟨Tryz.underlying198⟩
instance:Und Tryz.prog 199 (.slice 203):=⟨Tryz.underlying199⟩
instance:Und Tryz.prog 201 (.slice 246):=⟨Tryz.underlying201⟩
instance:One Tryz.prog 201:=⟨⟨_,Tryz.underlying201,rfl⟩⟩
theorem Fw:Inf Tryz.prog 201 1 24 (.slice none 0 0):=dr (aa)
instance:Inf Tryz.prog 201 1 24 (.slice none 0 0):=Fw
theorem Ac:Inf Tryz.prog 203 3 48 (.agg #[(.int .i64 0),(.string ByteArray.empty),(.slice none 0 0)]):=dr (aa)
instance:Inf Tryz.prog 203 3 48 (.agg #[(.int .i64 0),(.string ByteArray.empty),(.slice none 0 0)]):=Ac
instance:Agg Tryz.prog 203 3:=iJ rfl Tryz.underlying203 Ac
theorem Ab:Inf Tryz.prog 208 5 48 (.agg #[(.string ByteArray.empty),(.int .i64 0),(.int .i64 0),(.int .i64 0),(.int .i64 0)]):=dr (aa)
instance:Inf Tryz.prog 208 5 48 (.agg #[(.string ByteArray.empty),(.int .i64 0),(.int .i64 0),(.int .i64 0),(.int .i64 0)]):=Ab
instance:Agg Tryz.prog 208 5:=iJ rfl Tryz.underlying208 Ab
instance:Und Tryz.prog 212 (.map 9 3):=⟨Tryz.underlying212⟩
instance:Und Tryz.prog 215 (.array 16 146):=⟨Tryz.underlying215⟩
instance:Und Tryz.prog 238 (.slice 266):=⟨Tryz.underlying238⟩
instance:Und Tryz.prog 240 (.slice 244):=⟨Tryz.underlying240⟩
theorem Aa:Inf Tryz.prog 244 3 32 (.agg #[(.string ByteArray.empty),(.int .i64 0),(.int .i64 0)]):=dr (aa)
instance:Inf Tryz.prog 244 3 32 (.agg #[(.string ByteArray.empty),(.int .i64 0),(.int .i64 0)]):=Aa
instance:Agg Tryz.prog 244 3:=iJ rfl Tryz.underlying244 Aa
theorem A9:Inf Tryz.prog 246 2 32 (.agg #[(.int .i64 0),(.slice none 0 0)]):=dr (aa)
instance:Inf Tryz.prog 246 2 32 (.agg #[(.int .i64 0),(.slice none 0 0)]):=A9
instance:Agg Tryz.prog 246 2:=iJ rfl Tryz.underlying246 A9
instance:Und Tryz.prog 247 (.slice 280):=⟨Tryz.underlying247⟩
instance:Und Tryz.prog 259 (.map 9 201):=⟨Tryz.underlying259⟩
instance:One Tryz.prog 259:=⟨⟨_,Tryz.underlying259,rfl⟩⟩
theorem KK:Inf Tryz.prog 259 1 8 (.map none):=dr (aa)
theorem KJ:Inf Tryz.prog 261 4 80 (.agg #[(.slice none 0 0),(.slice none 0 0),(.slice none 0 0),(.map none)]):=dr (aa)
theorem A8:Inf Tryz.prog 266 5 48 (.agg #[(.string ByteArray.empty),(.int .i64 0),(.int .i64 0),(.int .i64 0),(.int .i64 0)]):=dr (aa)
instance:Inf Tryz.prog 266 5 48 (.agg #[(.string ByteArray.empty),(.int .i64 0),(.int .i64 0),(.int .i64 0),(.int .i64 0)]):=A8
instance:Agg Tryz.prog 266 5:=iJ rfl Tryz.underlying266 A8
instance:Und Tryz.prog 271 (.array 64 5):=⟨Tryz.underlying271⟩
theorem A7:Inf Tryz.prog 280 4 32 (.agg #[(.int .i64 0),(.int .i64 0),(.int .i64 0),(.int .i64 0)]):=dr (aa)
instance:Inf Tryz.prog 280 4 32 (.agg #[(.int .i64 0),(.int .i64 0),(.int .i64 0),(.int .i64 0)]):=A7
instance:Agg Tryz.prog 280 4:=iJ rfl Tryz.underlying280 A7
theorem KI:Inf Tryz.prog 285 1 24 (.agg #[(.slice none 0 0)]):=dr (aa)
instance:Und Tryz.prog 286 (.slice 9):=⟨Tryz.underlying286⟩
instance:One Tryz.prog 286:=⟨⟨_,Tryz.underlying286,rfl⟩⟩
theorem KH:Inf Tryz.prog 286 1 24 (.slice none 0 0):=dr (aa)
instance:Und Tryz.prog 301 (.slice 321):=⟨Tryz.underlying301⟩
instance:Und Tryz.prog 307 (.array 4 3):=⟨Tryz.underlying307⟩
theorem Fu:Inf Tryz.prog 307 4 32 (.agg #[(.int .i64 0),(.int .i64 0),(.int .i64 0),(.int .i64 0)]):=dr (aa)
instance:Inf Tryz.prog 307 4 32 (.agg #[(.int .i64 0),(.int .i64 0),(.int .i64 0),(.int .i64 0)]):=Fu
instance:Agg Tryz.prog 307 4:=iJ rfl Tryz.underlying307 Fu
instance:One Tryz.prog 312:=⟨⟨_,Tryz.underlying312,rfl⟩⟩
theorem KG:Inf Tryz.prog 312 1 8 (.pointer none):=dr (aa)
instance:Inf Tryz.prog 312 1 8 (.pointer none):=KG
instance:Und Tryz.prog 313 (.slice 312):=⟨Tryz.underlying313⟩
theorem KF:Inf Tryz.prog 315 0 0 (.agg #[]):=dr (aa)
theorem KE:Inf Tryz.prog 318 1 24 (.agg #[(.slice none 0 0)]):=dr (aa)
theorem KD:Inf Tryz.prog 319 0 0 (.agg #[]):=dr (aa)
instance:One Tryz.prog 321:=⟨⟨_,Tryz.underlying321,rfl⟩⟩
theorem KC:Inf Tryz.prog 321 1 16 .nilIface:=dr (aa)
instance:Inf Tryz.prog 321 1 16 .nilIface:=KC
instance:Und Tryz.prog 323 (.array 8 5):=⟨Tryz.underlying323⟩
theorem KB:Inf Tryz.prog 323 8 8 (.agg #[(.int .u8 0),(.int .u8 0),(.int .u8 0),(.int .u8 0),(.int .u8 0),(.int .u8 0),(.int .u8 0),(.int .u8 0)]):=dr (aa)
instance:Inf Tryz.prog 323 8 8 (.agg #[(.int .u8 0),(.int .u8 0),(.int .u8 0),(.int .u8 0),(.int .u8 0),(.int .u8 0),(.int .u8 0),(.int .u8 0)]):=KB
theorem A6:Inf Tryz.prog 339 2 32 (.agg #[(.string ByteArray.empty),(.string ByteArray.empty)]):=dr (aa)
instance:Inf Tryz.prog 339 2 32 (.agg #[(.string ByteArray.empty),(.string ByteArray.empty)]):=A6
instance:Agg Tryz.prog 339 2:=iJ rfl Tryz.underlying339 A6
instance:Und Tryz.prog 342 (.slice 339):=⟨Tryz.underlying342⟩
theorem KA:Inf Tryz.prog 394 1 16 (.agg #[(.string ByteArray.empty)]):=dr (aa)
instance:Inf Tryz.prog 394 1 16 (.agg #[(.string ByteArray.empty)]):=KA
instance:Fld Tryz.prog 24 0 0:=de Tryz.underlying24 rfl Js (ag)
instance:Str Tryz.prog 24 [(0,1)] [(.slice none 0 0)]:=eN Tryz.underlying24 uk (fun _=> aa) rfl
instance:Fld Tryz.prog 27 0 0:=de Tryz.underlying27 rfl uk (ag)
instance:Fld Tryz.prog 27 1 1:=de Tryz.underlying27 rfl lu (ag)
instance:Fld Tryz.prog 27 2 2:=de Tryz.underlying27 rfl Jr (ag)
instance:Str Tryz.prog 27 [(0,1),(1,1),(2,1)] [(.slice none 0 0),(.int .i64 0),(.slice none 0 0)]:=eN Tryz.underlying27 Fv (fun _=> aa) rfl
instance:Fld Tryz.prog 49 0 0:=de Tryz.underlying49 rfl vH (ag)
instance:Fld Tryz.prog 49 1 1:=de Tryz.underlying49 rfl Ft (ag)
instance:Str Tryz.prog 49 [(0,1),(1,1)] [(.slice none 0 0),(.slice none 0 0)]:=eN Tryz.underlying49 Fs (fun _=> aa) rfl
instance:Fld Tryz.prog 59 0 0:=de Tryz.underlying59 rfl uW (ag)
instance:Fld Tryz.prog 59 1 1:=de Tryz.underlying59 rfl lu (ag)
instance:Fld Tryz.prog 59 2 2:=de Tryz.underlying59 rfl Im (ag)
instance:Fld Tryz.prog 59 3 3:=de Tryz.underlying59 rfl Im (ag)
instance:Fld Tryz.prog 59 4 4:=de Tryz.underlying59 rfl Im (ag)
instance:Str Tryz.prog 59 [(0,1),(1,1),(2,1),(3,1),(4,1)] [(.string ByteArray.empty),(.int .i64 0),(.bool false),(.bool false),(.bool false)]:=eN Tryz.underlying59 Fq (fun _=> aa) rfl
instance:Fld Tryz.prog 75 0 0:=de Tryz.underlying75 rfl Mw (ag)
instance:Fld Tryz.prog 75 1 1:=de Tryz.underlying75 rfl vH (ag)
instance:Str Tryz.prog 75 [(0,1),(1,1)] [(.int .u8 0),(.slice none 0 0)]:=eN Tryz.underlying75 Fp (fun _=> aa) rfl
instance:Fld Tryz.prog 98 0 0:=de Tryz.underlying98 rfl lu (ag)
instance:Fld Tryz.prog 98 1 1:=de Tryz.underlying98 rfl lu (ag)
instance:Str Tryz.prog 98 [(0,1),(1,1)] [(.int .i64 0),(.int .i64 0)]:=eN Tryz.underlying98 Jp (fun _=> aa) rfl
instance:Fld Tryz.prog 100 0 0:=de Tryz.underlying100 rfl Jp (ag)
instance:Fld Tryz.prog 100 1 2:=de Tryz.underlying100 rfl vH (ag)
instance:Str Tryz.prog 100 [(0,2),(2,1)] [(.int .i64 0),(.int .i64 0),(.slice none 0 0)]:=eN Tryz.underlying100 KX (fun _=> aa) rfl
instance:Fld Tryz.prog 107 0 0:=de Tryz.underlying107 rfl lu (ag)
instance:Fld Tryz.prog 107 1 1:=de Tryz.underlying107 rfl Jq (ag)
instance:Str Tryz.prog 107 [(0,1),(1,1)] [(.int .i64 0), .nilIface]:=eN Tryz.underlying107 KW (fun _=> aa) rfl
instance:Fld Tryz.prog 121 0 0:=de Tryz.underlying121 rfl uk (ag)
instance:Fld Tryz.prog 121 1 1:=de Tryz.underlying121 rfl lu (ag)
instance:Fld Tryz.prog 121 2 2:=de Tryz.underlying121 rfl Fz (ag)
instance:Fld Tryz.prog 121 3 3:=de Tryz.underlying121 rfl um (ag)
instance:Str Tryz.prog 121 [(0,1),(1,1),(2,1),(3,1),(4,1)] [(.slice none 0 0),(.int .i64 0),(.slice none 0 0),(.slice none 0 0),(.bool false)]:=eN Tryz.underlying121 KV (fun _=> aa) rfl
instance:Fld Tryz.prog 124 0 0:=de Tryz.underlying124 rfl um (ag)
instance:Fld Tryz.prog 124 1 1:=de Tryz.underlying124 rfl KU (ag)
instance:Str Tryz.prog 124 [(0,1),(1,1)] [(.slice none 0 0),(.slice none 0 0)]:=eN Tryz.underlying124 Ag (fun _=> aa) rfl
instance:Fld Tryz.prog 129 0 0:=de Tryz.underlying129 rfl lu (ag)
instance:Fld Tryz.prog 129 1 1:=de Tryz.underlying129 rfl Fy (ag)
instance:Str Tryz.prog 129 [(0,1),(1,1)] [(.int .i64 0),(.slice none 0 0)]:=eN Tryz.underlying129 Af (fun _=> aa) rfl
instance:Fld Tryz.prog 134 0 0:=de Tryz.underlying134 rfl uk (ag)
instance:Fld Tryz.prog 134 1 1:=de Tryz.underlying134 rfl lu (ag)
instance:Fld Tryz.prog 134 2 2:=de Tryz.underlying134 rfl Fx (ag)
instance:Fld Tryz.prog 134 3 3:=de Tryz.underlying134 rfl um (ag)
instance:Str Tryz.prog 134 [(0,1),(1,1),(2,1),(3,1),(4,1)] [(.slice none 0 0),(.int .i64 0),(.slice none 0 0),(.slice none 0 0),(.bool false)]:=eN Tryz.underlying134 KT (fun _=> aa) rfl
instance:Fld Tryz.prog 138 0 0:=de Tryz.underlying138 rfl KS (ag)
instance:Fld Tryz.prog 138 1 1:=de Tryz.underlying138 rfl KR (ag)
instance:Str Tryz.prog 138 [(0,1),(1,1)] [(.pointer none),(.pointer none)]:=eN Tryz.underlying138 Ae (fun _=> aa) rfl
instance:Fld Tryz.prog 152 0 0:=de Tryz.underlying152 rfl vH (ag)
instance:Str Tryz.prog 152 [(0,1)] [(.slice none 0 0)]:=eN Tryz.underlying152 KP (fun _=> aa) rfl
instance:Fld Tryz.prog 188 1 1:=de Tryz.underlying188 rfl um (ag)
instance:Fld Tryz.prog 188 5 5:=de Tryz.underlying188 rfl vH (ag)
instance:Str Tryz.prog 188 [(0,1),(1,1),(2,1),(3,1),(4,1),(5,1)] [(.slice none 0 0),(.slice none 0 0),(.slice none 0 0),(.pointer none),(.slice none 0 0),(.slice none 0 0)]:=eN Tryz.underlying188 KN (fun _=> aa) rfl
instance:Fld Tryz.prog 191 0 0:=de Tryz.underlying191 rfl lu (ag)
instance:Fld Tryz.prog 191 1 1:=de Tryz.underlying191 rfl lu (ag)
instance:Fld Tryz.prog 191 2 2:=de Tryz.underlying191 rfl KM (ag)
instance:Str Tryz.prog 191 [(0,1),(1,1),(2,1)] [(.int .i64 0),(.int .i64 0),(.slice none 0 0)]:=eN Tryz.underlying191 KL (fun _=> aa) rfl
instance:Fld Tryz.prog 194 0 0:=de Tryz.underlying194 rfl uW (ag)
instance:Fld Tryz.prog 194 1 1:=de Tryz.underlying194 rfl uW (ag)
instance:Str Tryz.prog 194 [(0,1),(1,1)] [(.string ByteArray.empty),(.string ByteArray.empty)]:=eN Tryz.underlying194 Ad (fun _=> aa) rfl
instance:Fld Tryz.prog 203 0 0:=de Tryz.underlying203 rfl lu (ag)
instance:Fld Tryz.prog 203 1 1:=de Tryz.underlying203 rfl uW (ag)
instance:Fld Tryz.prog 203 2 2:=de Tryz.underlying203 rfl Fw (ag)
instance:Str Tryz.prog 203 [(0,1),(1,1),(2,1)] [(.int .i64 0),(.string ByteArray.empty),(.slice none 0 0)]:=eN Tryz.underlying203 Ac (fun _=> aa) rfl
instance:Fld Tryz.prog 208 0 0:=de Tryz.underlying208 rfl uW (ag)
instance:Fld Tryz.prog 208 1 1:=de Tryz.underlying208 rfl lu (ag)
instance:Fld Tryz.prog 208 2 2:=de Tryz.underlying208 rfl lu (ag)
instance:Fld Tryz.prog 208 3 3:=de Tryz.underlying208 rfl lu (ag)
instance:Fld Tryz.prog 208 4 4:=de Tryz.underlying208 rfl lu (ag)
instance:Str Tryz.prog 208 [(0,1),(1,1),(2,1),(3,1),(4,1)] [(.string ByteArray.empty),(.int .i64 0),(.int .i64 0),(.int .i64 0),(.int .i64 0)]:=eN Tryz.underlying208 Ab (fun _=> aa) rfl
instance:Fld Tryz.prog 244 0 0:=de Tryz.underlying244 rfl uW (ag)
instance:Fld Tryz.prog 244 1 1:=de Tryz.underlying244 rfl lu (ag)
instance:Fld Tryz.prog 244 2 2:=de Tryz.underlying244 rfl lu (ag)
instance:Str Tryz.prog 244 [(0,1),(1,1),(2,1)] [(.string ByteArray.empty),(.int .i64 0),(.int .i64 0)]:=eN Tryz.underlying244 Aa (fun _=> aa) rfl
instance:Fld Tryz.prog 246 0 0:=de Tryz.underlying246 rfl lu (ag)
instance:Fld Tryz.prog 246 1 1:=de Tryz.underlying246 rfl Ft (ag)
instance:Str Tryz.prog 246 [(0,1),(1,1)] [(.int .i64 0),(.slice none 0 0)]:=eN Tryz.underlying246 A9 (fun _=> aa) rfl
instance:Fld Tryz.prog 261 0 0:=de Tryz.underlying261 rfl uk (ag)
instance:Fld Tryz.prog 261 1 1:=de Tryz.underlying261 rfl um (ag)
instance:Fld Tryz.prog 261 2 2:=de Tryz.underlying261 rfl Mx (ag)
instance:Fld Tryz.prog 261 3 3:=de Tryz.underlying261 rfl KK (ag)
instance:Str Tryz.prog 261 [(0,1),(1,1),(2,1),(3,1)] [(.slice none 0 0),(.slice none 0 0),(.slice none 0 0),(.map none)]:=eN Tryz.underlying261 KJ (fun _=> aa) rfl
instance:Fld Tryz.prog 266 0 0:=de Tryz.underlying266 rfl uW (ag)
instance:Fld Tryz.prog 266 1 1:=de Tryz.underlying266 rfl lu (ag)
instance:Fld Tryz.prog 266 2 2:=de Tryz.underlying266 rfl lu (ag)
instance:Str Tryz.prog 266 [(0,1),(1,1),(2,1),(3,1),(4,1)] [(.string ByteArray.empty),(.int .i64 0),(.int .i64 0),(.int .i64 0),(.int .i64 0)]:=eN Tryz.underlying266 A8 (fun _=> aa) rfl
instance:Fld Tryz.prog 280 0 0:=de Tryz.underlying280 rfl lu (ag)
instance:Fld Tryz.prog 280 3 3:=de Tryz.underlying280 rfl lu (ag)
instance:Str Tryz.prog 280 [(0,1),(1,1),(2,1),(3,1)] [(.int .i64 0),(.int .i64 0),(.int .i64 0),(.int .i64 0)]:=eN Tryz.underlying280 A7 (fun _=> aa) rfl
instance:Str Tryz.prog 285 [(0,1)] [(.slice none 0 0)]:=eN Tryz.underlying285 KI (fun _=> aa) rfl
instance:Fld Tryz.prog 318 0 0:=de Tryz.underlying318 rfl KH (ag)
instance:Str Tryz.prog 318 [(0,1)] [(.slice none 0 0)]:=eN Tryz.underlying318 KE (fun _=> aa) rfl
instance:Fld Tryz.prog 339 0 0:=de Tryz.underlying339 rfl uW (ag)
instance:Fld Tryz.prog 339 1 1:=de Tryz.underlying339 rfl uW (ag)
instance:Str Tryz.prog 339 [(0,1),(1,1)] [(.string ByteArray.empty),(.string ByteArray.empty)]:=eN Tryz.underlying339 A6 (fun _=> aa) rfl
end Go.Sx
