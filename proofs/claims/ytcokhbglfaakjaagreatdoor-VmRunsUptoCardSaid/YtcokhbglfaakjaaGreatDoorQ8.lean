import Derived.Test.YtcokhbglfaakjaaGreatDoorQ5
import Derived.ScopeJumps
import Derived.Shelf.Sort.Plain
import Derived.Shelf.Strings.Fields
import Derived.Ground.Names2Prog
import Derived.Shelf.Slices.CompactI
import Derived.Shelf.Slices.In.SortNone
import Derived.Test.YtcokhbglfaakjaaGreatDoorProg
set_option linter.all false
set_option maxHeartbeats 0
namespace Go.Sx
open Go Go.Proofs Tryz
set_option maxRecDepth 100000
section
variable {G:dJ}{H:dD}
structure FV where
 name:ByteArray
 kind:Int
 fold:Bool
 stop:Bool
 stem:Bool
def eF:Enc FV:=⟨λp=>[.string p.name,.int .i64 p.kind,.bool p.fold,.bool p.stop,.bool p.stem],5,true,λ_=>rfl,λp v h=>by simp at h;rcases h with rfl|rfl|rfl|rfl|rfl <;> rfl,ae,λh=>aK,ae⟩
instance {p:FV}:kV eF p (.agg [.string p.name,.int .i64 p.kind,.bool p.fold,.bool p.stop,.bool p.stem].toArray):=⟨rfl⟩
instance {n:ByteArray}{k:Int}{a b c:Bool}:gP eF (.agg [.string n,.int .i64 k,.bool a,.bool b,.bool c].toArray) ⟨n,k,a,b,c⟩:=⟨rfl⟩
def nD (i c:Nat):Bool:=decide ((97≤c∧c≤122)∨(i≠0∧(c=95∨(48≤c∧c≤57))))
def sI:Nat→List Nat→Bool
 |_, []=>true
 |i,c::r=>nD i c&&sI (i+1) r
def ju (l:List Nat):Bool:=decide (1≤l.length∧l.length≤32)&&sI 0 l
def iG (f:FV):Bool:=if f.kind=1 then true else if f.kind=2∨f.kind=3 then !f.fold&&!f.stop&&!f.stem else false
def uw:List (List Nat)→List FV→Bool
 |_, []=>true
 |seen,f::r=>!decide (dC f.name∈seen)&&(ju (dC f.name)&&(iG f&&uw (seen++ [dC f.name]) r))
def iK (fs:List FV):Bool:=decide (1≤fs.length∧fs.length≤16)&&uw [] fs
theorem M6 (s:ByteArray) (hn:s.size≤1000000000000):SC G prog 156 [.string s] H (λv d=>v=.bool (ju (dC s))∧d=H):=by
 have hs:=dI s;refine sWk func156 ?_;refine ws_ (wr_ (e_ asn (on_ (qn_ (ws_ (ws_ (wr_ (e_ mv (e_ xO (e_ ilt (sp_ mv (k:=λh1=>?_) (m:=λh1=>?_))))))))))))
 ·refine gk (k:=ift (k:=go ?_));refine rT (k:=?_);have e:ju (dC s)=false:=bL;exact⟨_,dH.refl,by rw[e];all_goals rfl,rfl⟩
 refine gW (λh2=>?_) λh2=>?_
 ·refine gR ?_;have e:ju (dC s)=false:=bL;exact⟨_,dH.refl,by rw[e];all_goals rfl,rfl⟩
 have e:ju (dC s)=sI 0 (dC s):=by unfold ju;rw[Ys a8];all_goals rfl
 refine gk (k:=wl_ Nat (λi=>i≤s.size∧ju (dC s)=sI i ((dC s).drop i)) (λi=>[(0,.string s),(15,iN s.size),(16,iN i)]) (λ_=>H) (λi=>s.size-i) (0) (h0:=?_) (k:=?_))
 ·try dsimp only
  exact⟨Yl _,by rw[e,Va]⟩
 rintro i ⟨hi,hI⟩
 try dsimp only at*
 refine gW (λh3=>?_) λh3=>?_
 ·obtain⟨c,hc⟩:=gE (dC s) i;rw[eh hc,sI]at hI;refine wk_ (qn_ (ws_ (wb_ (ws_ (wr_ (e_ mv (e_ asn (on_ (qn_ (ws_ (wr_ (e_ mv (e_ mv ?_)))))))))))));refine e_ (qb rfl rfl _ rfl _ (by first|assumption|rfl|exact Yi a8)) ?_;refine e_ asn (on_ (qn_ (ws_ (wr_ (e_ mv (e_ ige (sp_ mv (k:=λh4=>?_) (m:=λh4=>?_))))))))
  ·refine eg_ mv (eg_ ile (e_ pkt (e_ asn (on_ (qn_ (ws_ (wr_ (e_ mv (e_ mN (sp_ mv (k:=λh5=>?_) (m:=λh5=>?_)))))))))))
   ·refine eg_ mv (eg_ ieq (tB mv (k:=λh6=>?_) (m:=λh6=>?_)))
    ·refine go ?_;refine ift (k:=gR ?_);exact⟨_,dH.refl,au,rfl⟩
    refine eg_ mv (eg_ ine (tB mv (k:=λb=>?_) (m:=λb=>?_)))
    ·refine eg_ mv (eg_ ilt (tB mv (k:=λh8=>?_) (m:=λh8=>?_)))
     ·refine gk (k:=ift (k:=go ?_));refine gR ?_;exact⟨_,dH.refl,au,rfl⟩
     refine gW (λh9=>?_) λh9=>?_
     ·refine gR ?_;exact⟨_,dH.refl,au,rfl⟩
     refine go ?_;refine lN (i+1) ?_
     try dsimp only
     refine⟨a8,?_⟩;rw[hI,show nD i c=true from Ys a8,Xv]
    refine gk (k:=fM (k:=go ?_));refine go ?_;refine lN (i+1) ?_
    try dsimp only
    refine⟨a8,?_⟩;rw[hI,show nD i c=true from Ys a8,Xv]
   refine go ?_;refine gk (k:=fM (k:=go ?_));refine lN (i+1) ?_
   try dsimp only
   refine⟨a8,?_⟩;rw[hI,show nD i c=true from Ys a8,Xv]
  refine of_ (of_ (e_ pkf (e_ asn (on_ (qn_ (ws_ (wr_ (e_ mv (e_ mN (e_ mv (eg_ mv (eg_ ieq (tB mv (k:=λh10=>?_) (m:=λh10=>?_))))))))))))))
  ·refine go ?_;refine ift (k:=gR ?_);exact⟨_,dH.refl,au,rfl⟩
  refine eg_ mv (eg_ ine (tB mv (k:=λh11=>?_) (m:=λh11=>?_)))
  ·refine eg_ mv (eg_ ilt (tB mv (k:=λh12=>?_) (m:=λh12=>?_)))
   ·refine gk (k:=ift (k:=go ?_));refine gR ?_;exact⟨_,dH.refl,au,rfl⟩
   refine gW (λa=>?_) λa=>?_
   ·refine gR ?_;exact⟨_,dH.refl,au,rfl⟩
   refine go ?_;refine lN (i+1) ?_
   try dsimp only
   refine⟨a8,?_⟩;rw[hI,show nD i c=true from Ys a8,Xv]
  refine gk (k:=fM (k:=go ?_));refine go ?_;refine lN (i+1) ?_
  try dsimp only
  refine⟨a8,?_⟩;rw[hI,show nD i c=true from Ys a8,Xv]
 obtain rfl:i=s.size:=a8;rw[Vn a8,sI]at hI;refine gR ?_;exact⟨_,dH.refl,by rw[hI];all_goals rfl,rfl⟩
theorem M7 (f:FV):SC G prog 157 [.agg #[.string f.name,.int .i64 f.kind,.bool f.fold,.bool f.stop,.bool f.stem]] H (λv b=>v=.bool (iG f)∧b=H):=by
 refine sWk func157 ?_;refine gk (k:=bxx (k:=λb1=>?_));refine go ?_;refine gW (λh1=>?_) λh1=>?_
 ·refine gR ?_;exact⟨_,hsb,by unfold iG;rw[if_pos aU];all_goals rfl,rfl⟩
 refine gW (λh2=>?_) λh2=>?_
 ·refine gW (λh3=>?_) λh3=>?_
  ·refine ws_ (wr_ (e_ fla (e_ ldv (e_ mN (sp_ mv (k:=λh4=>?_) (m:=λh4=>?_))))))
   ·refine eg_ fla (eg_ ldv (eg_ mN (e_ pkt (sp_ mv (k:=λh5=>?_) (m:=λh5=>?_)))))
    ·refine gR ?_;exact⟨_,hsb,aH,rfl⟩
    refine gR ?_;exact⟨_,hsb,aH,rfl⟩
   refine go ?_;refine gR ?_;exact⟨_,hsb,aH,rfl⟩
  refine gR ?_;exact⟨_,hsb,by unfold iG;rw[if_neg a8,if_neg a8];all_goals rfl,rfl⟩
 refine gW (λh6=>?_) λh6=>?_
 ·refine ws_ (wr_ (e_ fla (e_ ldv (e_ mN (sp_ mv (k:=λa=>?_) (m:=λa=>?_))))))
  ·refine eg_ fla (eg_ ldv (eg_ mN (e_ pkt (sp_ mv (k:=λh8=>?_) (m:=λh8=>?_)))))
   ·refine gR ?_;exact⟨_,hsb,aH,rfl⟩
   refine gR ?_;exact⟨_,hsb,aH,rfl⟩
  refine go ?_;refine gR ?_;exact⟨_,hsb,aH,rfl⟩
 refine gR ?_;exact⟨_,hsb,by unfold iG;rw[if_neg a8,if_neg a8];all_goals rfl,rfl⟩
end
def nm (f:FV):List Nat:=dC f.name
theorem AF {G:dJ}{H:dD}{s:SV}{fs:List FV} [hg:Glb G H] [hs:Sl H s eF fs] (hn:fs.length≤1000000000) (hf:∀f∈fs,f.name.size≤1000000000000):SC G prog 112 [.agg #[s.val]] H (λv h=>h=H∧((iK fs=false∧v=G.err 0)∨(iK fs=true∧v=.nilIface))):=by
 refine sWk func112 ?_;refine gk (k:=bxx (k:=λg=>?_));refine e_ asn (on_ (qn_ (ws_ (ws_ (wr_ (e_ fla (e_ ldv (e_ lnn (e_ ilt (sp_ mv (k:=λh1=>?_) (m:=λh1=>?_)))))))))))
 ·refine gk (k:=ift (k:=go ?_));refine gR ?_;have e:iK fs=false:=bP;exact⟨_,hsb,rfl,.inl ⟨e,rfl⟩⟩
 refine gW (λh2=>?_) λh2=>?_
 ·refine gR ?_;have e:iK fs=false:=bP;exact⟨_,hsb,rfl,.inl ⟨e,rfl⟩⟩
 refine wk_ (qn_ (ws_ (wr_ ?_)));have e:iK fs=uw [] fs:=by unfold iK;rw[Ys a8];all_goals rfl
 refine go ?_;refine s_ (Ek rfl) ?_;rintro _ _ ⟨d,rfl,rfl⟩;refine gk (k:=wl_ (Nat×List (List Nat)) (λy=>y.1≤fs.length∧iK fs=uw y.2 (fs.drop y.1)) (λy=>[(1,pA g),(3,.map (some d)),(24,s.val),(25,iN fs.length),(26,iN y.1)]) (λy=>Mp d y.2::H) (λy=>fs.length-y.1) ((0, [])) (h0:=?_) (k:=?_))
 ·try dsimp only
  exact⟨Yl _,by rw[e,Va]⟩
 rintro⟨i,a⟩ ⟨hi,hI⟩
 try dsimp only at*
 refine gW (λh3=>?_) λh3=>?_
 ·obtain⟨f,b⟩:=gE fs i;have c:=hf f (Yj b);rw[eh b,uw]at hI;refine gk (k:=alc (k:=λb2=>?_));refine go ?_;refine s_ (HW rfl rfl) ?_;rintro _ _ ⟨⟨lv1,rfl⟩,rfl⟩;refine e_ mv (e_ exr (e_ exr (e_ asn (e_ asn (on_ (qn_ (ws_ (wr_ (e_ mv (sp_ mv (k:=λh4=>?_) (m:=λh4=>?_)))))))))))
  ·refine gk (k:=ift (k:=go ?_));refine gR ?_;refine⟨_,hsb,rfl,.inl ⟨?_,rfl⟩⟩;rw[hI];simp_all
  refine go ?_;refine sg_ (v1_ (M6 f.name c)) (k:=?_);rintro _ _ ⟨rfl,rfl⟩;refine eg_ mN (e_ pkf (sp_ mv (k:=λh5=>?_) (m:=λh5=>?_)))
  ·refine gk (k:=ift (k:=go ?_));refine gR ?_;refine⟨_,hsb,rfl,.inl ⟨?_,rfl⟩⟩;rw[hI];simp_all
  refine go ?_;refine sg_ (v1_ (M7 f)) (k:=?_);rintro _ _ ⟨rfl,rfl⟩;refine gW (λh6=>?_) λh6=>?_
  ·refine gR ?_;refine⟨_,hsb,rfl,.inl ⟨?_,rfl⟩⟩;rw[hI];simp_all
  refine go ?_;refine s_ (Az rfl rfl rfl aU) ?_;rintro _ _ ⟨rfl,rfl⟩;refine go ?_;refine lN ((i+1,a++ [dC f.name])) ?_
  try dsimp only
  refine⟨a8,?_⟩;rw[hI];simp_all
 obtain rfl:i=fs.length:=a8;rw[Vn (Xl _),uw]at hI;refine gR ?_;exact⟨_,hsb,rfl,.inr ⟨hI,rfl⟩⟩
theorem KH {m N T y:Nat}(hm:T/8<m) (hN:N<2^T):(leB m N).set (T/8) (N/256^(T/8)+y%2^(8-T%8)*2^(T%8))=leB m (N+2^T*(y%2^(8-T%8)))∧N/256^(T/8)+y%2^(8-T%8)*2^(T%8)<256∧(leB m N)[T/8]? =some (N/256^(T/8))∧N+2^T*(y%2^(8-T%8))<2^(T+(8-T%8)):=by
 have hp:0<256^(T/8):=Nat.pow_pos ae;have h1:=Jy hN;have hr:T%8<8:=V2 _ ae;have h2:y%2^(8-T%8)<2^(8-T%8):=V2 _ (U3 _);have h3:2^(8-T%8)*2^(T%8)=256:=by rw[←Uz,show 8-T%8+T%8=8 from a8]
 have h4:N/256^(T/8)+y%2^(8-T%8)*2^(T%8)<256:=by
  have h5:(y%2^(8-T%8)+1)*2^(T%8)≤2^(8-T%8)*2^(T%8):=Vu _ h2;rw[Vy,h3]at h5;omega
 have h256:2^(T%8)≤2^7:=X0 ae a8;have a:(N+2^T*(y%2^(8-T%8)))/256^(T/8)=N/256^(T/8)+y%2^(8-T%8)*2^(T%8):=by
  rw[rC T,V3,Nat.add_mul_div_left _ _ hp,V5 (2^(T%8))]
 refine⟨?_,h4,?_,?_⟩
 ·apply Vz;intro j;rw[Vf,gH]
  by_cases hj:T/8=j
  ·subst hj;rw[if_pos rfl,if_pos hm,rH hm,a,Xw h4]
  ·rw[if_neg hj]
   by_cases hjm:j<m
   ·rw[rH hjm,rH hjm];rcases Us j (T/8)with hlt|hge
    ·rw[rC T,V3,Lk hlt]
    ·obtain⟨d,rfl⟩:∃d,j=T/8+1+d:=⟨j-(T/8+1),a8⟩;rw[V0,Uz,←S6,←S6,a];have h6:256≤256^(1+d):=by rw[Uz,Nat.pow_one];exact Nat.le_mul_of_pos_right _ (Nat.pow_pos ae)
     rw[Nat.div_eq_of_lt (show N/256^(T/8)<256^(1+d)from a8),Nat.div_eq_of_lt (show N/256^(T/8)+y%2^(8-T%8)*2^(T%8)<256^(1+d)from a8)]
   ·rw[Xz (by rw[gH];omega),Xz (by rw[gH];omega)]
 ·rw[rH hm,Xw (show N/256^(T/8)<256 from a8)]
 ·rw[Uz];have b:2^T*(y%2^(8-T%8)+1)≤2^T*2^(8-T%8):=V7 _ h2;rw[R7]at b;omega
theorem KJ {a y k:Nat}(ha:a<2^k) (hk:k<8):a |||(y*2^k%256)=a+y%2^(8-k)*2^k:=by
 have h3:(256:Nat)=2^(8-k)*2^k:=by rw[←Uz,show 8-k+k=8 from a8]
 have h4:y*2^k%256=y%2^(8-k)*2^k:=by
  conv=>lhs;rw[h3]
  rw[Nat.mul_mod_mul_right]
 rw[h4,Nat.or_comm,V5,←Nat.two_pow_add_eq_or_of_lt ha,Nat.add_comm]
theorem CA (x d e:Nat):x%2^d+2^d*(x/2^d%2^e)=x%2^(d+e):=by
 rw[Uz,Nat.mod_mul]
theorem Qj {G:dJ}{H:dD}{s s2:SV}{xs ys:List Nat} [Sl H s eB xs] [Sl H s2 eB ys] (hx:∀x∈xs,x<256) (hy:∀x∈ys,x<256):SC G prog 118 [s.val,s2.val] H (λv a=>v=.bool (decide (xs=ys))∧a=H):=by
 refine sWk func118 ?_;refine ws_ (wr_ (e_ asn (on_ (qn_ (ws_ (wr_ (e_ mv ?_)))))));refine e_ (fx rfl) ?_;refine e_ mv ?_;refine e_ (fx rfl) ?_;refine e_ (qc rfl rfl) ?_;refine gR ?_;exact⟨_,dH.refl,by rw[fD hx,fD hy];all_goals rfl,rfl⟩
section
variable {f:FuncId}{vs:List Value}
theorem qM {G:dJ}{P:Program}{t:Tm}{H:dD}{dst:Option Tmp}{c:Operand}{fi ca:List Value}{xs:List Operand}{a:Array TypeId}{ty:TypeId}{pos:String}{after:Array Edge}{g:Option (Nat×Bool)}{K:Value→dD→Prop}(h0:evo t c=some (.func (.func f) fi.toArray ca.toArray)) (hx:ui t xs=some vs) (hc:SC G P f (fi++vs++ca) H K):St G P ⟨dst,.call ⟨.value c,xs.toArray,a⟩,ty,pos,after,g⟩ t H K:=by
 intro ρ hρ w b;have h1:ρ c=.func (.func f) fi.toArray ca.toArray:=hρ _ _ h0;have h2:xs.toArray.map ρ=vs.toArray:=cz;have:(execOp ρ ⟨dst,.call ⟨.value c,xs.toArray,a⟩,ty,pos,after,g⟩).run P w=.ok (.enter f (fi++vs++ca).toArray) w:=by
  simp only[execOp,resolve,h1,h2,Deferred.ofValue,Sem.run_bind,Sem.run_pure,Result.andThen_ok];simp only[invoke,List.append_toArray];exact hc.enter _ _
 rw[this];exact hc.call w b
section
variable {G:dJ}{P:Program}{N:Nat}{Q:Post}{t:Tm}{H:dD}
def E3 {α:Type}(l:Nat) (I:α→Prop) (fr:α→Tm) (hp:α→dD) (μ:α→Nat) (m:Nat) (Q:Post):Post:=λe t H=>match e with
 | .goto l'=>l'=l∧∃y,I y∧μ y<m∧Sub (fr y) t∧dH H (hp y)
 |e=>Q e t H
theorem Nn {l:Nat}(h:Q .normal t H):W G P N (.label l) Q t H:=⟨λ_ _ ha a=>wp_label ⟨t,H,ha,a,h⟩⟩
theorem Ji {l:Nat}(h:Q (.goto l) t H):W G P N (.goto l) Q t H:=⟨λ_ _ ha a=>wp_goto ⟨t,H,ha,a,h⟩⟩
theorem qg_ {y:Code}{l:Nat}(h:Q (.goto l) t H):J7 G P N y Q (.goto l) t H:=h
section
variable {α:Type}{I:α→Prop}{fr:α→Tm}{hp:α→dD}{μ:α→Nat}{l m:Nat}
theorem jg_ (y:α) (hI:I y) (hm:μ y<m) (hs:Sub (fr y) t) (hh:dH H (hp y)):E3 l I fr hp μ m Q (.goto l) t H:=⟨rfl,y,hI,hm,hs,hh⟩
theorem jt_ (h:Q .ret t H):E3 l I fr hp μ m Q .ret t H:=h
end
end
section
variable {G:dJ}{P:Program}{N:Nat}{Q:Post}{t:Tm}{H:dD}
def Hy {α:Type}(l:Nat) (I:α→Prop) (fr:α→Tm) (hp:α→dD) (Q:Post):Post:=λe t H=>match e with
 | .goto l'=>l'=l∧∃y,I y∧Sub (fr y) t∧dH H (hp y)
 |e=>Q e t H
section
variable {α:Type}{I:α→Prop}{fr:α→Tm}{hp:α→dD}{l:Nat}
theorem ft_ (h:Q .ret t H):Hy l I fr hp Q .ret t H:=h
end
theorem BK {c i:Code}(l:Nat) (hf:findLabel c l=some (.seq .skip i)) (α:Type) (I:α→Prop) (fr:α→Tm) (hp:α→dD) (μ:α→Nat)
 (pass:∀x,I x→W G P N i (E3 l I fr hp μ (μ x) Q) (fr x) (hp x))
 (first:(∀y t H,I y→Sub (fr y) t→dH H (hp y)→W G P N (.seq (.label l) i) (Hy l I fr hp Q) t H)→W G P N c (Hy l I fr hp Q) t H):W G P N (.scope c) Q t H:=by
 have hm:∀(m:Nat) e t H,E3 l I fr hp μ m Q e t H→Hy l I fr hp Q e t H:=λm e t H h=>by
  cases e with
  |goto l'=>obtain⟨h1,y,h2,_,h3,h4⟩:=h;exact⟨h1,y,h2,h3,h4⟩
  |normal=>exact h
  |exit id=>exact h
  |ret=>exact h
  |panic ch=>exact h
  |outgrown=>exact h
 have hmax:∃m0:Nat,True:=⟨0,trivial⟩;have A:=first λy s u hy X Y=>yV (Nn (FR X (wO Y (Al (pass y hy) (hm _)))))
 refine⟨λa w ha L=>?_⟩;intro b k E;have U:gotoIn l (.inScope c::k)=some (.code (.seq .skip i):: .inScope c::k):=by simp[gotoIn,hf]
 have B:∀x,I x→W G P N (.seq .skip i) (E3 l I fr hp μ (μ x) Q) (fr x) (hp x):=λx hx=>yV (Jf (pass x hx));have J:∀n x,μ x=n→I x→∀a w,Fr N (fr x) a→Sat G w (hp x)→
  ∃e V T,up G N Q e V T∧Arrives P (lone (b.at a (.code (.seq .skip i):: .inScope c::k)) E w) b k E e V T:=by
  intro n
  induction n using Nat.strongRecOn with
  |_ n ih=>
   intro x hn hI a w ha L;obtain⟨e,r,q,j,d⟩:=(B x hI).go a w ha L b (.inScope c::k) E;obtain⟨s,u,g,f,j⟩:=j;cases e with
   |normal=>exact⟨.normal,r,q,⟨s,u,g,f,j⟩,Steps.trans d (.one step_inScope)⟩
   |exit id=>exact⟨.exit id,r,q,⟨s,u,g,f,j⟩,λK hk=>d K (by simp[exitTo,hk])⟩
   |goto l'=>
    obtain⟨rfl,y,hy,M,v,z⟩:=j;obtain⟨R,S,F,C,p⟩:=ih (μ y) (hn ▸ M) y rfl hy r q (g.sub v) (z.sat f);exact⟨R,S,F,C,.of_steps (d _ U) p⟩
   |ret=>exact⟨_,r,q,⟨s,u,g,f,j⟩,d⟩
   |panic ch=>exact⟨_,r,q,⟨s,u,g,f,j⟩,d⟩
   |outgrown=>exact⟨_,r,q,⟨s,u,g,f,j⟩,d⟩
 obtain⟨e,r,q,j,d⟩:=A.go a w ha L b (.inScope c::k) E;obtain⟨s,u,g,f,j⟩:=j;cases e with
 |normal=>exact⟨.normal,r,q,⟨s,u,g,f,j⟩,.head step_scope (Steps.trans d (.one step_inScope))⟩
 |exit id=>exact⟨.exit id,r,q,⟨s,u,g,f,j⟩,λK hk=>.head step_scope (d K (by simp[exitTo,hk]))⟩
 |goto l'=>
  obtain⟨rfl,y,hy,v,z⟩:=j;obtain⟨R,S,F,C,p⟩:=J _ y rfl hy r q (g.sub v) (z.sat f);exact⟨R,S,F,C,.of_steps (.head step_scope (d _ U)) p⟩
 |ret=>exact⟨_,r,q,⟨s,u,g,f,j⟩,.of_steps (.one step_scope) d⟩
 |panic ch=>exact⟨_,r,q,⟨s,u,g,f,j⟩,.of_steps (.one step_scope) d⟩
 |outgrown=>exact⟨_,r,q,⟨s,u,g,f,j⟩,.of_steps (.one step_scope) d⟩
end
section
variable {G:dJ}{P:Program}{t:Tm}{H:dD}{dst:Option Tmp}{ty:TypeId}{pos:String}{after:Array Edge}{g:Option (Nat×Bool)}
theorem jz {T ft off b k:Nat}{x:Operand}{fs:Array Field}{z v:Value}{l:List Value}(a:P.underlying T=some (.struct fs)) (hf:(fs[k]?).map (λf=>(f.offset,f.type))=some (off,ft)) (hx:evo t x=some (.agg l.toArray)) (hv:l[off]? =some v) [hO:One P ft] [hE:Inf P ft 1 b z]:
 Ev G P ⟨dst,.field T x k,ty,pos,after,g⟩ t H v:=
 fun ρ hρ w _=>by
  cases hk:fs[k]? with
  |none=>rw[hk]at hf;cases hf
  |some f=>
   rw[hk]at hf;simp only[Vs,Option.some.injEq,Prod.mk.injEq]at hf;obtain⟨h1,h2⟩:=hf;subst h1;subst h2;have h3:(l.toArray)[f.offset]? =some v:=by simpa using hv
   simp only[execOp,hρ _ _ hx,Instr.field,Sem.run_bind,ef (T:=T) (d:=.struct fs) (h:=⟨a⟩),Result.andThen_ok,hk,asAgg,part,Sem.run_pure,iZ (T:=f.type),Xx,↓reduceIte];simp[hv]
theorem mkf {fi ca:List Operand}{ws:List Value}(h1:ui t fi=some vs:=by exact rfl) (h2:ui t ca=some ws:=by exact rfl):
 Ev G P ⟨dst,.makeFunc (.func f) fi.toArray ca.toArray,ty,pos,after,g⟩ t H (.func (.func f) vs.toArray ws.toArray):=
 fun ρ hρ w _=>by
  have b:fi.toArray.map ρ=vs.toArray:=by rw[Uy,nv hρ h1]
  have a:ca.toArray.map ρ=ws.toArray:=by rw[Uy,nv hρ h2]
  simp only[execOp,Instr.makeFunc,b,a,Sem.run_bind,Sem.run_pure,Result.andThen_ok]
end
end
end Go.Sx
namespace Go.Proofs
open Go.Sx
open Go.Shelf Tryz
def lays189_ren:Go.Shelf.Ren:=⟨fun| 189=>184| 125=>221| 257=>233| 128=>256| 129=>257| 294=>260| 295=>261| 296=>262| 297=>263| 298=>264| 299=>265| 216=>266| 300=>267| 301=>268| 328=>290| 329=>291| 330=>292| 331=>293| 332=>294| 215=>295| 343=>306|n=>n,fun| 28=>28| 3=>3| 46=>76| 0=>0| 51=>297| 53=>66| 4=>4| 183=>378| 182=>377| 131=>130| 5=>5| 9=>9| 218=>403| 222=>374| 228=>412| 229=>413|n=>n,fun|n=>n⟩
theorem uE:Go.Proofs.Lays.n189 prog lays189_ren:={
 mixed:=aa
 f125:=func221.trans (congrArg some aa)
 f128:=func256.trans (congrArg some aa)
 f129:=func257.trans (congrArg some aa)
 f189:=func184.trans (congrArg some aa)
 f215:=func295.trans (congrArg some aa)
 f216:=func266.trans (congrArg some aa)
 f257:=func233.trans (congrArg some aa)
 f294:=func260.trans (congrArg some aa)
 f295:=func261.trans (congrArg some aa)
 f296:=func262.trans (congrArg some aa)
 f297:=func263.trans (congrArg some aa)
 f298:=func264.trans (congrArg some aa)
 f299:=func265.trans (congrArg some aa)
 f300:=func267.trans (congrArg some aa)
 f301:=func268.trans (congrArg some aa)
 f328:=func290.trans (congrArg some aa)
 f329:=func291.trans (congrArg some aa)
 f330:=func292.trans (congrArg some aa)
 f331:=func293.trans (congrArg some aa)
 f332:=func294.trans (congrArg some aa)
 f343:=func306.trans (congrArg some aa)
 t0:=underlying0
 a0:=isAgg0
 z0:=sizeOf0
 v0:=zeroValue0
 t3:=underlying3
 a3:=isAgg3
 z3:=sizeOf3
 v3:=zeroValue3
 t4:=underlying4
 a4:=isAgg4
 z4:=sizeOf4
 v4:=zeroValue4
 t5:=underlying5
 a5:=isAgg5
 z5:=sizeOf5
 v5:=zeroValue5
 t9:=underlying9
 a9:=isAgg9
 z9:=sizeOf9
 v9:=zeroValue9
 t28:=underlying28
 a28:=isAgg28
 z28:=sizeOf28
 v28:=zeroValue28
 t46:=underlying76
 a46:=isAgg76
 z46:=sizeOf76
 v46:=zeroValue76
 t51:=underlying297
 a51:=isAgg297
 z51:=sizeOf297
 v51:=zeroValue297
 t53:=underlying66
 a53:=isAgg66
 z53:=sizeOf66
 v53:=zeroValue66
 t131:=underlying130
 a131:=isAgg130
 z131:=sizeOf130
 v131:=zeroValue130
 t182:=underlying377
 a182:=isAgg377
 z182:=sizeOf377
 v182:=zeroValue377
 t183:=underlying378
 a183:=isAgg378
 z183:=sizeOf378
 v183:=zeroValue378
 t218:=underlying403
 a218:=isAgg403
 z218:=sizeOf403
 v218:=zeroValue403
 t222:=underlying374
 a222:=isAgg374
 z222:=sizeOf374
 v222:=zeroValue374
 t228:=underlying412
 a228:=isAgg412
 z228:=sizeOf412
 v228:=zeroValue412
 t229:=underlying413
 a229:=isAgg413
 z229:=sizeOf413
 v229:=zeroValue413}
open Go.Sort Go.RowKit in
theorem slices_Sort_int (blk off b:Nat) (zs:List Int) (w:World) (hH:Holds (Value.int .i64) w blk off zs.toArray) (a:blk<w.heap.size) (c:zs.length<4611686018427387904):
 Calls prog 184 #[.slice (some ⟨blk,off,none⟩) zs.length b] w λe d=>
  e=.returned (.tuple #[])∧∃n f,d=grow (putRow (Value.int .i64) (Sort.ahead w n) blk off (zs.mergeSort λx y=>decide (x≤y)).toArray) f:=Any.slices_Sort_int uE blk off b zs w hH a c
def lays190_ren:Go.Shelf.Ren:=⟨fun| 190=>215| 125=>221| 258=>251| 128=>256| 129=>257| 302=>280| 303=>281| 304=>282| 305=>283| 306=>284| 307=>285| 308=>286| 309=>287| 310=>288| 333=>301| 329=>291| 330=>292| 334=>302| 335=>303| 336=>304| 344=>309|n=>n,fun| 31=>334| 9=>9| 3=>3| 46=>76| 0=>0| 51=>297| 53=>66| 4=>4| 183=>378| 182=>377| 131=>130| 5=>5| 218=>403| 222=>374| 228=>412| 229=>413|n=>n,fun|n=>n⟩
theorem uD:Go.Proofs.Lays.n190 prog lays190_ren:={
 mixed:=aa
 f125:=func221.trans (congrArg some aa)
 f128:=func256.trans (congrArg some aa)
 f129:=func257.trans (congrArg some aa)
 f190:=func215.trans (congrArg some aa)
 f258:=func251.trans (congrArg some aa)
 f302:=func280.trans (congrArg some aa)
 f303:=func281.trans (congrArg some aa)
 f304:=func282.trans (congrArg some aa)
 f305:=func283.trans (congrArg some aa)
 f306:=func284.trans (congrArg some aa)
 f307:=func285.trans (congrArg some aa)
 f308:=func286.trans (congrArg some aa)
 f309:=func287.trans (congrArg some aa)
 f310:=func288.trans (congrArg some aa)
 f329:=func291.trans (congrArg some aa)
 f330:=func292.trans (congrArg some aa)
 f333:=func301.trans (congrArg some aa)
 f334:=func302.trans (congrArg some aa)
 f335:=func303.trans (congrArg some aa)
 f336:=func304.trans (congrArg some aa)
 f344:=func309.trans (congrArg some aa)
 t0:=underlying0
 a0:=isAgg0
 z0:=sizeOf0
 v0:=zeroValue0
 t3:=underlying3
 a3:=isAgg3
 z3:=sizeOf3
 v3:=zeroValue3
 t4:=underlying4
 a4:=isAgg4
 z4:=sizeOf4
 v4:=zeroValue4
 t5:=underlying5
 a5:=isAgg5
 z5:=sizeOf5
 v5:=zeroValue5
 t9:=underlying9
 a9:=isAgg9
 z9:=sizeOf9
 v9:=zeroValue9
 t31:=underlying334
 a31:=isAgg334
 z31:=sizeOf334
 v31:=zeroValue334
 t46:=underlying76
 a46:=isAgg76
 z46:=sizeOf76
 v46:=zeroValue76
 t51:=underlying297
 a51:=isAgg297
 z51:=sizeOf297
 v51:=zeroValue297
 t53:=underlying66
 a53:=isAgg66
 z53:=sizeOf66
 v53:=zeroValue66
 t131:=underlying130
 a131:=isAgg130
 z131:=sizeOf130
 v131:=zeroValue130
 t182:=underlying377
 a182:=isAgg377
 z182:=sizeOf377
 v182:=zeroValue377
 t183:=underlying378
 a183:=isAgg378
 z183:=sizeOf378
 v183:=zeroValue378
 t218:=underlying403
 a218:=isAgg403
 z218:=sizeOf403
 v218:=zeroValue403
 t222:=underlying374
 a222:=isAgg374
 z222:=sizeOf374
 v222:=zeroValue374
 t228:=underlying412
 a228:=isAgg412
 z228:=sizeOf412
 v228:=zeroValue412
 t229:=underlying413
 a229:=isAgg413
 z229:=sizeOf413
 v229:=zeroValue413}
open Go.Sort Go.RowKit in
theorem slices_Sort_string (blk off b:Nat) (ss:List (List UInt8)) (w:World) (hH:Holds encStr w blk off ss.toArray) (a:blk<w.heap.size) (c:ss.length<4611686018427387904):
 Calls prog 215 #[.slice (some ⟨blk,off,none⟩) ss.length b] w λe d=>
  e=.returned (.tuple #[])∧∃n f,d=grow (putRow encStr (Sort.ahead w n) blk off (ss.mergeSort λx y=>decide (x≤y)).toArray) f:=Any.slices_Sort_string uD blk off b ss w hH a c
def lays157_ren:Go.Shelf.Ren:=⟨fun| 157=>300| 229=>307| 199=>308| 261=>310| 311=>311| 312=>312|n=>n,fun| 9=>9| 31=>334| 3=>3| 5=>5| 4=>4| 119=>415| 0=>0| 40=>417| 152=>419| 21=>21| 154=>421| 51=>297| 141=>423| 196=>427| 193=>424| 198=>430| 49=>428| 194=>425| 201=>433| 226=>435| 46=>76| 227=>436|n=>n,fun| 0=>26| 6=>28|n=>n⟩
theorem Bx:Go.Proofs.Lays.n157 prog lays157_ren:={
 mixed:=aa
 f157:=func300.trans (congrArg some aa)
 f199:=func308.trans (congrArg some aa)
 f229:=func307.trans (congrArg some aa)
 f261:=func310.trans (congrArg some aa)
 f311:=func311.trans (congrArg some aa)
 f312:=func312.trans (congrArg some aa)
 t0:=underlying0
 a0:=isAgg0
 z0:=sizeOf0
 v0:=zeroValue0
 t3:=underlying3
 a3:=isAgg3
 z3:=sizeOf3
 v3:=zeroValue3
 t4:=underlying4
 a4:=isAgg4
 z4:=sizeOf4
 v4:=zeroValue4
 t5:=underlying5
 a5:=isAgg5
 z5:=sizeOf5
 v5:=zeroValue5
 t9:=underlying9
 a9:=isAgg9
 z9:=sizeOf9
 v9:=zeroValue9
 t21:=underlying21
 a21:=isAgg21
 z21:=sizeOf21
 v21:=zeroValue21
 t31:=underlying334
 a31:=isAgg334
 z31:=sizeOf334
 v31:=zeroValue334
 t40:=underlying417
 a40:=isAgg417
 z40:=sizeOf417
 v40:=zeroValue417
 t46:=underlying76
 a46:=isAgg76
 z46:=sizeOf76
 v46:=zeroValue76
 t49:=underlying428
 a49:=isAgg428
 z49:=sizeOf428
 v49:=zeroValue428
 t51:=underlying297
 a51:=isAgg297
 z51:=sizeOf297
 v51:=zeroValue297
 t119:=underlying415
 a119:=isAgg415
 z119:=sizeOf415
 t141:=underlying423
 a141:=isAgg423
 z141:=sizeOf423
 v141:=zeroValue423
 t152:=underlying419
 a152:=isAgg419
 z152:=sizeOf419
 v152:=zeroValue419
 t154:=underlying421
 a154:=isAgg421
 z154:=sizeOf421
 v154:=zeroValue421
 t193:=underlying424
 a193:=isAgg424
 z193:=sizeOf424
 v193:=zeroValue424
 t194:=underlying425
 a194:=isAgg425
 z194:=sizeOf425
 v194:=zeroValue425
 t196:=underlying427
 a196:=isAgg427
 z196:=sizeOf427
 v196:=zeroValue427
 t198:=underlying430
 a198:=isAgg430
 z198:=sizeOf430
 v198:=zeroValue430
 t201:=underlying433
 a201:=isAgg433
 z201:=sizeOf433
 v201:=zeroValue433
 t226:=underlying435
 a226:=isAgg435
 z226:=sizeOf435
 v226:=zeroValue435
 t227:=underlying436
 a227:=isAgg436
 z227:=sizeOf436
 v227:=zeroValue436
 g0:=aa
 g6:=aa}
open Go.RowKit Go.Lib in
theorem strings_Fields (s:ByteArray) (w:World) (hs:s.size<4294967281) (a:∀(j:Nat) b,s.data.toList[j]? =some b→b.toNat<128) (c:Lib.TabIs prog w "strings.asciiSpace" .u8 Lib.asciiSpaceTab):
 Calls prog 300 #[.string s] w λe d=>
  e=.returned (.slice (some ⟨w.heap.size,0,none⟩) (Lib.fields s.data.toList).length (Lib.fields s.data.toList).length)∧d=w.alloc (.cells ((Lib.fields s.data.toList).map λl=>Value.string ⟨l.toArray⟩).toArray 9):=Any.strings_Fields Bx aa aa s w hs a c
def laysNm220_ren:Go.Shelf.Ren:=⟨fun| 20=>186|n=>n,fun| 22=>28| 3=>3| 4=>4| 0=>0|n=>n,fun|n=>n⟩
theorem rk:Go.Proofs.Lays2.n20 prog laysNm220_ren:={
 mixed:=aa
 f20:=func186.trans (congrArg some aa)
 t0:=underlying0
 a0:=isAgg0
 z0:=sizeOf0
 v0:=zeroValue0
 t3:=underlying3
 a3:=isAgg3
 z3:=sizeOf3
 v3:=zeroValue3
 t4:=underlying4
 a4:=isAgg4
 z4:=sizeOf4
 v4:=zeroValue4
 t22:=underlying28
 a22:=isAgg28
 z22:=sizeOf28
 v22:=zeroValue28
 i3:=aa}
open Go.RowKit Go.Lib Go.Sort in
theorem slices_Compact_int (blk off a:Nat) (zs:List Int) (w:World) (hH:Holds (Value.int .i64) w blk off zs.toArray) (c:zs.length≤9223372036854775807) (b:zs.length≤a):
 Calls prog 186 #[.slice (some ⟨blk,off,none⟩) zs.length a] w λe d=>e=.returned (.slice (some ⟨blk,off,none⟩) (Lib.compact zs).length a)∧∃q,d=putRow (Value.int .i64) (Sort.ahead w q) blk off (Lib.compact zs++List.replicate (zs.length-(Lib.compact zs).length) 0).toArray:=Any.slices_Compact_int rk blk off a zs w hH c b
open Go.RowKit Go.Lib Go.Sort in
theorem slices_Compact_int_empty (a:Option Addr) (b:Nat) (w:World):
 Calls prog 186 #[.slice a 0 b] w λe c=>e=.returned (.slice a 0 b)∧c=w:=Any.slices_Compact_int_empty rk a b w
open Go.RowKit Go.Sort in
theorem slices_Sort_string_none (p:Option Addr) (a:Nat) (w:World):
 Calls prog 215 #[.slice p 0 a] w λe b=>e=.returned (.tuple #[])∧b=w:=Any.slices_Sort_string_none uD p a w
open Go.RowKit Go.Sort in
theorem slices_Sort_int_none (p:Option Addr) (a:Nat) (w:World):
 Calls prog 184 #[.slice p 0 a] w λe b=>e=.returned (.tuple #[])∧b=w:=Any.slices_Sort_int_none uE p a w
end Go.Proofs
