import Derived.Test.YtjhdcheijnegnaaGreatDoorQ11
import Derived.Test.YtjhdcheijnegnaaGreatDoorQ10
set_option linter.all false
set_option maxHeartbeats 0
namespace Go.Sx
open Go Go.Proofs Tryz
set_option maxRecDepth 100000
section
variable {bl:List (Nat×List Nat)}{body l:List Nat}{tag:Nat}
theorem iP:∀n,∀x∈uv n,x<256:=by
 intro n
 induction n using Nat.strongRecOn with
 |_ n ih=>
  intro x hx
  by_cases h:n<128
  ·rw[lB h]at hx;simp at hx;omega
  ·rw[ql h]at hx;rcases Xr.1 hx with rfl|hx
   ·omega
   ·exact ih (n/128) a8 x hx
theorem DD (n:Nat):∀x∈w32 n,x<256:=by
 intro x hx;simp only[w32,Xr,S4,or_false]at hx;omega
theorem Hi (a:∀x∈l,x<256):rp l<4294967296:=rX ae (rP ae l _ ae a)
theorem EF (a:∀x∈l,x<256):sQ l<4294967296:=rX ae (rP ae l _ ae a)
def km (tag:Nat) (body:List Nat):List Nat:= [tag]++uv body.length++body
def j8 (tag:Nat) (body:List Nat):List Nat:=km tag body++w32 (rp (km tag body))
def ei (bl:List (Nat×List Nat)):List Nat:=bl.flatMap λq=>j8 q.1 q.2
def lQ (kind:Nat) (bl:List (Nat×List Nat)):List Nat:= [99,110,99,100]++ [kind]++uv bl.length++ei bl
def kZ (kind:Nat) (bl:List (Nat×List Nat)):List Nat:=lQ kind bl++w32 (sQ (lQ kind bl))
theorem wG (a:tag<256) (b:∀x∈body,x<256):∀x∈km tag body,x<256:=by
 intro x hx;simp only[km,Xl,Ui]at hx;rcases hx with(rfl|hx)|hx
 ·exact a
 ·exact iP _ x hx
 ·exact b x hx
theorem Jc (a:tag<256) (b:∀x∈body,x<256):∀x∈j8 tag body,x<256:=by
 intro x hx;rcases Xl.1 hx with hx|hx
 ·exact wG a b x hx
 ·exact DD _ x hx
theorem D7 (h:∀q∈bl,q.1<256∧∀x∈q.2,x<256):∀x∈ei bl,x<256:=by
 intro x hx;obtain⟨q,a,hx⟩:=X7.1 hx;exact Jc (h q a).1 (h q a).2 x hx
theorem wi {a:Nat}(hk:a<256) (h:∀q∈bl,q.1<256∧∀x∈q.2,x<256):∀x∈lQ a bl,x<256:=by
 intro x hx;simp only[lQ,Xl,Xr,S4,or_false]at hx;rcases hx with((hx|rfl)|hx)|hx
 ·omega
 ·exact hk
 ·exact iP _ x hx
 ·exact D7 h x hx
def eK:Enc (Nat×SV):=⟨λp=>[.int .u8 ((p.1:Nat):Int),p.2.val],2,true,λ_=>rfl,λp v h=>by simp at h;rcases h with rfl|rfl <;> rfl,ae,λh=>aI,ae⟩
instance {p:Nat×SV}:kX eK p (.agg [.int .u8 ((p.1:Nat):Int),p.2.val].toArray):=⟨rfl⟩
instance {v:Value}{n:Nat}{s:SV} [h:i6 eB v n]:i6 eK (.agg [v,s.val].toArray) (n,s):=⟨by have:=h.out;subst this;rfl⟩
def oo (H:cG) (l:List (Nat×SV)) (bl:List (Nat×List Nat)):Prop:=l.length=bl.length∧∀(i:Nat) (p:Nat×SV) (q:Nat×List Nat),l[i]? =some p→bl[i]? =some q→p.1=q.1∧Sl H p.2 eB q.2
theorem IV {G:cJ}{H:cG}{s:SV} [hg:Glb G H] [Tab H 43 md] [Sl H s eB body] (tag:Nat) (ht0:tag≠0) (c:tag<256) (d:∀x∈body,x<256) (hn:body.length≤10000000000):SC G prog 244 [.int .u8 (tag:Int),s.val] H (λv e=>∃a:SV,v=.tuple #[a.val,.nilIface]∧e=Row a eB (j8 tag body)::H):=by
 have hul:=fQ (n:=body.length) a8;have hlen:(km tag body).length≤100000000000:=by simp only[km,Ya,V9];omega
 refine sWk func244 ?_;refine gW (λh1=>?_) λh1=>?_
 ·exfalso;omega
 refine go ?_;refine c0_ rfl ga ?_;rintro _ _ ⟨b1,rfl,rfl⟩;refine go ?_;refine d2_ rfl (n8 tag ak) (on_ (qn_ (ws_ (wr_ (e_ mv (e_ mv (e_ lnn ?_)))))));refine e_ ((ab)) ?_;refine d2_ rfl (eH body.length a8 ak) (go ?_);refine d2_ rfl (zh (by simp only[Ya,Yc,V9];omega) a8) (go ?_);refine c1_ rfl (iW (xs:=km tag body) a8) ?_;rintro _ _ ⟨s1,rfl,rfl⟩;refine d1_ rfl (JC (xs:=km tag body) a8 (wG c d)) ?_;refine d2_ rfl (AE (rp (km tag body)) a8) (go ?_);refine c1_ rfl (iW (xs:=j8 tag body) (by simp only[j8,Ya];simp only[w32,Yb,Yc];omega)) ?_;rintro _ _ ⟨b,rfl,rfl⟩;refine gR ?_;exact⟨_,hsb,b,rfl,rfl⟩
end
section
variable {G:cJ}{H:cG}
structure FV where
 name:ByteArray
 kind:Int
 fold:Bool
 stop:Bool
 stem:Bool
def eF:Enc FV:=⟨λp=>[.string p.name,.int .i64 p.kind,.bool p.fold,.bool p.stop,.bool p.stem],5,true,λ_=>rfl,λp v h=>by simp at h;rcases h with rfl|rfl|rfl|rfl|rfl <;> rfl,ae,λh=>aI,ae⟩
instance {p:FV}:kX eF p (.agg [.string p.name,.int .i64 p.kind,.bool p.fold,.bool p.stop,.bool p.stem].toArray):=⟨rfl⟩
def kT (i c:Nat):Bool:=decide ((97≤c∧c≤122)∨(i≠0∧(c=95∨(48≤c∧c≤57))))
def ox:Nat→List Nat→Bool
 |_, []=>true
 |i,c::r=>kT i c&&ox (i+1) r
def hU (l:List Nat):Bool:=decide (1≤l.length∧l.length≤32)&&ox 0 l
def fY (f:FV):Bool:=if f.kind=1 then true else if f.kind=2∨f.kind=3 then !f.fold&&!f.stop&&!f.stem else false
def pX:List (List Nat)→List FV→Bool
 |_, []=>true
 |seen,f::r=>!decide (cF f.name∈seen)&&(hU (cF f.name)&&(fY f&&pX (seen++ [cF f.name]) r))
def fW (fs:List FV):Bool:=decide (1≤fs.length∧fs.length≤16)&&pX [] fs
theorem G5 (s:ByteArray) (hn:s.size≤1000000000000):SC G prog 148 [.string s] H (λv n=>v=.bool (hU (cF s))∧n=H):=by
 have hs:=cI s;refine sWk func148 ?_;refine ws_ (wr_ (e_ asn (on_ (qn_ (ws_ (ws_ (wr_ (e_ mv (e_ oe (e_ ilt (sp_ mv (k:=λh1=>?_) (m:=λh1=>?_))))))))))))
 ·refine gk (k:=ift (k:=go ?_));refine rT (k:=?_);have e:hU (cF s)=false:=bz;exact⟨_,cH.refl,by rw[e];all_goals rfl,rfl⟩
 refine gW (λh2=>?_) λh2=>?_
 ·refine gR ?_;have e:hU (cF s)=false:=bz;exact⟨_,cH.refl,by rw[e];all_goals rfl,rfl⟩
 have e:hU (cF s)=ox 0 (cF s):=by unfold hU;rw[Ys a8];all_goals rfl
 refine gk (k:=wl_ Nat (λi=>i≤s.size∧hU (cF s)=ox i ((cF s).drop i)) (λi=>[(0,.string s),(15,iN s.size),(16,iN i)]) (λ_=>H) (λi=>s.size-i) (0) (h0:=?_) (k:=?_))
 ·try dsimp only
  exact⟨Yl _,by rw[e,Vi]⟩
 rintro i ⟨hi,hI⟩
 try dsimp only at*
 refine gW (λh3=>?_) λh3=>?_
 ·obtain⟨c,g⟩:=gE (cF s) i;rw[fE g,ox]at hI;refine wk_ (qn_ (ws_ (wb_ (ws_ (wr_ (e_ mv (e_ asn (on_ (qn_ (ws_ (wr_ (e_ mv (e_ mv ?_)))))))))))));refine e_ (mO rfl rfl _ rfl _ (by first|assumption|rfl|exact Yi a8)) ?_;refine e_ asn (on_ (qn_ (ws_ (wr_ (e_ mv (e_ ige (sp_ mv (k:=λh4=>?_) (m:=λh4=>?_))))))))
  ·refine eg_ mv (eg_ ile (e_ pkt (e_ asn (on_ (qn_ (ws_ (wr_ (e_ mv (e_ jq (sp_ mv (k:=λl=>?_) (m:=λl=>?_)))))))))))
   ·refine eg_ mv (eg_ ieq (pk mv (k:=λh6=>?_) (m:=λh6=>?_)))
    ·refine go ?_;refine ift (k:=gR ?_);exact⟨_,cH.refl,al,rfl⟩
    refine eg_ mv (eg_ ine (pk mv (k:=λj=>?_) (m:=λj=>?_)))
    ·refine eg_ mv (eg_ ilt (pk mv (k:=λh=>?_) (m:=λh=>?_)))
     ·refine gk (k:=ift (k:=go ?_));refine gR ?_;exact⟨_,cH.refl,al,rfl⟩
     refine gW (λh9=>?_) λh9=>?_
     ·refine gR ?_;exact⟨_,cH.refl,al,rfl⟩
     refine go ?_;refine lN (i+1) ?_
     try dsimp only
     refine⟨a8,?_⟩;rw[hI,show kT i c=true from Ys a8,Vt]
    refine gk (k:=iff_ (k:=go ?_));refine go ?_;refine lN (i+1) ?_
    try dsimp only
    refine⟨a8,?_⟩;rw[hI,show kT i c=true from Ys a8,Vt]
   refine go ?_;refine gk (k:=iff_ (k:=go ?_));refine lN (i+1) ?_
   try dsimp only
   refine⟨a8,?_⟩;rw[hI,show kT i c=true from Ys a8,Vt]
  refine of_ (of_ (e_ pkf (e_ asn (on_ (qn_ (ws_ (wr_ (e_ mv (e_ jq (e_ mv (eg_ mv (eg_ ieq (pk mv (k:=λf=>?_) (m:=λf=>?_))))))))))))))
  ·refine go ?_;refine ift (k:=gR ?_);exact⟨_,cH.refl,al,rfl⟩
  refine eg_ mv (eg_ ine (pk mv (k:=λd=>?_) (m:=λd=>?_)))
  ·refine eg_ mv (eg_ ilt (pk mv (k:=λb=>?_) (m:=λb=>?_)))
   ·refine gk (k:=ift (k:=go ?_));refine gR ?_;exact⟨_,cH.refl,al,rfl⟩
   refine gW (λa=>?_) λa=>?_
   ·refine gR ?_;exact⟨_,cH.refl,al,rfl⟩
   refine go ?_;refine lN (i+1) ?_
   try dsimp only
   refine⟨a8,?_⟩;rw[hI,show kT i c=true from Ys a8,Vt]
  refine gk (k:=iff_ (k:=go ?_));refine go ?_;refine lN (i+1) ?_
  try dsimp only
  refine⟨a8,?_⟩;rw[hI,show kT i c=true from Ys a8,Vt]
 obtain rfl:i=s.size:=a8;rw[Us a8,ox]at hI;refine gR ?_;exact⟨_,cH.refl,by rw[hI];all_goals rfl,rfl⟩
theorem G6 (f:FV):SC G prog 149 [.agg #[.string f.name,.int .i64 f.kind,.bool f.fold,.bool f.stop,.bool f.stem]] H (λv d=>v=.bool (fY f)∧d=H):=by
 refine sWk func149 ?_;refine gk (k:=bxx (k:=λb1=>?_));refine go ?_;refine gW (λh1=>?_) λh1=>?_
 ·refine gR ?_;exact⟨_,hsb,by unfold fY;rw[if_pos aX];all_goals rfl,rfl⟩
 refine gW (λh2=>?_) λh2=>?_
 ·refine gW (λh3=>?_) λh3=>?_
  ·refine ws_ (wr_ (e_ fla (e_ ldv (e_ jq (sp_ mv (k:=λh4=>?_) (m:=λh4=>?_))))))
   ·refine eg_ fla (eg_ ldv (eg_ jq (e_ pkt (sp_ mv (k:=λc=>?_) (m:=λc=>?_)))))
    ·refine gR ?_;exact⟨_,hsb,aA,rfl⟩
    refine gR ?_;exact⟨_,hsb,aA,rfl⟩
   refine go ?_;refine gR ?_;exact⟨_,hsb,aA,rfl⟩
  refine gR ?_;exact⟨_,hsb,by unfold fY;rw[if_neg a8,if_neg a8];all_goals rfl,rfl⟩
 refine gW (λh6=>?_) λh6=>?_
 ·refine ws_ (wr_ (e_ fla (e_ ldv (e_ jq (sp_ mv (k:=λb=>?_) (m:=λb=>?_))))))
  ·refine eg_ fla (eg_ ldv (eg_ jq (e_ pkt (sp_ mv (k:=λa=>?_) (m:=λa=>?_)))))
   ·refine gR ?_;exact⟨_,hsb,aA,rfl⟩
   refine gR ?_;exact⟨_,hsb,aA,rfl⟩
  refine go ?_;refine gR ?_;exact⟨_,hsb,aA,rfl⟩
 refine gR ?_;exact⟨_,hsb,by unfold fY;rw[if_neg a8,if_neg a8];all_goals rfl,rfl⟩
end
def nm (f:FV):List Nat:=cF f.name
theorem vW {G:cJ}{H:cG}{s:SV}{fs:List FV} [hg:Glb G H] [hs:Sl H s eF fs] (hn:fs.length≤1000000000) (hf:∀f∈fs,f.name.size≤1000000000000):SC G prog 90 [.agg #[s.val]] H (λv j=>j=H∧((fW fs=false∧v=G.err 0)∨(fW fs=true∧v=.nilIface))):=by
 refine sWk func90 ?_;refine gk (k:=bxx (k:=λh=>?_));refine e_ asn (on_ (qn_ (ws_ (ws_ (wr_ (e_ fla (e_ ldv (e_ lnn (e_ ilt (sp_ mv (k:=λh1=>?_) (m:=λh1=>?_)))))))))))
 ·refine gk (k:=ift (k:=go ?_));refine gR ?_;have e:fW fs=false:=bE;exact⟨_,hsb,rfl,.inl ⟨e,rfl⟩⟩
 refine gW (λh2=>?_) λh2=>?_
 ·refine gR ?_;have e:fW fs=false:=bE;exact⟨_,hsb,rfl,.inl ⟨e,rfl⟩⟩
 refine wk_ (qn_ (ws_ (wr_ ?_)));have e:fW fs=pX [] fs:=by unfold fW;rw[Ys a8];all_goals rfl
 refine go ?_;refine s_ (zr rfl) ?_;rintro _ _ ⟨d,rfl,rfl⟩;refine gk (k:=wl_ (Nat×List (List Nat)) (λy=>y.1≤fs.length∧fW fs=pX y.2 (fs.drop y.1)) (λy=>[(1,pA h),(3,.map (some d)),(24,s.val),(25,iN fs.length),(26,iN y.1)]) (λy=>Mp d y.2::H) (λy=>fs.length-y.1) ((0, [])) (h0:=?_) (k:=?_))
 ·try dsimp only
  exact⟨Yl _,by rw[e,Vi]⟩
 rintro⟨i,a⟩ ⟨hi,hI⟩
 try dsimp only at*
 refine gW (λh3=>?_) λh3=>?_
 ·obtain⟨f,b⟩:=gE fs i;have c:=hf f (Yj b);rw[fE b,pX]at hI;refine gk (k:=alc (k:=λb2=>?_));refine go ?_;refine s_ (Cg rfl rfl) ?_;rintro _ _ ⟨⟨lv1,rfl⟩,rfl⟩;refine e_ mv (e_ exr (e_ exr (e_ asn (e_ asn (on_ (qn_ (ws_ (wr_ (e_ mv (sp_ mv (k:=λh4=>?_) (m:=λh4=>?_)))))))))))
  ·refine gk (k:=ift (k:=go ?_));refine gR ?_;refine⟨_,hsb,rfl,.inl ⟨?_,rfl⟩⟩;rw[hI];simp_all
  refine go ?_;refine sg_ (v1_ (G5 f.name c)) (k:=?_);rintro _ _ ⟨rfl,rfl⟩;refine eg_ jq (e_ pkf (sp_ mv (k:=λg=>?_) (m:=λg=>?_)))
  ·refine gk (k:=ift (k:=go ?_));refine gR ?_;refine⟨_,hsb,rfl,.inl ⟨?_,rfl⟩⟩;rw[hI];simp_all
  refine go ?_;refine sg_ (v1_ (G6 f)) (k:=?_);rintro _ _ ⟨rfl,rfl⟩;refine gW (λh6=>?_) λh6=>?_
  ·refine gR ?_;refine⟨_,hsb,rfl,.inl ⟨?_,rfl⟩⟩;rw[hI];simp_all
  refine go ?_;refine s_ (vQ rfl rfl rfl aX) ?_;rintro _ _ ⟨rfl,rfl⟩;refine go ?_;refine lN ((i+1,a++ [cF f.name])) ?_
  try dsimp only
  refine⟨a8,?_⟩;rw[hI];simp_all
 obtain rfl:i=fs.length:=a8;rw[Us (Xj _),pX]at hI;refine gR ?_;exact⟨_,hsb,rfl,.inr ⟨hI,rfl⟩⟩
section
variable {fs:List FV}
def kB (f:FV):Nat:=f.kind.toNat+(if f.fold then 4 else 0)+(if f.stop then 8 else 0)+(if f.stem then 16 else 0)
def j7 (f:FV):List Nat:=uv f.name.size++cF f.name++ [kB f]
def nF (fs:List FV):List Nat:=fs.flatMap j7
def wF (fs:List FV):List Nat:=uv fs.length++nF fs
theorem iv (l:List FV) (f:FV):nF (l++ [f])=nF l++j7 f:=by simp[nF]
theorem yK:∀(fs:List FV) (seen:List (List Nat)),pX seen fs=true→∀f∈fs,hU (cF f.name)=true∧fY f=true
 | [],_,_,f,h=>aU
 |a::r,seen,hc,f,h=>by
  simp only[pX,Xu]at hc;rcases Xr.1 h with rfl|h
  ·exact⟨hc.2.1,hc.2.2.1⟩
  ·exact yK r _ hc.2.2.2 f h
theorem CQ {l:List Nat}(h:hU l=true):1≤l.length∧l.length≤32:=by
 simp only[hU,Xu,Xs]at h;exact h.1
theorem A3 {f:FV}(h:fY f=true):f.kind=1∨(f.kind=2∨f.kind=3)∧f.fold=false∧f.stop=false∧f.stem=false:=by
 unfold fY at h
 split at h
 ·exact .inl aX
 ·split at h
  ·simp only[Xu,Vq]at h;exact .inr ⟨aX,h.1.1,h.1.2,h.2⟩
  ·cases h
theorem gq (h:fW fs=true):(1≤fs.length∧fs.length≤16)∧∀f∈fs,f.name.size≤32∧1≤f.kind∧f.kind≤3:=by
 simp only[fW,Xu,Xs]at h;refine⟨h.1,λf a=>?_⟩;obtain⟨h1,h2⟩:=yK fs [] h.2 f a;have h3:=CQ h1;rw[cI]at h3;rcases A3 h2 with h4|⟨h4,_⟩ <;> omega
theorem LB:∀(k:Fin 4) (a b c:Bool),(let x:=if a then k.val ||| 4 else k.val;let y:=if b then x ||| 8 else x;if c then y ||| 16 else y)=k.val+(if a then 4 else 0)+(if b then 8 else 0)+(if c then 16 else 0):=ae
theorem O5 (f:FV) (h:f.kind.toNat≤3):(if f.stem then(if f.stop then(if f.fold then f.kind.toNat ||| 4 else f.kind.toNat) ||| 8 else(if f.fold then f.kind.toNat ||| 4 else f.kind.toNat)) ||| 16 else(if f.stop then(if f.fold then f.kind.toNat ||| 4 else f.kind.toNat) ||| 8 else(if f.fold then f.kind.toNat ||| 4 else f.kind.toNat)))=kB f:=
 LB ⟨f.kind.toNat,a8⟩ f.fold f.stop f.stem
theorem Il {G:cJ}{H:cG}{s:SV} [hg:Glb G H] [hs:Sl H s eF fs] (q:fs.length≤1000000000) (hf:∀f∈fs,f.name.size≤1000000000000):SC G prog 153 [.agg #[s.val]] H (λv l=>(fW fs=false∧v=.tuple #[.slice none 0 0,G.err 0]∧l=H)∨(fW fs=true∧∃g:SV,v=.tuple #[g.val,.nilIface]∧l=Row g eB (wF fs)::H)):=by
 refine sWk func153 ?_;refine gk (k:=bxx (k:=λb1=>?_));refine go ?_;refine c1_ rfl (vW q hf) ?_;rintro v1 H1 r;rcases r with⟨rfl,⟨d,rfl⟩|⟨d,rfl⟩⟩
 ·refine e_ asn (on_ (qn_ (ws_ (wr_ (e_ mv ?_)))));refine e_ (de rfl) ?_;refine gk (k:=ift (k:=gR ?_));exact⟨_,hsb,.inl ⟨d,rfl,rfl⟩⟩
 obtain⟨⟨hl1,hl2⟩,e⟩:=gq d;refine e_ asn (on_ (qn_ (ws_ (wr_ (e_ mv ?_)))));refine e_ (cK rfl) ?_;refine gk (k:=iff_ (k:=go ?_));refine c0_ rfl ga ?_;rintro _ _ ⟨j,rfl,rfl⟩;refine e_ asn (on_ (qn_ (ws_ (wr_ (e_ mv (e_ fla (e_ ldv (e_ lnn ?_))))))));refine e_ ((ab)) ?_;refine d2_ rfl (eH fs.length a8 ak) (gk (k:=wl_ (Nat×List Nat) (λy=>y.1≤fs.length∧y.2=uv fs.length++nF (fs.take y.1)∧y.2.length≤100+100*y.1) (λy=>[(5,pA j),(22,s.val),(23,iN fs.length),(24,iN y.1)]) (λy=>Wr j y.2::H) (λy=>fs.length-y.1) ((0,uv fs.length)) (h0:=?_) (k:=?_)))
 ·try dsimp only
  have:=fQ (n:=fs.length) a8;exact⟨Yl _,by simp[nF],a8⟩
 rintro⟨i,b⟩ ⟨hi,hI,hzl⟩
 try dsimp only at*
 refine gW (λh1=>?_) λh1=>?_
 ·obtain⟨f,c⟩:=gE fs i;obtain⟨hfn,hk1,hk2⟩:=e f (Yj c);have hul:=fQ (n:=f.name.size) a8;have hbl:=cI f.name;have a:=O5 f a8;have h:f.kind.toNat<256:=a8;have p:f.kind.toNat ||| 4<256:=X8 (n:=8) h ae;have o2:f.kind.toNat ||| 4 ||| 8<256:=X8 (n:=8) p ae;have o3:f.kind.toNat ||| 8<256:=X8 (n:=8) h ae;have hel:(j7 f).length≤100:=by simp only[j7,Ya,Yb,Yc];omega
  refine gk (k:=alc (k:=λb2=>?_));refine go ?_;refine d2_ rfl (DC f.name a8 a8) (on_ (qn_ (ws_ (wr_ (e_ fla (e_ ldv ?_))))));refine e_ (cR 256 rfl rfl rfl f.kind.toNat a8 a8) ?_;refine gW (λh2=>?_) λh2=>?_
  ·refine wr_ (e_ mv ?_);refine e_ (fI 256 rfl rfl rfl rfl _ 4 rfl rfl aj aj) ?_;refine gW (λh3=>?_) λh3=>?_
   ·refine wr_ (e_ mv ?_);refine e_ (fI 256 rfl rfl rfl rfl _ 8 rfl rfl aj aj) ?_;refine gW (λh4=>?_) λh4=>?_
    ·refine wr_ (e_ mv ?_);refine e_ (fI 256 rfl rfl rfl rfl _ 16 rfl rfl aj aj) ?_;refine e_ asn (on_ (qn_ (wr_ ?_)));simp only[*,Xp,↓reduceIte]at a;rw[a];refine go ?_;refine d2_ rfl (n8 (kB f) ai) (go ?_);refine ln_ ((i+1,b++j7 f)) (h4:=?_) (k:=?_)
     ·try dsimp only
      rw[show b++j7 f=b++(uv f.name.size++cF f.name)++ [kB f] by simp[j7]];exact hsb
     try dsimp only
     refine⟨a8,?_,ai⟩;rw[hI,cL c,iv,Yf]
    refine wk_ (qn_ (wr_ ?_));simp only[*,Xp,↓reduceIte]at a;rw[a];refine go ?_;refine d2_ rfl (n8 (kB f) ai) (go ?_);refine ln_ ((i+1,b++j7 f)) (h4:=?_) (k:=?_)
    ·try dsimp only
     rw[show b++j7 f=b++(uv f.name.size++cF f.name)++ [kB f] by simp[j7]];exact hsb
    try dsimp only
    refine⟨a8,?_,ai⟩;rw[hI,cL c,iv,Yf]
   refine gW (λw=>?_) λw=>?_
   ·refine wr_ (e_ mv ?_);refine e_ (fI 256 rfl rfl rfl rfl _ 16 rfl rfl aj aj) ?_;refine e_ asn (on_ (qn_ (wr_ ?_)));simp only[*,Xp,↓reduceIte]at a;rw[a];refine go ?_;refine d2_ rfl (n8 (kB f) ai) (go ?_);refine ln_ ((i+1,b++j7 f)) (h4:=?_) (k:=?_)
    ·try dsimp only
     rw[show b++j7 f=b++(uv f.name.size++cF f.name)++ [kB f] by simp[j7]];exact hsb
    try dsimp only
    refine⟨a8,?_,ai⟩;rw[hI,cL c,iv,Yf]
   refine wk_ (qn_ (wr_ ?_));simp only[*,Xp,↓reduceIte]at a;rw[a];refine go ?_;refine d2_ rfl (n8 (kB f) ai) (go ?_);refine ln_ ((i+1,b++j7 f)) (h4:=?_) (k:=?_)
   ·try dsimp only
    rw[show b++j7 f=b++(uv f.name.size++cF f.name)++ [kB f] by simp[j7]];exact hsb
   try dsimp only
   refine⟨a8,?_,ai⟩;rw[hI,cL c,iv,Yf]
  refine gW (λh6=>?_) λh6=>?_
  ·refine wr_ (e_ mv ?_);refine e_ (fI 256 rfl rfl rfl rfl _ 8 rfl rfl aj aj) ?_;refine gW (λu=>?_) λu=>?_
   ·refine wr_ (e_ mv ?_);refine e_ (fI 256 rfl rfl rfl rfl _ 16 rfl rfl aj aj) ?_;refine e_ asn (on_ (qn_ (wr_ ?_)));simp only[*,Xp,↓reduceIte]at a;rw[a];refine go ?_;refine d2_ rfl (n8 (kB f) ai) (go ?_);refine ln_ ((i+1,b++j7 f)) (h4:=?_) (k:=?_)
    ·try dsimp only
     rw[show b++j7 f=b++(uv f.name.size++cF f.name)++ [kB f] by simp[j7]];exact hsb
    try dsimp only
    refine⟨a8,?_,ai⟩;rw[hI,cL c,iv,Yf]
   refine wk_ (qn_ (wr_ ?_));simp only[*,Xp,↓reduceIte]at a;rw[a];refine go ?_;refine d2_ rfl (n8 (kB f) ai) (go ?_);refine ln_ ((i+1,b++j7 f)) (h4:=?_) (k:=?_)
   ·try dsimp only
    rw[show b++j7 f=b++(uv f.name.size++cF f.name)++ [kB f] by simp[j7]];exact hsb
   try dsimp only
   refine⟨a8,?_,ai⟩;rw[hI,cL c,iv,Yf]
  refine gW (λt=>?_) λt=>?_
  ·refine wr_ (e_ mv ?_);refine e_ (fI 256 rfl rfl rfl rfl _ 16 rfl rfl aj aj) ?_;refine e_ asn (on_ (qn_ (wr_ ?_)));simp only[*,Xp,↓reduceIte]at a;rw[a];refine go ?_;refine d2_ rfl (n8 (kB f) ai) (go ?_);refine ln_ ((i+1,b++j7 f)) (h4:=?_) (k:=?_)
   ·try dsimp only
    rw[show b++j7 f=b++(uv f.name.size++cF f.name)++ [kB f] by simp[j7]];exact hsb
   try dsimp only
   refine⟨a8,?_,ai⟩;rw[hI,cL c,iv,Yf]
  refine wk_ (qn_ (wr_ ?_));simp only[*,Xp,↓reduceIte]at a;rw[a];refine go ?_;refine d2_ rfl (n8 (kB f) ai) (go ?_);refine ln_ ((i+1,b++j7 f)) (h4:=?_) (k:=?_)
  ·try dsimp only
   rw[show b++j7 f=b++(uv f.name.size++cF f.name)++ [kB f] by simp[j7]];exact hsb
  try dsimp only
  refine⟨a8,?_,ai⟩;rw[hI,cL c,iv,Yf]
 obtain rfl:i=fs.length:=a8;rw[Xk]at hI;have hI':b=wF fs:=hI;subst hI';refine go ?_;refine c1_ rfl (iW a8) ?_;rintro _ _ ⟨m,rfl,rfl⟩;refine gR ?_;exact⟨_,hsb,.inr ⟨d,m,rfl,rfl⟩⟩
end
def mkF (q:List Nat) (k:Nat):FV:=⟨dQ q,((k &&& 3:Nat):Int),decide (((k &&& 4:Nat):Int)≠0),decide (((k &&& 8:Nat):Int)≠0),decide (((k &&& 16:Nat):Int)≠0)⟩
theorem Ct {most:Nat}{l q:List Nat}{m:Nat}(a:∀x∈l,x<256) (h:k8 most l=.ok (q,m)):m≤l.length∧q.length≤most∧(∀x∈q,x<256)∧l.take m=uv q.length++q:=by
 unfold k8 at h
 split at h
 ·cases h
 ·rename_i n b hr;obtain⟨h1,h2,h3,h4⟩:=jA a hr
  split at h
  ·cases h
  ·simp only[Except.ok.injEq,Prod.mk.injEq]at h;obtain⟨rfl,rfl⟩:=h;have hl:((l.drop b).take n).length=n:=by rw[Yg,Yo];omega
   refine⟨a8,a8,λx hx=>a x (Yp (Yq hx)),?_⟩;rw[hl,←h3,List.take_add]
section
variable {G:cJ}{P:Program}{t:Tm}{H:cG}{dst:Option Tmp}{ty:TypeId}{pos:String}{after:Array Edge}{g:Option (Nat×Bool)}
end
theorem rB (n:Nat):(w32 n).length=4:=rfl
theorem yx (l:List (Nat×List Nat)) (q:Nat×List Nat):ei (l++ [q])=ei l++j8 q.1 q.2:=by simp[ei]
theorem vm:∀(l:List (Nat×List Nat)) (i:Nat),(ei (l.take i)).length≤(ei l).length
 | [],i=>ak
 |q::l,0=>by simp[ei]
 |q::l,i+1=>by
  have:=vm l i;simp only[ei,Vj,Vp,Ya]at this⊢;omega
theorem BJ {l:List (Nat×List Nat)}{q:Nat×List Nat}(h:q∈l):q.2.length≤(ei l).length:=by
 induction l with
 |nil=>cases h
 |cons a l ih=>
  simp only[ei,Vp,Ya]at ih⊢;rcases Xr.1 h with rfl|h
  ·simp only[j8,km,Ya];omega
  ·have:=ih h;omega
theorem Oz {G:cJ}{H:cG}{s:SV}{l:List (Nat×SV)}{bl:List (Nat×List Nat)} [hg:Glb G H] [Tab H 43 md] [Tab H 33 l7] [Sl H s eK l] (a:Nat) (hk0:a≠0) (hk:a<256) (u:oo H l bl) (m:∀q∈bl,0<q.1∧q.1<256∧∀x∈q.2,x<256) (hn:(ei bl).length≤1000000000) (hm:bl.length≤1000000000):SC G prog 161 [.int .u8 (a:Int),s.val] H (λv w=>∃j:SV,v=.tuple #[j.val,.nilIface]∧w=Row j eB (kZ a bl)::H):=by
 obtain⟨c,d⟩:=u;have hul:=fQ (n:=bl.length) a8;have hql:(lQ a bl).length≤10000000000:=by simp only[lQ,Ya,Yb,Yc];omega
 refine sWk func161 ?_;refine gW (λh1=>?_) λh1=>?_
 ·exfalso;omega
 refine go ?_;refine c0_ rfl ga ?_;rintro _ _ ⟨h,rfl,rfl⟩;refine go ?_;refine s_ (Cj eB rfl rfl rfl rfl rfl) ?_;rintro _ _ ⟨s1,rfl,rfl⟩;refine s_ (Ey rfl ak) ?_;rintro _ _ ⟨rfl,rfl⟩;refine d2_ rfl (zh ak ak) (go ?_);refine d2_ rfl (n8 a ak) (on_ (qn_ (ws_ (wr_ (e_ mv (e_ mv (e_ lnn ?_)))))));refine e_ (cR 18446744073709551616 rfl rfl rfl bl.length a8 a8) ?_;refine d2_ rfl (eH bl.length a8 ak) (gk (k:=wl_ (Nat×List Nat) (λy=>y.1≤bl.length∧y.2= [99,110,99,100]++ [a]++uv bl.length++ei (bl.take y.1)) (λy=>[(6,pA h),(27,s.val),(28,iN bl.length),(29,iN y.1)]) (λy=>Wr h y.2::H) (λy=>bl.length-y.1) ((0, [99,110,99,100]++ [a]++uv bl.length)) (hs:=?_) (h0:=?_) (k:=?_)))
 ·rw[c]
  repeat (first|exact Sub.nil|refine Sub.cons rfl ?_)
 ·try dsimp only
  exact⟨Yl _,by simp[ei]⟩
 rintro⟨i,e⟩ ⟨hi,hI⟩
 try dsimp only at*
 have hzl:e.length≤10000000000:=by
  have:=vm bl i;rw[hI];simp only[Ya,Yb,Yc];omega
 refine go ?_;refine gW (λh2=>?_) λh2=>?_
 ·obtain⟨p,hp⟩:=gE l i;obtain⟨q,b⟩:=gE bl i;obtain⟨g,hS⟩:=d i p q hp b;obtain⟨ht1,ht2,f⟩:=m q (Yj b);have hbl:=BJ (Yj b);have hel:(j8 q.1 q.2).length≤10000000000:=by
   have hu:=fQ (n:=q.2.length) a8;simp only[j8,km,Ya,Yb,Yc,rB];omega
  refine gk (k:=alc (k:=λh=>?_));refine go ?_;refine c2_ rfl (IV p.1 a8 a8 f a8) ?_;rintro _ _ ⟨t,rfl,rfl⟩;rw[g];refine e_ mv (e_ exr (e_ exr (e_ asn (e_ asn (on_ (qn_ (ws_ (ws_ (wr_ (e_ mv ?_))))))))));refine e_ (cK rfl) ?_;refine gk (k:=iff_ (k:=go ?_));refine d2_ rfl (zh a8 a8) (go ?_);refine lN ((i+1,e++j8 q.1 q.2)) ?_
  try dsimp only
  refine⟨a8,?_⟩;rw[cL b,yx,hI];simp
 obtain rfl:i=bl.length:=a8;rw[Xk]at hI;have hI':e=lQ a bl:=hI;subst hI';refine go ?_;refine c1_ rfl (iW a8) ?_;rintro _ _ ⟨t,rfl,rfl⟩;refine d1_ rfl (EH a8 (wi hk λq b=>(m q b).2)) ?_;refine d2_ rfl (AE (sQ (lQ a bl)) a8) (go ?_);refine c1_ rfl (iW (xs:=kZ a bl) (by simp only[kZ,Ya,rB];omega)) ?_;rintro _ _ ⟨r,rfl,rfl⟩;refine gR ?_;exact⟨_,hsb,r,rfl,rfl⟩
section
variable {G:cJ}{H:cG}
theorem xF (s:ByteArray) (hn:s.size≤1000000000000):SC G prog 49 [.string s] H (λv n=>v=.bool (hU (cF s))∧n=H):=by
 have hs:=cI s;refine sWk func49 ?_;refine ws_ (wr_ (e_ asn (on_ (qn_ (ws_ (ws_ (wr_ (e_ mv (e_ oe (e_ ilt (sp_ mv (k:=λh1=>?_) (m:=λh1=>?_))))))))))))
 ·refine gk (k:=ift (k:=go ?_));refine rT (k:=?_);have e:hU (cF s)=false:=bz;exact⟨_,cH.refl,by rw[e];all_goals rfl,rfl⟩
 refine gW (λh2=>?_) λh2=>?_
 ·refine gR ?_;have e:hU (cF s)=false:=bz;exact⟨_,cH.refl,by rw[e];all_goals rfl,rfl⟩
 have e:hU (cF s)=ox 0 (cF s):=by unfold hU;rw[Ys a8];all_goals rfl
 refine gk (k:=wl_ Nat (λi=>i≤s.size∧hU (cF s)=ox i ((cF s).drop i)) (λi=>[(0,.string s),(3,iN i)]) (λ_=>H) (λi=>s.size-i) (0) (h0:=?_) (k:=?_))
 ·try dsimp only
  exact⟨Yl _,by rw[e,Vi]⟩
 rintro i ⟨hi,hI⟩
 try dsimp only at*
 refine gW (λh3=>?_) λh3=>?_
 ·obtain⟨c,g⟩:=gE (cF s) i;rw[fE g,ox]at hI;refine wk_ (qn_ (ws_ (wb_ (ws_ (wr_ (e_ mv (e_ mv ?_)))))));refine e_ (mO rfl rfl _ rfl _ (by first|assumption|rfl|exact Yi a8)) ?_;refine e_ asn (on_ (qn_ (ws_ (wr_ (e_ mv (e_ ige (sp_ mv (k:=λh4=>?_) (m:=λh4=>?_))))))))
  ·refine eg_ mv (eg_ ile (e_ pkt (e_ asn (on_ (qn_ (ws_ (wr_ (e_ mv (e_ jq (sp_ mv (k:=λl=>?_) (m:=λl=>?_)))))))))))
   ·refine eg_ mv (eg_ ieq (pk mv (k:=λh6=>?_) (m:=λh6=>?_)))
    ·refine go ?_;refine ift (k:=gR ?_);exact⟨_,cH.refl,al,rfl⟩
    refine eg_ mv (eg_ ine (pk mv (k:=λj=>?_) (m:=λj=>?_)))
    ·refine eg_ mv (eg_ ilt (pk mv (k:=λh=>?_) (m:=λh=>?_)))
     ·refine gk (k:=ift (k:=go ?_));refine gR ?_;exact⟨_,cH.refl,al,rfl⟩
     refine gW (λh9=>?_) λh9=>?_
     ·refine gR ?_;exact⟨_,cH.refl,al,rfl⟩
     refine go ?_;refine lN (i+1) ?_
     try dsimp only
     refine⟨a8,?_⟩;rw[hI,show kT i c=true from Ys a8,Vt]
    refine gk (k:=iff_ (k:=go ?_));refine go ?_;refine lN (i+1) ?_
    try dsimp only
    refine⟨a8,?_⟩;rw[hI,show kT i c=true from Ys a8,Vt]
   refine go ?_;refine gk (k:=iff_ (k:=go ?_));refine lN (i+1) ?_
   try dsimp only
   refine⟨a8,?_⟩;rw[hI,show kT i c=true from Ys a8,Vt]
  refine of_ (of_ (e_ pkf (e_ asn (on_ (qn_ (ws_ (wr_ (e_ mv (e_ jq (e_ mv (eg_ mv (eg_ ieq (pk mv (k:=λf=>?_) (m:=λf=>?_))))))))))))))
  ·refine go ?_;refine ift (k:=gR ?_);exact⟨_,cH.refl,al,rfl⟩
  refine eg_ mv (eg_ ine (pk mv (k:=λd=>?_) (m:=λd=>?_)))
  ·refine eg_ mv (eg_ ilt (pk mv (k:=λb=>?_) (m:=λb=>?_)))
   ·refine gk (k:=ift (k:=go ?_));refine gR ?_;exact⟨_,cH.refl,al,rfl⟩
   refine gW (λa=>?_) λa=>?_
   ·refine gR ?_;exact⟨_,cH.refl,al,rfl⟩
   refine go ?_;refine lN (i+1) ?_
   try dsimp only
   refine⟨a8,?_⟩;rw[hI,show kT i c=true from Ys a8,Vt]
  refine gk (k:=iff_ (k:=go ?_));refine go ?_;refine lN (i+1) ?_
  try dsimp only
  refine⟨a8,?_⟩;rw[hI,show kT i c=true from Ys a8,Vt]
 obtain rfl:i=s.size:=a8;rw[Us a8,ox]at hI;refine gR ?_;exact⟨_,cH.refl,by rw[hI];all_goals rfl,rfl⟩
theorem EK {s:SV}{fs:List FV} [hs:Sl H s eF fs] (hn:fs.length≤1000000000) (hf:∀f∈fs,f.name.size≤1000000000000):SC G prog 21 [.agg #[s.val]] H (λv N=>N=H∧((fW fs=false∧v=.int .i64 11)∨(fW fs=true∧v=.int .i64 0))):=by
 refine sWk func21 ?_;refine gk (k:=bxx (k:=λw=>?_));refine e_ asn (on_ (qn_ (ws_ (ws_ (wr_ (e_ fla (e_ ldv (e_ lnn (e_ ilt (sp_ mv (k:=λh1=>?_) (m:=λh1=>?_)))))))))))
 ·refine gk (k:=ift (k:=go ?_));refine gR ?_;have e:fW fs=false:=bE;exact⟨_,hsb,rfl,.inl ⟨e,rfl⟩⟩
 refine gW (λh2=>?_) λh2=>?_
 ·refine gR ?_;have e:fW fs=false:=bE;exact⟨_,hsb,rfl,.inl ⟨e,rfl⟩⟩
 refine wk_ (qn_ (ws_ (ws_ (wr_ ?_))));have e:fW fs=pX [] fs:=by unfold fW;rw[Ys a8];all_goals rfl
 refine gk (k:=wl_ Nat (λi=>i≤fs.length∧fW fs=pX ((fs.take i).map nm) (fs.drop i)) (λi=>[(1,pA w),(18,s.val),(19,iN fs.length),(20,iN i)]) (λ_=>Vr w [s.val]::H) (λi=>fs.length-i) (0) (h0:=?_) (k:=?_))
 ·try dsimp only
  exact⟨Yl _,by rw[e,Vi];all_goals rfl⟩
 rintro i ⟨hi,hI⟩
 try dsimp only at*
 refine gW (λh3=>?_) λh3=>?_
 ·obtain⟨f,l⟩:=gE fs i;have z:=hf f (Yj l);rw[fE l,pX]at hI;refine gk (k:=alc (k:=λx=>?_));refine go ?_;refine d1_ rfl (xF f.name z) (e_ asn (on_ (qn_ (ws_ (ws_ (wr_ (e_ mv (e_ jq (sp_ mv (k:=λh4=>?_) (m:=λh4=>?_))))))))))
  ·refine gk (k:=ift (k:=go ?_));refine gR ?_;have hk:hU (cF f.name)=false∨fY f=false:=by
    first
     |exact .inl aX
     |exact .inr bU
   rcases hk with hk|hk <;> exact⟨_,hsb,rfl,.inl ⟨cB,rfl⟩⟩
  refine eg_ fla (eg_ ldv (eg_ ilt (e_ pkf (sp_ mv (k:=λM=>?_) (m:=λM=>?_)))))
  ·refine gk (k:=ift (k:=go ?_));refine gR ?_;have hk:hU (cF f.name)=false∨fY f=false:=by
    first
     |exact .inl aX
     |exact .inr bU
   rcases hk with hk|hk <;> exact⟨_,hsb,rfl,.inl ⟨cB,rfl⟩⟩
  refine gW (λh6=>?_) λh6=>?_
  ·refine gR ?_;have hk:hU (cF f.name)=false∨fY f=false:=by
    first
     |exact .inl aX
     |exact .inr bU
   rcases hk with hk|hk <;> exact⟨_,hsb,rfl,.inl ⟨cB,rfl⟩⟩
  refine wk_ (qn_ (ws_ (ws_ (wr_ (e_ fla (e_ ldv (e_ ine (sp_ mv (k:=λL=>?_) (m:=λL=>?_)))))))))
  ·refine eg_ fla (eg_ ldv (pk mv (k:=λK=>?_) (m:=λK=>?_)))
   ·refine gk (k:=ift (k:=go ?_));refine gR ?_;have hk:fY f=false:=by
     clear hI;unfold fY;rw[if_neg a8,if_pos a8];simp_all
    exact⟨_,hsb,rfl,.inl ⟨cB,rfl⟩⟩
   refine eg_ fla (eg_ ldv (eg_ pkf (pk mv (k:=λh9=>?_) (m:=λh9=>?_))))
   ·refine gk (k:=ift (k:=go ?_));refine gR ?_;have hk:fY f=false:=by
     clear hI;unfold fY;rw[if_neg a8,if_pos a8];simp_all
    exact⟨_,hsb,rfl,.inl ⟨cB,rfl⟩⟩
   refine gW (λF=>?_) λF=>?_
   ·refine gR ?_;have hk:fY f=false:=by
     clear hI;unfold fY;rw[if_neg a8,if_pos a8];simp_all
    exact⟨_,hsb,rfl,.inl ⟨cB,rfl⟩⟩
   refine wk_ (qn_ (ws_ (wr_ ?_)));have t:hU (cF f.name)=true:=aX;have u:fY f=true:=by
    clear hI;unfold fY
    by_cases hk1:f.kind=1
    ·rw[if_pos hk1]
    ·rw[if_neg hk1,if_pos a8];simp_all
   rw[t,u]at hI;refine gk (k:=wl_ Nat (λj=>j≤i∧∀d g,d<j→fs[d]? =some g→cF g.name≠cF f.name) (λj=>[(1,pA w),(3,iN i),(4,pA x),(6,iN j),(18,s.val),(19,iN fs.length),(20,iN i)]) (λ_=>Vr x [.string f.name,.int .i64 f.kind,.bool f.fold,.bool f.stop,.bool f.stem]::Vr w [s.val]::H) (λj=>i-j) (0) (h0:=?_) (k:=?_))
   ·exact⟨Yl _,λd g h=>absurd h (Up _)⟩
   rintro j ⟨hj,a⟩
   try dsimp only at*
   refine gW (λE=>?_) λE=>?_
   ·obtain⟨g,b⟩:=gE fs j;refine go ?_;refine cZ cN (as_ 0 (q:=fla) (k:=as_ 1 (q:=ldv) (k:=as_ 2 (q:=mv) (k:=?_))));refine cO 3 rfl rfl aa rfl (df (cV rfl rfl j rfl a8)) ?_;refine as_ 4 (q:=fle) (k:=?_);refine cO 5 rfl rfl aa rfl (df (oQ rfl bA g b bA)) ?_;refine as_ 6 (q:=fla) (k:=as_ 7 (q:=ldv) (k:=?_));refine cO 8 rfl rfl aa rfl (df (mP rfl rfl)) ?_;refine gW (λC=>?_) λC=>?_
    ·refine go ?_;refine gR ?_;refine⟨_,hsb,rfl,.inl ⟨?_,rfl⟩⟩;have hm:cF f.name∈(fs.take i).map nm:=by
         refine Xw.2 ⟨g,?_,aX⟩;exact Yj (i:=j) (by rw[Xz a8];exact b)
     rw[hI,Ys hm];all_goals rfl
    refine go ?_;refine lN (j+1) ?_
    try dsimp only
    refine⟨a8,λd J r c=>?_⟩;rcases Uq (X9 r)with h|rfl
    ·exact a d J h c
    ·rw[b]at c;cases c;assumption
   obtain rfl:i=j:=a8;have n:cF f.name ∉(fs.take i).map nm:=by
    intro hm;obtain⟨g,y,he⟩:=Xw.1 hm;obtain⟨k,hk⟩:=Vy.1 y;have p:=(Yk.1 hk).1;rw[Yg]at p;rw[Xz a8]at hk;exact a k g a8 hk he
   rw[Yr n]at hI;refine go ?_;refine lN (i+1) ?_
   try dsimp only
   refine⟨a8,?_⟩;rw[hI,cL l,Va];all_goals rfl
  refine gk (k:=iff_ (k:=?_));refine wk_ (qn_ (ws_ (wr_ ?_)));have t:hU (cF f.name)=true:=aX;have u:fY f=true:=by
   clear hI;unfold fY
   by_cases hk1:f.kind=1
   ·rw[if_pos hk1]
   ·rw[if_neg hk1,if_pos a8];simp_all
  rw[t,u]at hI;refine gk (k:=wl_ Nat (λj=>j≤i∧∀d g,d<j→fs[d]? =some g→cF g.name≠cF f.name) (λj=>[(1,pA w),(3,iN i),(4,pA x),(6,iN j),(18,s.val),(19,iN fs.length),(20,iN i)]) (λ_=>Vr x [.string f.name,.int .i64 f.kind,.bool f.fold,.bool f.stop,.bool f.stem]::Vr w [s.val]::H) (λj=>i-j) (0) (h0:=?_) (k:=?_))
  ·exact⟨Yl _,λd g h=>absurd h (Up _)⟩
  rintro j ⟨hj,a⟩
  try dsimp only at*
  refine gW (λB=>?_) λB=>?_
  ·obtain⟨g,b⟩:=gE fs j;refine go ?_;refine cZ cN (as_ 0 (q:=fla) (k:=as_ 1 (q:=ldv) (k:=as_ 2 (q:=mv) (k:=?_))));refine cO 3 rfl rfl aa rfl (df (cV rfl rfl j rfl a8)) ?_;refine as_ 4 (q:=fle) (k:=?_);refine cO 5 rfl rfl aa rfl (df (oQ rfl bA g b bA)) ?_;refine as_ 6 (q:=fla) (k:=as_ 7 (q:=ldv) (k:=?_));refine cO 8 rfl rfl aa rfl (df (mP rfl rfl)) ?_;refine gW (λA=>?_) λA=>?_
   ·refine go ?_;refine gR ?_;refine⟨_,hsb,rfl,.inl ⟨?_,rfl⟩⟩;have hm:cF f.name∈(fs.take i).map nm:=by
     refine Xw.2 ⟨g,?_,aX⟩;exact Yj (i:=j) (by rw[Xz a8];exact b)
    rw[hI,Ys hm];all_goals rfl
   refine go ?_;refine lN (j+1) ?_
   try dsimp only
   refine⟨a8,λd J r c=>?_⟩;rcases Uq (X9 r)with h|rfl
   ·exact a d J h c
   ·rw[b]at c;cases c;assumption
  obtain rfl:i=j:=a8;have n:cF f.name ∉(fs.take i).map nm:=by
   intro hm;obtain⟨g,y,he⟩:=Xw.1 hm;obtain⟨k,hk⟩:=Vy.1 y;have p:=(Yk.1 hk).1;rw[Yg]at p;rw[Xz a8]at hk;exact a k g a8 hk he
  rw[Yr n]at hI;refine go ?_;refine lN (i+1) ?_
  try dsimp only
  refine⟨a8,?_⟩;rw[hI,cL l,Va];all_goals rfl
 obtain rfl:i=fs.length:=a8;rw[Us (Xj _),pX]at hI;refine gR ?_;exact⟨_,hsb,rfl,.inr ⟨hI,rfl⟩⟩
end
theorem Jn {G:cJ}{H:cG}{s s2:SV}{xs ys:List Nat} [Sl H s eB xs] [Sl H s2 eB ys] (hx:∀x∈xs,x<256) (hy:∀x∈ys,x<256):SC G prog 96 [s.val,s2.val] H (λv a=>v=.bool (decide (xs=ys))∧a=H):=by
 refine sWk func96 ?_;refine ws_ (wr_ (e_ asn (on_ (qn_ (ws_ (wr_ (e_ mv ?_)))))));refine e_ (dX rfl) ?_;refine e_ mv ?_;refine e_ (dX rfl) ?_;refine e_ (mP rfl rfl) ?_;refine gR ?_;exact⟨_,cH.refl,by rw[ec hx,ec hy];all_goals rfl,rfl⟩
theorem IL {a:Nat}{bl:List (Nat×List Nat)}(hk:a<256) (h:∀q∈bl,q.1<256∧∀x∈q.2,x<256):∀x∈kZ a bl,x<256:=λx hx=>by
 rcases Xl.1 hx with hx|hx
 ·exact wi hk h x hx
 ·exact DD _ x hx
end Go.Sx
