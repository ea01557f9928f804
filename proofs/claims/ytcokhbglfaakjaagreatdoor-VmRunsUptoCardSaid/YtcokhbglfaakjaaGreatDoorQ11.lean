import Derived.Test.YtcokhbglfaakjaaGreatDoorQ8
import Derived.Test.YtcokhbglfaakjaaGreatDoorQ7
set_option linter.all false
set_option maxHeartbeats 0
namespace Go.Sx
open Go Go.Proofs Tryz
set_option maxRecDepth 100000
section
variable {fs:List FV}
def kB (f:FV):Nat:=f.kind.toNat+(if f.fold then 4 else 0)+(if f.stop then 8 else 0)+(if f.stem then 16 else 0)
def kR (f:FV):List Nat:=uv f.name.size++dC f.name++ [kB f]
def re (fs:List FV):List Nat:=fs.flatMap kR
def Bh (fs:List FV):List Nat:=uv fs.length++re fs
theorem jR (l:List FV) (f:FV):re (l++ [f])=re l++kR f:=by simp[re]
theorem DC:∀(fs:List FV) (seen:List (List Nat)),uw seen fs=true→∀f∈fs,ju (dC f.name)=true∧iG f=true
 | [],_,_,f,h=>bx
 |a::r,seen,hc,f,h=>by
  simp only[uw,Xu]at hc;rcases Xo.1 h with rfl|h
  ·exact⟨hc.2.1,hc.2.2.1⟩
  ·exact DC r _ hc.2.2.2 f h
theorem IA {l:List Nat}(h:ju l=true):1≤l.length∧l.length≤32:=by
 simp only[ju,Xu,Xq]at h;exact h.1
theorem Fh {f:FV}(h:iG f=true):f.kind=1∨(f.kind=2∨f.kind=3)∧f.fold=false∧f.stop=false∧f.stem=false:=by
 unfold iG at h
 split at h
 ·exact .inl aU
 ·split at h
  ·simp only[Xu,Uf]at h;exact .inr ⟨aU,h.1.1,h.1.2,h.2⟩
  ·cases h
theorem jx (h:iK fs=true):(1≤fs.length∧fs.length≤16)∧∀f∈fs,f.name.size≤32∧1≤f.kind∧f.kind≤3:=by
 simp only[iK,Xu,Xq]at h;refine⟨h.1,λf a=>?_⟩;obtain⟨h1,h2⟩:=DC fs [] h.2 f a;have h3:=IA h1;rw[dI]at h3;rcases Fh h2 with h4|⟨h4,_⟩ <;> omega
theorem SZ:∀(k:Fin 4) (a b c:Bool),(let x:=if a then k.val ||| 4 else k.val;let y:=if b then x ||| 8 else x;if c then y ||| 16 else y)=k.val+(if a then 4 else 0)+(if b then 8 else 0)+(if c then 16 else 0):=ae
theorem XE (f:FV) (h:f.kind.toNat≤3):(if f.stem then(if f.stop then(if f.fold then f.kind.toNat ||| 4 else f.kind.toNat) ||| 8 else(if f.fold then f.kind.toNat ||| 4 else f.kind.toNat)) ||| 16 else(if f.stop then(if f.fold then f.kind.toNat ||| 4 else f.kind.toNat) ||| 8 else(if f.fold then f.kind.toNat ||| 4 else f.kind.toNat)))=kB f:=
 SZ ⟨f.kind.toNat,a8⟩ f.fold f.stop f.stem
theorem Ol {G:dJ}{H:dD}{s:SV} [hg:Glb G H] [hs:Sl H s eF fs] (hn:fs.length≤1000000000) (hf:∀f∈fs,f.name.size≤1000000000000):SC G prog 161 [.agg #[s.val]] H (λv h=>(iK fs=false∧v=.tuple #[.slice none 0 0,G.err 0]∧h=H)∨(iK fs=true∧∃d:SV,v=.tuple #[d.val,.nilIface]∧h=Row d eB (Bh fs)::H)):=by
 refine sWk func161 ?_;refine gk (k:=bxx (k:=λb1=>?_));refine go ?_;refine c1_ rfl (AF hn hf) ?_;rintro v1 H1 m;rcases m with⟨rfl,⟨hc,rfl⟩|⟨hc,rfl⟩⟩
 ·refine e_ asn (on_ (qn_ (ws_ (wr_ (e_ mv ?_)))));refine e_ (eg rfl) ?_;refine gk (k:=ift (k:=gR ?_));exact⟨_,hsb,.inl ⟨hc,rfl,rfl⟩⟩
 obtain⟨⟨hl1,hl2⟩,c⟩:=jx hc;refine e_ asn (on_ (qn_ (ws_ (wr_ (e_ mv ?_)))));refine e_ (dL rfl) ?_;refine gk (k:=fM (k:=go ?_));refine c0_ rfl iM ?_;rintro _ _ ⟨g,rfl,rfl⟩;refine e_ asn (on_ (qn_ (ws_ (wr_ (e_ mv (e_ fla (e_ ldv (e_ lnn ?_))))))));refine e_ ((ad)) ?_;refine d2_ rfl (gl fs.length a8 aq) (gk (k:=wl_ (Nat×List Nat) (λy=>y.1≤fs.length∧y.2=uv fs.length++re (fs.take y.1)∧y.2.length≤100+100*y.1) (λy=>[(5,pA g),(22,s.val),(23,iN fs.length),(24,iN y.1)]) (λy=>Wr g y.2::H) (λy=>fs.length-y.1) ((0,uv fs.length)) (h0:=?_) (k:=?_)))
 ·try dsimp only
  have:=iw (n:=fs.length) a8;exact⟨Yl _,by simp[re],a8⟩
 rintro⟨i,zs⟩ ⟨hi,hI,hzl⟩
 try dsimp only at*
 refine gW (λh1=>?_) λh1=>?_
 ·obtain⟨f,b⟩:=gE fs i;obtain⟨hfn,hk1,hk2⟩:=c f (Yj b);have hul:=iw (n:=f.name.size) a8;have hbl:=dI f.name;have a:=XE f a8;have e:f.kind.toNat<256:=a8;have l:f.kind.toNat ||| 4<256:=U7 (n:=8) e ae;have o2:f.kind.toNat ||| 4 ||| 8<256:=U7 (n:=8) l ae;have o3:f.kind.toNat ||| 8<256:=U7 (n:=8) e ae;have hel:(kR f).length≤100:=by simp only[kR,Ya,Yb,Yc];omega
  refine gk (k:=alc (k:=λb2=>?_));refine go ?_;refine d2_ rfl (Jj f.name a8 a8) (on_ (qn_ (ws_ (wr_ (e_ fla (e_ ldv ?_))))));refine e_ (dW 256 rfl rfl rfl f.kind.toNat a8 a8) ?_;refine gW (λh2=>?_) λh2=>?_
  ·refine wr_ (e_ mv ?_);refine e_ (ku 256 rfl rfl rfl rfl _ 4 rfl rfl ak ak) ?_;refine gW (λh3=>?_) λh3=>?_
   ·refine wr_ (e_ mv ?_);refine e_ (ku 256 rfl rfl rfl rfl _ 8 rfl rfl ak ak) ?_;refine gW (λh4=>?_) λh4=>?_
    ·refine wr_ (e_ mv ?_);refine e_ (ku 256 rfl rfl rfl rfl _ 16 rfl rfl ak ak) ?_;refine e_ asn (on_ (qn_ (wr_ ?_)));simp only[*,Xx,↓reduceIte]at a;rw[a];refine go ?_;refine d2_ rfl (qA (kB f) aj) (go ?_);refine ln_ ((i+1,zs++kR f)) (h4:=?_) (k:=?_)
     ·try dsimp only
      rw[show zs++kR f=zs++(uv f.name.size++dC f.name)++ [kB f] by simp[kR]];exact hsb
     try dsimp only
     refine⟨a8,?_,aj⟩;rw[hI,dK b,jR,Yf]
    refine wk_ (qn_ (wr_ ?_));simp only[*,Xx,↓reduceIte]at a;rw[a];refine go ?_;refine d2_ rfl (qA (kB f) aj) (go ?_);refine ln_ ((i+1,zs++kR f)) (h4:=?_) (k:=?_)
    ·try dsimp only
     rw[show zs++kR f=zs++(uv f.name.size++dC f.name)++ [kB f] by simp[kR]];exact hsb
    try dsimp only
    refine⟨a8,?_,aj⟩;rw[hI,dK b,jR,Yf]
   refine gW (λh5=>?_) λh5=>?_
   ·refine wr_ (e_ mv ?_);refine e_ (ku 256 rfl rfl rfl rfl _ 16 rfl rfl ak ak) ?_;refine e_ asn (on_ (qn_ (wr_ ?_)));simp only[*,Xx,↓reduceIte]at a;rw[a];refine go ?_;refine d2_ rfl (qA (kB f) aj) (go ?_);refine ln_ ((i+1,zs++kR f)) (h4:=?_) (k:=?_)
    ·try dsimp only
     rw[show zs++kR f=zs++(uv f.name.size++dC f.name)++ [kB f] by simp[kR]];exact hsb
    try dsimp only
    refine⟨a8,?_,aj⟩;rw[hI,dK b,jR,Yf]
   refine wk_ (qn_ (wr_ ?_));simp only[*,Xx,↓reduceIte]at a;rw[a];refine go ?_;refine d2_ rfl (qA (kB f) aj) (go ?_);refine ln_ ((i+1,zs++kR f)) (h4:=?_) (k:=?_)
   ·try dsimp only
    rw[show zs++kR f=zs++(uv f.name.size++dC f.name)++ [kB f] by simp[kR]];exact hsb
   try dsimp only
   refine⟨a8,?_,aj⟩;rw[hI,dK b,jR,Yf]
  refine gW (λh6=>?_) λh6=>?_
  ·refine wr_ (e_ mv ?_);refine e_ (ku 256 rfl rfl rfl rfl _ 8 rfl rfl ak ak) ?_;refine gW (λp=>?_) λp=>?_
   ·refine wr_ (e_ mv ?_);refine e_ (ku 256 rfl rfl rfl rfl _ 16 rfl rfl ak ak) ?_;refine e_ asn (on_ (qn_ (wr_ ?_)));simp only[*,Xx,↓reduceIte]at a;rw[a];refine go ?_;refine d2_ rfl (qA (kB f) aj) (go ?_);refine ln_ ((i+1,zs++kR f)) (h4:=?_) (k:=?_)
    ·try dsimp only
     rw[show zs++kR f=zs++(uv f.name.size++dC f.name)++ [kB f] by simp[kR]];exact hsb
    try dsimp only
    refine⟨a8,?_,aj⟩;rw[hI,dK b,jR,Yf]
   refine wk_ (qn_ (wr_ ?_));simp only[*,Xx,↓reduceIte]at a;rw[a];refine go ?_;refine d2_ rfl (qA (kB f) aj) (go ?_);refine ln_ ((i+1,zs++kR f)) (h4:=?_) (k:=?_)
   ·try dsimp only
    rw[show zs++kR f=zs++(uv f.name.size++dC f.name)++ [kB f] by simp[kR]];exact hsb
   try dsimp only
   refine⟨a8,?_,aj⟩;rw[hI,dK b,jR,Yf]
  refine gW (λh8=>?_) λh8=>?_
  ·refine wr_ (e_ mv ?_);refine e_ (ku 256 rfl rfl rfl rfl _ 16 rfl rfl ak ak) ?_;refine e_ asn (on_ (qn_ (wr_ ?_)));simp only[*,Xx,↓reduceIte]at a;rw[a];refine go ?_;refine d2_ rfl (qA (kB f) aj) (go ?_);refine ln_ ((i+1,zs++kR f)) (h4:=?_) (k:=?_)
   ·try dsimp only
    rw[show zs++kR f=zs++(uv f.name.size++dC f.name)++ [kB f] by simp[kR]];exact hsb
   try dsimp only
   refine⟨a8,?_,aj⟩;rw[hI,dK b,jR,Yf]
  refine wk_ (qn_ (wr_ ?_));simp only[*,Xx,↓reduceIte]at a;rw[a];refine go ?_;refine d2_ rfl (qA (kB f) aj) (go ?_);refine ln_ ((i+1,zs++kR f)) (h4:=?_) (k:=?_)
  ·try dsimp only
   rw[show zs++kR f=zs++(uv f.name.size++dC f.name)++ [kB f] by simp[kR]];exact hsb
  try dsimp only
  refine⟨a8,?_,aj⟩;rw[hI,dK b,jR,Yf]
 obtain rfl:i=fs.length:=a8;rw[Xn]at hI;have hI':zs=Bh fs:=hI;subst hI';refine go ?_;refine c1_ rfl (kK a8) ?_;rintro _ _ ⟨j,rfl,rfl⟩;refine gR ?_;exact⟨_,hsb,.inr ⟨hc,j,rfl,rfl⟩⟩
end
section
variable {G:dJ}{H:dD}
theorem Cr (s:ByteArray) (hn:s.size≤1000000000000):SC G prog 110 [.string s] H (λv d=>v=.bool (ju (dC s))∧d=H):=by
 have hs:=dI s;refine sWk func110 ?_;refine ws_ (wr_ (e_ asn (on_ (qn_ (ws_ (ws_ (wr_ (e_ mv (e_ xO (e_ ilt (sp_ mv (k:=λh1=>?_) (m:=λh1=>?_))))))))))))
 ·refine gk (k:=ift (k:=go ?_));refine rT (k:=?_);have e:ju (dC s)=false:=bL;exact⟨_,dH.refl,by rw[e];all_goals rfl,rfl⟩
 refine gW (λh2=>?_) λh2=>?_
 ·refine gR ?_;have e:ju (dC s)=false:=bL;exact⟨_,dH.refl,by rw[e];all_goals rfl,rfl⟩
 have e:ju (dC s)=sI 0 (dC s):=by unfold ju;rw[Ys a8];all_goals rfl
 refine gk (k:=wl_ Nat (λi=>i≤s.size∧ju (dC s)=sI i ((dC s).drop i)) (λi=>[(0,.string s),(3,iN i)]) (λ_=>H) (λi=>s.size-i) (0) (h0:=?_) (k:=?_))
 ·try dsimp only
  exact⟨Yl _,by rw[e,Va]⟩
 rintro i ⟨hi,hI⟩
 try dsimp only at*
 refine gW (λh3=>?_) λh3=>?_
 ·obtain⟨c,hc⟩:=gE (dC s) i;rw[eh hc,sI]at hI;refine wk_ (qn_ (ws_ (wb_ (ws_ (wr_ (e_ mv (e_ mv ?_)))))));refine e_ (qb rfl rfl _ rfl _ (by first|assumption|rfl|exact Yi a8)) ?_;refine e_ asn (on_ (qn_ (ws_ (wr_ (e_ mv (e_ ige (sp_ mv (k:=λh4=>?_) (m:=λh4=>?_))))))))
  ·refine eg_ mv (eg_ ile (e_ pkt (e_ asn (on_ (qn_ (ws_ (wr_ (e_ mv (e_ mN (sp_ mv (k:=λh5=>?_) (m:=λh5=>?_)))))))))))
   ·refine eg_ mv (eg_ ieq (tB mv (k:=λh6=>?_) (m:=λh6=>?_)))
    ·refine go ?_;refine ift (k:=gR ?_);exact⟨_,dH.refl,au,rfl⟩
    refine eg_ mv (eg_ ine (tB mv (k:=λb=>?_) (m:=λb=>?_)))
    ·refine eg_ mv (eg_ ilt (tB mv (k:=λh8=>?_) (m:=λh8=>?_)))
     ·refine gk (k:=ift (k:=go ?_));refine gR ?_;exact⟨_,dH.refl,au,rfl⟩
     refine gW (λh9=>?_) λh9=>?_
     ·refine gR ?_;exact⟨_,dH.refl,au,rfl⟩
     refine go ?_;refine lN (i+1) ?_
     try dsimp only
     refine⟨a8,?_⟩;rw[hI,show nD i c=true from Ys a8,Xv]
    refine gk (k:=fM (k:=go ?_));refine go ?_;refine lN (i+1) ?_
    try dsimp only
    refine⟨a8,?_⟩;rw[hI,show nD i c=true from Ys a8,Xv]
   refine go ?_;refine gk (k:=fM (k:=go ?_));refine lN (i+1) ?_
   try dsimp only
   refine⟨a8,?_⟩;rw[hI,show nD i c=true from Ys a8,Xv]
  refine of_ (of_ (e_ pkf (e_ asn (on_ (qn_ (ws_ (wr_ (e_ mv (e_ mN (e_ mv (eg_ mv (eg_ ieq (tB mv (k:=λh10=>?_) (m:=λh10=>?_))))))))))))))
  ·refine go ?_;refine ift (k:=gR ?_);exact⟨_,dH.refl,au,rfl⟩
  refine eg_ mv (eg_ ine (tB mv (k:=λh11=>?_) (m:=λh11=>?_)))
  ·refine eg_ mv (eg_ ilt (tB mv (k:=λh12=>?_) (m:=λh12=>?_)))
   ·refine gk (k:=ift (k:=go ?_));refine gR ?_;exact⟨_,dH.refl,au,rfl⟩
   refine gW (λa=>?_) λa=>?_
   ·refine gR ?_;exact⟨_,dH.refl,au,rfl⟩
   refine go ?_;refine lN (i+1) ?_
   try dsimp only
   refine⟨a8,?_⟩;rw[hI,show nD i c=true from Ys a8,Xv]
  refine gk (k:=fM (k:=go ?_));refine go ?_;refine lN (i+1) ?_
  try dsimp only
  refine⟨a8,?_⟩;rw[hI,show nD i c=true from Ys a8,Xv]
 obtain rfl:i=s.size:=a8;rw[Vn a8,sI]at hI;refine gR ?_;exact⟨_,dH.refl,by rw[hI];all_goals rfl,rfl⟩
theorem Kr {s:SV}{fs:List FV} [hs:Sl H s eF fs] (hn:fs.length≤1000000000) (hf:∀f∈fs,f.name.size≤1000000000000):SC G prog 44 [.agg #[s.val]] H (λv E=>E=H∧((iK fs=false∧v=.int .i64 11)∨(iK fs=true∧v=.int .i64 0))):=by
 refine sWk func44 ?_;refine gk (k:=bxx (k:=λu=>?_));refine e_ asn (on_ (qn_ (ws_ (ws_ (wr_ (e_ fla (e_ ldv (e_ lnn (e_ ilt (sp_ mv (k:=λh1=>?_) (m:=λh1=>?_)))))))))))
 ·refine gk (k:=ift (k:=go ?_));refine gR ?_;have e:iK fs=false:=bP;exact⟨_,hsb,rfl,.inl ⟨e,rfl⟩⟩
 refine gW (λh2=>?_) λh2=>?_
 ·refine gR ?_;have e:iK fs=false:=bP;exact⟨_,hsb,rfl,.inl ⟨e,rfl⟩⟩
 refine wk_ (qn_ (ws_ (ws_ (wr_ ?_))));have e:iK fs=uw [] fs:=by unfold iK;rw[Ys a8];all_goals rfl
 refine gk (k:=wl_ Nat (λi=>i≤fs.length∧iK fs=uw ((fs.take i).map nm) (fs.drop i)) (λi=>[(1,pA u),(18,s.val),(19,iN fs.length),(20,iN i)]) (λ_=>Vr u [s.val]::H) (λi=>fs.length-i) (0) (h0:=?_) (k:=?_))
 ·try dsimp only
  exact⟨Yl _,by rw[e,Va];all_goals rfl⟩
 rintro i ⟨hi,hI⟩
 try dsimp only at*
 refine gW (λh3=>?_) λh3=>?_
 ·obtain⟨f,l⟩:=gE fs i;have y:=hf f (Yj l);rw[eh l,uw]at hI;refine gk (k:=alc (k:=λw=>?_));refine go ?_;refine d1_ rfl (Cr f.name y) (e_ asn (on_ (qn_ (ws_ (ws_ (wr_ (e_ mv (e_ mN (sp_ mv (k:=λh4=>?_) (m:=λh4=>?_))))))))))
  ·refine gk (k:=ift (k:=go ?_));refine gR ?_;have hk:ju (dC f.name)=false∨iG f=false:=by
    first
     |exact .inl aU
     |exact .inr cB
   rcases hk with hk|hk <;> exact⟨_,hsb,rfl,.inl ⟨dk,rfl⟩⟩
  refine eg_ fla (eg_ ldv (eg_ ilt (e_ pkf (sp_ mv (k:=λh5=>?_) (m:=λh5=>?_)))))
  ·refine gk (k:=ift (k:=go ?_));refine gR ?_;have hk:ju (dC f.name)=false∨iG f=false:=by
    first
     |exact .inl aU
     |exact .inr cB
   rcases hk with hk|hk <;> exact⟨_,hsb,rfl,.inl ⟨dk,rfl⟩⟩
  refine gW (λh6=>?_) λh6=>?_
  ·refine gR ?_;have hk:ju (dC f.name)=false∨iG f=false:=by
    first
     |exact .inl aU
     |exact .inr cB
   rcases hk with hk|hk <;> exact⟨_,hsb,rfl,.inl ⟨dk,rfl⟩⟩
  refine wk_ (qn_ (ws_ (ws_ (wr_ (e_ fla (e_ ldv (e_ ine (sp_ mv (k:=λC=>?_) (m:=λC=>?_)))))))))
  ·refine eg_ fla (eg_ ldv (tB mv (k:=λh8=>?_) (m:=λh8=>?_)))
   ·refine gk (k:=ift (k:=go ?_));refine gR ?_;have hk:iG f=false:=by
     clear hI;unfold iG;rw[if_neg a8,if_pos a8];simp_all
    exact⟨_,hsb,rfl,.inl ⟨dk,rfl⟩⟩
   refine eg_ fla (eg_ ldv (eg_ pkf (tB mv (k:=λh9=>?_) (m:=λh9=>?_))))
   ·refine gk (k:=ift (k:=go ?_));refine gR ?_;have hk:iG f=false:=by
     clear hI;unfold iG;rw[if_neg a8,if_pos a8];simp_all
    exact⟨_,hsb,rfl,.inl ⟨dk,rfl⟩⟩
   refine gW (λh10=>?_) λh10=>?_
   ·refine gR ?_;have hk:iG f=false:=by
     clear hI;unfold iG;rw[if_neg a8,if_pos a8];simp_all
    exact⟨_,hsb,rfl,.inl ⟨dk,rfl⟩⟩
   refine wk_ (qn_ (ws_ (wr_ ?_)));have r:ju (dC f.name)=true:=aU;have t:iG f=true:=by
    clear hI;unfold iG
    by_cases hk1:f.kind=1
    ·rw[if_pos hk1]
    ·rw[if_neg hk1,if_pos a8];simp_all
   rw[r,t]at hI;refine gk (k:=wl_ Nat (λj=>j≤i∧∀d g,d<j→fs[d]? =some g→dC g.name≠dC f.name) (λj=>[(1,pA u),(3,iN i),(4,pA w),(6,iN j),(18,s.val),(19,iN fs.length),(20,iN i)]) (λ_=>Vr w [.string f.name,.int .i64 f.kind,.bool f.fold,.bool f.stop,.bool f.stem]::Vr u [s.val]::H) (λj=>i-j) (0) (h0:=?_) (k:=?_))
   ·exact⟨Yl _,λd g h=>absurd h (Up _)⟩
   rintro j ⟨hj,a⟩
   try dsimp only at*
   refine gW (λh11=>?_) λh11=>?_
   ·obtain⟨g,b⟩:=gE fs j;refine go ?_;refine dX dN (as_ 0 (q:=fla) (k:=as_ 1 (q:=ldv) (k:=as_ 2 (q:=mv) (k:=?_))));refine dS 3 rfl rfl aa rfl (ey (er rfl rfl j rfl a8)) ?_;refine as_ 4 (q:=fle) (k:=?_);refine dS 5 rfl rfl aa rfl (ey (ta rfl bH g b bH)) ?_;refine as_ 6 (q:=fla) (k:=as_ 7 (q:=ldv) (k:=?_));refine dS 8 rfl rfl aa rfl (ey (qc rfl rfl)) ?_;refine gW (λh12=>?_) λh12=>?_
    ·refine go ?_;refine gR ?_;refine⟨_,hsb,rfl,.inl ⟨?_,rfl⟩⟩;have hm:dC f.name∈(fs.take i).map nm:=by
         refine Xt.2 ⟨g,?_,aU⟩;exact Yj (i:=j) (by rw[Vp a8];exact b)
     rw[hI,Ys hm];all_goals rfl
    refine go ?_;refine lN (j+1) ?_
    try dsimp only
    refine⟨a8,λd B p c=>?_⟩;rcases Uq (V9 p)with h|rfl
    ·exact a d B h c
    ·rw[b]at c;cases c;assumption
   obtain rfl:i=j:=a8;have hno:dC f.name ∉(fs.take i).map nm:=by
    intro hm;obtain⟨g,x,he⟩:=Xt.1 hm;obtain⟨k,hk⟩:=Vh.1 x;have n:=(Yk.1 hk).1;rw[Yg]at n;rw[Vp a8]at hk;exact a k g a8 hk he
   rw[Yr hno]at hI;refine go ?_;refine lN (i+1) ?_
   try dsimp only
   refine⟨a8,?_⟩;rw[hI,dK l,Xp];all_goals rfl
  refine gk (k:=fM (k:=?_));refine wk_ (qn_ (ws_ (wr_ ?_)));have r:ju (dC f.name)=true:=aU;have t:iG f=true:=by
   clear hI;unfold iG
   by_cases hk1:f.kind=1
   ·rw[if_pos hk1]
   ·rw[if_neg hk1,if_pos a8];simp_all
  rw[r,t]at hI;refine gk (k:=wl_ Nat (λj=>j≤i∧∀d g,d<j→fs[d]? =some g→dC g.name≠dC f.name) (λj=>[(1,pA u),(3,iN i),(4,pA w),(6,iN j),(18,s.val),(19,iN fs.length),(20,iN i)]) (λ_=>Vr w [.string f.name,.int .i64 f.kind,.bool f.fold,.bool f.stop,.bool f.stem]::Vr u [s.val]::H) (λj=>i-j) (0) (h0:=?_) (k:=?_))
  ·exact⟨Yl _,λd g h=>absurd h (Up _)⟩
  rintro j ⟨hj,a⟩
  try dsimp only at*
  refine gW (λA=>?_) λA=>?_
  ·obtain⟨g,b⟩:=gE fs j;refine go ?_;refine dX dN (as_ 0 (q:=fla) (k:=as_ 1 (q:=ldv) (k:=as_ 2 (q:=mv) (k:=?_))));refine dS 3 rfl rfl aa rfl (ey (er rfl rfl j rfl a8)) ?_;refine as_ 4 (q:=fle) (k:=?_);refine dS 5 rfl rfl aa rfl (ey (ta rfl bH g b bH)) ?_;refine as_ 6 (q:=fla) (k:=as_ 7 (q:=ldv) (k:=?_));refine dS 8 rfl rfl aa rfl (ey (qc rfl rfl)) ?_;refine gW (λz=>?_) λz=>?_
   ·refine go ?_;refine gR ?_;refine⟨_,hsb,rfl,.inl ⟨?_,rfl⟩⟩;have hm:dC f.name∈(fs.take i).map nm:=by
     refine Xt.2 ⟨g,?_,aU⟩;exact Yj (i:=j) (by rw[Vp a8];exact b)
    rw[hI,Ys hm];all_goals rfl
   refine go ?_;refine lN (j+1) ?_
   try dsimp only
   refine⟨a8,λd B p c=>?_⟩;rcases Uq (V9 p)with h|rfl
   ·exact a d B h c
   ·rw[b]at c;cases c;assumption
  obtain rfl:i=j:=a8;have hno:dC f.name ∉(fs.take i).map nm:=by
   intro hm;obtain⟨g,x,he⟩:=Xt.1 hm;obtain⟨k,hk⟩:=Vh.1 x;have n:=(Yk.1 hk).1;rw[Yg]at n;rw[Vp a8]at hk;exact a k g a8 hk he
  rw[Yr hno]at hI;refine go ?_;refine lN (i+1) ?_
  try dsimp only
  refine⟨a8,?_⟩;rw[hI,dK l,Xp];all_goals rfl
 obtain rfl:i=fs.length:=a8;rw[Vn (Xl _),uw]at hI;refine gR ?_;exact⟨_,hsb,rfl,.inr ⟨hI,rfl⟩⟩
end
end Go.Sx
