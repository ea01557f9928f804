import Derived.Test.YtcokhbglfaakjaaGreatDoorQ10
set_option linter.all false
set_option maxHeartbeats 0
namespace Go.Sx
open Go Go.Proofs
set_option maxRecDepth 100000
open Tryz
section
variable {G:dJ}{H R:dD}{b k most:Nat}{xs:List Nat}
theorem vJ:SC G prog 229 [.bool true] H (λv a=>v=.tuple #[]∧a=H):=by
 refine sWk func229 ?_;refine gW (λh1=>?_) λh1=>?_
 ·exact absurd h1 ae
 exact gZ
theorem NC {m:Nat}{q:List Nat} [hg:Glb G R] [hr:Rem H Rd b (xs,k) R] (hk:k≤xs.length) (hn:xs.length≤1000000000000) (c:∀x∈xs,x<256) (hm:most≤4611686018427387904) (h:mq most (xs.drop k)=.ok (q,m)):SC G prog 177 [pA b,iN most] H (λv a=>v=.tuple #[.string (eG q),.nilIface]∧a=Rd b (xs,k+m)::R):=
 SC.mono (QR hk hn c hm) λv a h2=>by
  rcases h2 with⟨e,h3,_⟩|⟨n',m',h3,h4,h5⟩
  ·rw[h]at h3;cases h3
  ·rw[h]at h3;cases h3;exact⟨h4,h5⟩
theorem wh {n m:Nat} [hg:Glb G R] [hr:Rem H Rd b (xs,k) R] (hk:k≤xs.length) (hn:xs.length≤1000000000000) (c:∀x∈xs,x<256) (hm:most≤4611686018427387904) (h:iH most (xs.drop k)=.ok (n,m)):SC G prog 176 [pA b,iN most] H (λv a=>v=.tuple #[iN n,.nilIface]∧a=Rd b (xs,k+m)::R):=
 SC.mono (Cv hk hn c hm) λv a h2=>by
  rcases h2 with⟨e,h3,_⟩|⟨n',m',h3,h4,h5⟩
  ·rw[h]at h3;cases h3
  ·rw[h]at h3;cases h3;exact⟨h4,h5⟩
theorem wi {n m:Nat} [hg:Glb G R] [hr:Rem H Rd b (xs,k) R] (hk:k≤xs.length) (hn:xs.length≤1000000000000) (a:∀x∈xs,x<256) (hm:most≤4611686018427387904) (h:iH most (xs.drop k)=.ok (n,m)):SC G prog 228 [pA b,iN most] H (λv c=>v=iN n∧c=Rd b (xs,k+m)::R):=by
 refine sWk func228 ?_;refine go ?_;refine d2_ rfl (wh hk hn a hm h) (e_ mv (e_ exr (e_ exr (e_ asn (e_ asn (on_ (qn_ (ws_ (wr_ (e_ mv ?_))))))))));refine e_ (iB rfl) ?_;refine d1_ rfl vJ (gR ?_);exact⟨_,hsb,rfl,rfl⟩
def ePt:Enc (Nat×Nat):=⟨λp=>[.pointer (some ⟨p.1,p.2,none⟩)],1,false,λ_=>rfl,λ_ v h=>bI,ae,λ_=>rfl,ae⟩
instance {b o:Nat}:gP ePt (.pointer (some ⟨b,o,none⟩)) (b,o):=⟨rfl⟩
instance {p:Nat×Nat}:kV ePt p (.pointer (some ⟨p.1,p.2,none⟩)):=⟨rfl⟩
theorem Ly (a b:List Nat):a.take (eY a b)++b.drop (eY a b)=b:=by rw[tG,Vd]
theorem JU {f:List Nat}{a:ByteArray}{first:Bool}{e:En} [hg:Glb G R] [hr:Rem H Rd b (xs,k) R] (hk:k≤xs.length) (hn:xs.length≤1000000000) (T:∀x∈xs,x<256) (h:xs.drop k=oX (dC a) e++f) (hks:1≤e.key.size∧e.key.size≤65) (hls:a.size≤65) (i:∀x∈jG e,x≤2147483647):
 SC G prog 230 [pA b,.string a,.bool first] H (λv V=>v=.agg #[.string e.key,iN e.docs,iN e.tot,iN e.at_,iN e.size]∧V=Rd b (xs,k+(oX (dC a) e).length)::R):=by
 obtain⟨F,E⟩:=n6 (dC a) (dC e.key);have hbl:=dI a;have hbk:=dI e.key;have r:k+(oX (dC a) e).length+f.length=xs.length:=by
  have:=congrArg List.length h;rw[Yo,Ya]at this;omega
 obtain⟨c,l⟩:=ex (eY (dC a) (dC e.key));rw[←l]at F E;have he:oX (dC a) e=uv c++(uv ((dC e.key).length-c)++(dC e.key).drop c)++(uv e.docs++uv e.tot++uv e.at_++uv e.size):=by rw[oX,l]
 have hdl:((dC e.key).drop c).length=(dC e.key).length-c:=Yo ..;have h0:iH a.size (xs.drop k)=.ok (c,(uv c).length):=by
  rw[h,he];simp only[Yf];exact gw _ a8 a8
 have z:xs.drop (k+(uv c).length)=uv ((dC e.key).drop c).length++(dC e.key).drop c++(uv e.docs++(uv e.tot++(uv e.at_++(uv e.size++f)))):=by
  rw[←Vt,h,he,hdl];simp only[Yf];rw[Vg]
 have h1:mq (65-c) (xs.drop (k+(uv c).length))=.ok ((dC e.key).drop c,(uv ((dC e.key).drop c).length).length+((dC e.key).drop c).length):=by
  rw[z];exact zh _ a8 a8
 obtain⟨g,m⟩:=ex (k+(uv c).length+((uv ((dC e.key).drop c).length).length+((dC e.key).drop c).length));have w:xs.drop g=uv e.docs++(uv e.tot++(uv e.at_++(uv e.size++f))):=by
  rw[m,←Vt,z,←Ya,Vg]
 have hlen:(oX (dC a) e).length=g-k+((uv e.docs).length+(uv e.tot).length+(uv e.at_).length+(uv e.size).length):=by
  rw[he,m,hdl];simp only[Ya,hdl];omega
 have hk1x:g+((uv e.docs).length+(uv e.tot).length+(uv e.at_).length+(uv e.size).length)≤xs.length:=a8;have s:a.extract 0 c++eG ((dC e.key).drop c)=e.key:=by
  apply jy.1;rw[fG,fD (λx hx=>lZ _ x (Yp hx)),iV,Va,l];exact Ly _ _
 have N:=i e.docs (by simp[jG]);have M:=i e.tot (by simp[jG]);have L:=i e.at_ (by simp[jG]);have K:=i e.size (by simp[jG]);have hss:(eG ((dC e.key).drop c)).size=(dC e.key).length-c:=by rw[j9,hdl]
 have hse:(a.extract 0 c).size=c:=by rw[ByteArray.size_extract];omega
 refine sWk func230 ?_;refine gk (k:=alc (k:=λb6=>?_));refine go ?_;refine d2_ rfl (wi hk a8 T a8 h0) (e_ asn (on_ (qn_ (ws_ (wr_ (e_ mv (e_ mv ?_)))))));refine e_ (evq isb (congrArg (Value.int .i64) (by omega:(65:Int)-(c:Int)=((65-c:Nat):Int)))) ?_;refine d2_ rfl (NC (most:=65-c) a8 a8 T a8 h1) ?_;rw[←m];refine e_ mv (e_ exr (e_ exr (e_ asn (e_ asn (on_ (qn_ (ws_ (wr_ (e_ mv ?_)))))))));refine e_ (iB rfl) ?_;refine d1_ rfl vJ (on_ (qn_ (ws_ (wr_ (e_ mv (e_ mv (e_ (tE (b:=c)) (gk (k:=e_ I4 ?_)))))))));rw[s];refine e_ (bld [(0,_)]) (alc (k:=λd=>?_));refine gk (k:=dV 10 47 (k:=λh1=>gk (k:=ep 7 46 (k:=λh2=>gk (k:=iU (vs:=[_,_]) (hc:=(FY a8 a8)) (k:=eg_ mv (eg_ (evq ieq (congrArg Value.bool (Ys a8))) (gk (k:=edq)))))) (q:=gk (k:=edq)))) (q:=?_));rw[show(decide ((0:Int)<(e.key.size:Int))&&(first ||true))=true from by rw[Ys a8];simp];refine d1_ rfl vJ (go ?_);refine s_ (ek ePt [(d,1),(d,2),(d,3),(d,4)] bH rfl ax) ?_;rintro _ _ ⟨s53,rfl,rfl⟩;refine gk (k:=e8 (Nat×Nat×Nat×Nat×Nat×Nat) (λy=>(y.1=0∧y.2.1=g∨y.1=1∧y.2.1=g+(uv e.docs).length∧y.2.2.1=e.docs∨y.1=2∧y.2.1=g+(uv e.docs).length+(uv e.tot).length∧y.2.2.1=e.docs∧y.2.2.2.1=e.tot∨y.1=3∧y.2.1=g+(uv e.docs).length+(uv e.tot).length+(uv e.at_).length∧y.2.2.1=e.docs∧y.2.2.2.1=e.tot∧y.2.2.2.2.1=e.at_∨y.1=4∧y.2.1=g+(uv e.docs).length+(uv e.tot).length+(uv e.at_).length+(uv e.size).length∧y.2.2.1=e.docs∧y.2.2.2.1=e.tot∧y.2.2.2.2.1=e.at_∧y.2.2.2.2.2=e.size)) (λy=>[(55,iN y.1)]) [(0,_),(6,_),(10,_),(53,_),(54,_)] (λy=>[Rd b (xs,y.2.1),Vr d [.string e.key,iN y.2.2.1,iN y.2.2.2.1,iN y.2.2.2.2.1,iN y.2.2.2.2.2]]) _ (λy=>4-y.1) ((0,g,0,0,0,0)) (h0:=?_) (k:=?_))
 ·exact .inl ⟨rfl,rfl⟩
 rintro⟨j,C,va,vb,vc,B⟩ hj
 try dsimp only[Yd,Ye]at*
 have hpl:([(d,1),(d,2),(d,3),(d,4)]:List (Nat×Nat)).length=4:=rfl;refine gW (λh3=>?_) λh3=>?_
 ·obtain⟨U,n⟩:∃U,([(d,1),(d,2),(d,3),(d,4)]:List (Nat×Nat))[j]? =some U:=⟨_,Yi a8⟩;have u:xs.drop (g+(uv e.docs).length)=uv e.tot++(uv e.at_++(uv e.size++f)):=by rw[←Vt,w,Vg]
  have t:xs.drop (g+(uv e.docs).length+(uv e.tot).length)=uv e.at_++(uv e.size++f):=by rw[←Vt,u,Vg]
  have S:xs.drop (g+(uv e.docs).length+(uv e.tot).length+(uv e.at_).length)=uv e.size++f:=by rw[←Vt,t,Vg]
  obtain⟨A,p,J,r⟩:∃A,(jG e)[j]? =some A∧iH 2147483647 (xs.drop C)=.ok (A,(uv A).length)∧C≤xs.length:=by
   rcases hj with⟨rfl,rfl⟩|⟨rfl,rfl,_⟩|⟨rfl,rfl,_⟩|⟨rfl,rfl,_⟩|⟨rfl,_⟩
   ·exact⟨e.docs,rfl,by rw[w];exact gw _ a8 N,a8⟩
   ·exact⟨e.tot,rfl,by rw[u];exact gw _ a8 M,a8⟩
   ·exact⟨e.at_,rfl,by rw[t];exact gw _ a8 L,a8⟩
   ·exact⟨e.size,rfl,by rw[S];exact gw _ a8 K,a8⟩
   ·omega
  refine go ?_;refine d2_ rfl (wi (most:=2147483647) r a8 T a8 J) ?_;rcases hj with⟨rfl,rfl⟩|⟨rfl,rfl,rfl⟩|⟨rfl,rfl,rfl,rfl⟩|⟨rfl,rfl,rfl,rfl,rfl⟩|⟨rfl,_⟩
  all_goals (first|(simp only[Xb,Xc,jG,Option.some.injEq]at n p;subst n;subst p)|(exfalso;omega))
  ·refine go ?_;refine lN ((1,C+(uv e.docs).length,e.docs,vb,vc,B)) ?_
   exact .inr (.inl ⟨rfl,rfl,rfl⟩)
  ·refine go ?_;refine lN ((2,g+(uv e.docs).length+(uv e.tot).length,e.docs,e.tot,vc,B)) ?_
   exact .inr (.inr (.inl ⟨rfl,rfl,rfl,rfl⟩))
  ·refine go ?_;refine lN ((3,g+(uv e.docs).length+(uv e.tot).length+(uv e.at_).length,e.docs,e.tot,e.at_,B)) ?_
   exact .inr (.inr (.inr (.inl ⟨rfl,rfl,rfl,rfl,rfl⟩)))
  refine go ?_;refine lN ((4,g+(uv e.docs).length+(uv e.tot).length+(uv e.at_).length+(uv e.size).length,e.docs,e.tot,e.at_,e.size)) ?_
  exact .inr (.inr (.inr (.inr ⟨rfl,rfl,rfl,rfl,rfl,rfl⟩)))
 rcases hj with⟨rfl,rfl⟩|⟨rfl,rfl,rfl⟩|⟨rfl,rfl,rfl,rfl⟩|⟨rfl,rfl,rfl,rfl,rfl⟩|⟨rfl,rfl,rfl,rfl,rfl,rfl⟩
 ·exfalso;omega
 ·exfalso;omega
 ·exfalso;omega
 ·exfalso;omega
 rw[show g+(uv e.docs).length+(uv e.tot).length+(uv e.at_).length+(uv e.size).length=k+(oX (dC a) e).length from a8];exact gZ
end
section
variable {G:dJ}{H R:dD}{P:Program}{after:Array Edge}{dst:Option Tmp}{g:Option (Nat×Bool)}{pos:String}{t:Tm}{ty:TypeId}{xs:List Nat}
theorem Mx {T U:TypeId}{x y:Operand}{i j:Int}(hx:evo t x=some (.int .i64 i)) (hy:evo t y=some (.int .i64 j)) (a b:Nat) (ha:i=a) (c:j=b) (hla:a<9223372036854775808) (hlb:b<9223372036854775808):
 Ev G P ⟨dst,.binOp .and T x y U,ty,pos,after,g⟩ t H (iN (a &&& b)):=
 fun ρ hρ w _=>by
  have h2:a &&& b≤a:=Nat.and_le_left;have e:(BitVec.ofInt 64 (a:Int) &&& BitVec.ofInt 64 (b:Int)).toNat=a &&& b:=by
   rw[iL,iL,BitVec.toNat_and,BitVec.toNat_ofNat,BitVec.toNat_ofNat,Xw a8,Xw a8]
  have f:IntKind.wrap .i64 ((a &&& b:Nat):Int)=((a &&& b:Nat):Int):=kH a8;have d:IntKind.wrap .i64 (((BitVec.ofInt (IntKind.bits .i64) (a:Int) &&& BitVec.ofInt (IntKind.bits .i64) (b:Int)).toNat:Nat):Int)=((a &&& b:Nat):Int):=by rw[←f];exact congrArg (λn:Nat=>IntKind.wrap .i64 (n:Int)) e
  simp only[execOp,hρ _ _ hx,hρ _ _ hy,eqGuard,binOp,Op.intBits,ha,c];simp only[Sem.run_bind,Sem.run_pure,ne_eq,not_true_eq_false,↓reduceIte];rw[d];all_goals rfl
theorem H4 {T U:TypeId}{x y:Operand}{a b:Int}(hx:evo t x=some (.int .i64 a)) (hy:evo t y=some (.int .i64 b)):
 Ev G P ⟨dst,.binOp .sub T x y U,ty,pos,after,g⟩ t H (.int .i64 (IntKind.i64.wrap (a-b))):=
 fun ρ hρ w _=>by simp[execOp,hρ _ _ hx,hρ _ _ hy,eqGuard,binOp,Op.intArith]
theorem Hm {s:SV}{m N a w:Nat} [hs:Sl H s eB (leB m N)] (hm:a+w≤8*m) (hw:w≤40) (hm9:m≤10000000000):SC G prog 296 [s.val,iN a,iN w] H (λv i=>v=iN (N/2^a%2^w)∧i=H):=by
 have hlen:=gH m N;refine sWk func296 ?_;refine go ?_;refine gk (k:=e8 (Nat×Nat) (λy=>y.1≤w∧y.2=N/2^a%2^y.1) (λy=>[(7,iN y.2),(8,iN y.1)]) [(0,_),(1,_),(2,_)] (λy=>[]) _ (λy=>w-y.1) ((0,0)) (h0:=?_) (k:=?_))
 ·try dsimp only
  exact⟨Yl _,by simp[Nat.mod_one]⟩
 rintro⟨d,v⟩ ⟨hd,hv⟩
 try dsimp only[Yd,Ye]at*
 refine gW (λh1=>?_) λh1=>?_
 ·obtain⟨b,htk⟩:=ex (min (8-(a+d)%8) (w-d));obtain⟨x,hx,hx8,g⟩:=J2 (m:=m) (N:=N) (T:=a+d) (t:=b) a8 a8;have hlt:(a+d)/8<(leB m N).length:=a8;have hp8:2^b≤2^8:=X0 ae a8;have h:0<2^b:=U3 b;have hv40:v<2^40:=by rw[hv];exact Q6 (V2 _ (U3 d)) (X0 ae a8)
  have hxs:x/2^((a+d)%8)≤x:=Nat.div_le_self _ _;have f:x/2^((a+d)%8) &&& (2^b-1)=N/2^(a+d)%2^b:=by rw[Nat.and_two_pow_sub_one_eq_mod,g]
  have hy256:N/2^(a+d)%2^b<256:=by have:=V2 (N/2^(a+d)) h;omega
  have e:2^d≤2^40:=X0 ae a8;have hsh:N/2^(a+d)%2^b*2^d≤255*2^40:=Uv a8 e;have c:=J1 (N:=N) (at_:=a) (got:=d) (t:=b);rw[←hv]at c;refine wk_ (qn_ (wb_ (ws_ (wr_ (e_ mv (e_ mv (e_ mv (e_ iad ?_))))))));refine e_ (fX rfl rfl (a+d) 8 a8 rfl ae ai) ?_;refine e_ ixa (e_ (lel (hy:=hx)) ?_);refine e_ (ew rfl a8) ?_;refine e_ mv (e_ mv (e_ iad ?_));refine e_ (mw rfl rfl (a+d) 8 a8 rfl ae) ?_;refine e_ (hX rfl rfl x ((a+d)%8) rfl rfl (by show _≤64;omega)) ?_;refine e_ asn (on_ (qn_ (ws_ (wr_ (e_ mv (e_ mv (e_ iad ?_)))))));refine e_ (mw rfl rfl (a+d) 8 a8 rfl ae) ?_;refine e_ isb (e_ mv (e_ mv (e_ isb ?_)));refine e_ (oh rfl rfl) ?_;refine e_ (asv (v:=iN b) rfl (congrArg (Value.int .i64) a8)) ?_;refine on_ (qn_ (ws_ (wr_ (e_ mv (e_ mv (e_ mv ?_))))));refine e_ (ye rfl rfl 1 b rfl rfl a8 a8) ?_;refine e_ (evq isb (congrArg (Value.int .i64) (show _=((2^b-1:Nat):Int)from a8))) ?_;refine e_ (evq (Mx rfl rfl (x/2^((a+d)%8)) (2^b-1) rfl rfl a8 a8) (congrArg (λn:Nat=>iN n) f)) ?_;refine e_ mv ?_;refine e_ (ye rfl rfl (N/2^(a+d)%2^b) d rfl rfl a8 a8) ?_;refine e_ (evq (Bd rfl rfl v (N/2^(a+d)%2^b*2^d) rfl rfl a8 a8) (congrArg (λn:Nat=>iN n) c)) (go ?_);refine lN ((d+b,N/2^a%2^(d+b))) ?_
  exact⟨a8,rfl⟩
 obtain rfl:d=w:=a8;refine gR ?_;exact⟨_,hsb,by rw[←hv];all_goals rfl,rfl⟩
theorem G7 {b k x:Nat} [hg:Glb G R] [hr:Rem H Rd b (xs,k) R] (hx:xs[k]? =some x) (hn:xs.length≤1000000000000):SC G prog 83 [pA b] H (λv a=>v=.tuple #[.int .u8 (x:Int),.nilIface]∧a=Rd b (xs,k+1)::R):=
 SC.mono (WZ (Nat.le_of_lt (Yk.1 hx).1) hn) λv a h2=>by
  have hlt:=(Yk.1 hx).1;rcases h2 with⟨h3,_⟩|⟨y,h3,h4,h5⟩
  ·omega
  ·rw[hx]at h3;cases h3;exact⟨h4,h5⟩
theorem Mk {α:Type}{full:List α}{z:α}{i:Nat}{x:α}(h:full[i]? =some x):(gx full z (i+1))[i]? =some x:=by
 have hi:=(Yk.1 h).1;rw[gx,Yv az,Vp a8,h]
theorem SN {b k most:Nat}{ns d:List Nat} [hg:Glb G R] [hr:Rem H Rd b (xs,k) R] (hn:xs.length≤10000000000) (hb:∀x∈xs,x<256) (h:xs.drop k=ff ns++d) (hm:ns.length≤most) (hmo:most≤65536) (hl:∀x∈ns,x<1099511627776):
 SC G prog 269 [pA b,iN most] H (λv H'=>∃s:SV,v=.tuple #[s.val,.nilIface]∧H'=Row s eI (dT ns)::Rd b (xs,k+(ff ns).length)::R):=by
 have p:=eJ ns;have hpl:(ff ns).length+d.length=xs.length-k:=by rw[←Ya,←h,Yo]
 have hpos:1≤(ff ns).length:=by have:=sM ns.length;rw[ff,Ya];omega
 obtain⟨A,hA⟩:=ex ((uv ns.length).length);have h0:iH most (xs.drop k)=.ok (ns.length,A):=by rw[h,ff,Yf,hA];exact gw _ a8 hm
 refine SC.rem (h:=hr) ?_;refine sWk func269 ?_;refine ws_ (wr_ (e_ asn (e_ asn (on_ (qn_ (ws_ (wr_ (e_ mv (e_ mv ?_)))))))));refine d2_ rfl (wh a8 a8 hb a8 h0) (e_ mv (e_ exr (e_ exr (e_ asn (e_ asn (on_ (qn_ (ws_ (ws_ (wr_ (e_ mv ?_)))))))))));refine e_ (dL rfl) ?_;refine e_ mv (eg_ mv (eg_ ieq (e_ pkf (on_ (qn_ (wi_ (k:=λh1=>?_) (m:=λh1=>?_)))))))
 ·have l:ns= []:=Uc a8;have U:(ff ns).length=A:=by rw[ff,if_pos l,Ym,hA]
  rw[U];subst l;refine ws_ (wr_ (e_ mv (e_ asn (e_ asn (on_ (qn_ (wt_ (qr_ (rT (k:=?_))))))))));exact⟨_,hsb,SV.nil,rfl,rfl⟩
 have V:¬ns= []:=λh=>by have h9:=h1;rw[h]at h9;exact h9 rfl
 obtain⟨W,K⟩:=ex (fO (orL ns));have f:W≤40:=by rw[K,j7];exact qU (k:=40) ae hl
 have B:∀x∈ns,x<2^W:=λx hx=>by rw[K];exact KT hx
 obtain⟨m,C⟩:=ex ((ns.length*W+7)/8);obtain⟨N,hN⟩:=ex (jd W ns);have j:ff ns=uv ns.length++(W::leB m N):=by rw[ff,if_neg V,←K,Gu,C,hN]
 have S:(ff ns).length=A+1+m:=by rw[j,Ya,Yb,gH,hA];omega
 have J:xs.drop (k+A)=W::(leB m N++d):=by rw[←Vt,h,j,Yf,hA,Vg];all_goals rfl
 have M:xs[k+A]? =some W:=by have:=congrArg (·[0]?) J;simpa using this
 have Y:xs.drop (k+A+1)=leB m N++d:=by rw[←Vt,J];all_goals rfl
 have r:(xs.take (k+A+1+m)).drop (k+A+1)=leB m N:=by
  rw[List.drop_take,show k+A+1+m-(k+A+1)=m from a8,Y];exact List.take_left' (gH m N)
 have hnW:ns.length*W≤ns.length*40:=V7 _ f;have t:(ns.length:Int)*(W:Int)=((ns.length*W:Nat):Int):=aq;refine wk_ (qn_ (ws_ (wr_ (e_ mv ?_))));refine d1_ rfl (G7 M a8) (e_ mv (e_ exr (e_ exr (e_ asn (e_ asn (on_ (qn_ (ws_ (ws_ (wr_ (e_ mv ?_)))))))))));refine e_ (dL rfl) ?_;refine on_ (qn_ (fM (k:=wk_ (qn_ (ws_ (wr_ (e_ mv ?_)))))));refine e_ (ew rfl a8) ?_;refine e_ asn (on_ (qn_ (ws_ (wb_ (ws_ (ws_ (wr_ (e_ mv (e_ igt (e_ asn (on_ (qn_ (wi_ (k:=λh2=>?_) (m:=λh2=>?_))))))))))))))
 ·exact absurd h2 a8
 refine wr_ (e_ mv (e_ ieq (e_ mv (dV 3 47 (k:=λh3=>eg_ mv (eg_ igt (e_ pkt (on_ edq)))) (q:=e_ asn (on_ (qn_ (wi_ (k:=λh4=>?_) (m:=λh4=>?_)))))))))
 ·obtain⟨c1,Z⟩:=h4;exact absurd Z a8
 refine ws_ (wr_ ?_);refine pO b λs=>?_;have hcutS:Sl (Row s eB xs::R) (s.cut 1 (k+A+1) (k+A+1+m)) eB (leB m N):=by
  have:=Sl.cut (H:=Row s eB xs::R) (s:=s) (e:=eB) (xs:=xs) inferInstance (lo:=k+A+1) (hi:=k+A+1+m) a8 a8;rw[r]at this;exact this
 have T:0<W→ns.length≤(xs.length-(k+A+1))*8/W:=λhw=>by rw[Nat.le_div_iff_mul_le hw];omega
 refine e_ mv (e_ igt (e_ mv (dV 10 62 (c:=decide ((((xs.length-(k+A+1))*8/W:Nat):Int)<(ns.length:Int))) (k:=λh6=>?_) (q:=?_))))
 ·have hW0:0<W:=by have h9:=h6;omega
  refine eg_ mv (eg_ mv (eg_ nck (eg_ fla ?_)));refine sg_ (lU (vs:= [_]) rfl (left (k:=((k+A+1:Nat):Int)) a8)) (k:=?_);rintro _ _ ⟨rfl,rfl⟩;refine eg_ (evq iml (congrArg (Value.int .i64) (show _=(((xs.length-(k+A+1))*8:Nat):Int)from a8))) ?_;refine eg_ mv ?_;refine eg_ (fX rfl rfl ((xs.length-(k+A+1))*8) W rfl rfl a8 ai) ?_;refine eg_ igt (e_ pkt (on_ edq))
 refine e_ asn (on_ (qn_ (wi_ (k:=λh7=>?_) (m:=λh7=>?_))))
 ·obtain⟨c1,Z⟩:=h7;have:=T a8;exact absurd Z a8
 refine wk_ (bn_ (qn_ (ws_ (wr_ (e_ mv (e_ mv ?_))))));refine e_ (evq iml (congrArg (Value.int .i64) t)) ?_;refine e_ iad ?_;refine e_ (evq (fX rfl rfl (ns.length*W+7) 8 a8 rfl ae ai) (congrArg (λn:Nat=>iN n) C.symm)) ?_;refine e_ asn (on_ (qn_ (ws_ ?_)));refine dX dN (as_ 0 (q:=mv) (k:=as_ 1 (q:=nck) (k:=as_ 2 (q:=fla) (k:=as_ 3 (q:=ldv) (k:=as_ 4 (q:=mv) (k:=as_ 5 (q:=nck) (k:=as_ 6 (q:=fla) (k:=as_ 7 (q:=fla) (k:=as_ 8 (q:=ldv) (k:=as_ 9 (q:=mv) (k:=as_ 10 (q:=nck) (k:=as_ 11 (q:=fla) (k:=as_ 12 (q:=fla) (k:=?_))))))))))))));refine as_ 13 (q:=ldv) (k:=as_ 14 (q:=mv) (k:=as_ 15 (q:=iad) (k:=?_)));refine dS 16 rfl rfl aa rfl (ey (fV rfl bH (k+A+1) (k+A+1+m) ⟨_,_,rfl,rfl⟩ ⟨_,_,rfl,a8⟩ a8 a8)) ?_;refine as_ 17 (q:=asn) (k:=az_ (k:=qn_ (ws_ (wr_ (e_ mv ?_)))));refine s_ (gn eI 0 rfl rfl ns.length ns.length rfl rfl rfl (Xl _) a8 a8) ?_;rintro _ _ ⟨L,rfl,hsln,hslc,rfl⟩;rw[show List.replicate ns.length (0:Int)=gx (dT ns) 0 0 from by rw[mW,p]];refine e_ asn (on_ (qn_ (ws_ (wr_ (e_ asn (e_ asn (on_ (qn_ (ws_ (ws_ (wr_ (e_ mv ?_))))))))))));have hfl:=kG (full:=dT ns) (z:=(0:Int)) (i:=0) (Yl _);refine e_ lnn (e_ mv (on_ (qn_ (wb_ (e8 (Nat×Nat) (λy=>y.1≤ns.length∧y.2=y.1*W) (λy=>[(13,iN y.2),(14,iN (orL (ns.take y.1))),(90,iN y.1)]) [(0,_),(9,_),(10,_),(11,_),(12,_),(89,_)] (λy=>[Row L eI (gx (dT ns) 0 y.1)]) _ (λy=>ns.length-y.1) ((0,0)) (h0:=?_) (k:=?_))))))
 ·try dsimp only
  exact⟨Yl _,by rw[Nat.zero_mul]⟩
 rintro⟨i,g⟩ ⟨hi,X⟩
 try dsimp only[Yd,Ye]at*
 subst X;refine ws_ (wr_ (e_ ilt (on_ (qn_ (ws_ (wi_ (k:=λh8=>?_) (m:=λh8=>?_)))))))
 ·obtain⟨x,hx⟩:=gE ns i;have u:=gh hx;have hx40:=hl x (Yj hx);have hiW:i*W≤i*40:=V7 _ f;have hi1:(i+1)*W≤ns.length*W:=Vu _ a8;have hi2:(i+1)*W=i*W+W:=by rw[Vy,Nat.one_mul]
  have F:N/2^(i*W)%2^W=x:=by rw[hN,V5];exact Ig hx B
  have hfi:=kG (full:=dT ns) (z:=(0:Int)) (i:=i) a8;have hfi1:=kG (full:=dT ns) (z:=(0:Int)) (i:=i+1) a8;have E:=Mk (z:=(0:Int)) u;have ho:orL (ns.take i)<2^40:=qU ae λy hy=>hl y (Yq hy);refine wk_ (qn_ (ws_ (wb_ (ws_ (wr_ (e_ mv (e_ asn (on_ (qn_ (ws_ (wr_ (e_ mv (e_ mv ?_)))))))))))));refine e_ mv (e_ mv (e_ mv ?_));refine d3_ rfl (Hm (m:=m) (N:=N) (a:=i*W) (w:=W) a8 f a8) ?_;rw[F];refine e_ ixa ?_;refine s_ (et (i:=i) rfl rfl rfl a8) ?_;rintro _ _ ⟨rfl,rfl⟩;rw[oT u];refine on_ (qn_ (ws_ (wr_ (e_ mv (e_ mv ?_)))));refine e_ (evq iad (congrArg (Value.int .i64) (show _=(((i+1)*W:Nat):Int)from a8))) ?_;refine e_ asn (on_ (qn_ (wr_ (e_ mv (e_ mv (e_ mv (e_ ixa (e_ (lel (hy:=E)) ?_))))))));refine e_ (evq (Bd rfl rfl (orL (ns.take i)) x rfl rfl a8 a8) (congrArg (λn:Nat=>iN n) (CF hx).symm)) ?_;refine e_ asn (on_ (bn_ (qn_ (wr_ (e_ iad (e_ mv (on_ ?_)))))));refine lN ((i+1,(i+1)*W)) ?_
  exact⟨a8,rfl⟩
 obtain rfl:i=ns.length:=a8;have ho:orL ns<2^40:=qU ae hl;rw[Xn,show gx (dT ns) (0:Int) ns.length=dT ns from by rw[←p,nu]];have hend:N/2^(ns.length*W)%2^(m*8-ns.length*W)=0:=by rw[hN,V5];exact Ih B _
 refine we_ (qe_ (le_ (bh_ (qn_ (ws_ (ws_ (wr_ (e_ mv ?_))))))));refine e_ (dW 18446744073709551616 rfl rfl rfl (orL ns) rfl a8) ?_;refine d1_ rfl (Wb a8) ?_;rw[←K];refine e_ mv ?_;refine e_ (evq ine (congrArg Value.bool (show _=false from Yr (λh=>h rfl)))) ?_;refine e_ mv (eg_ mv (eg_ mv (eg_ mv ?_)));refine eg_ (evq iml (congrArg (Value.int .i64) (show _=((m*8:Nat):Int)from a8))) ?_;refine eg_ mv ?_;refine eg_ (evq isb (congrArg (Value.int .i64) (show _=((m*8-ns.length*W:Nat):Int)from a8))) ?_;refine sg_ (lU (vs:= [_,_,_]) rfl (Hm (m:=m) (N:=N) (a:=ns.length*W) (w:=m*8-ns.length*W) a8 a8 a8)) (k:=?_);rintro _ _ ⟨rfl,rfl⟩;rw[hend];refine eg_ (evq ine (congrArg Value.bool (show _=false from Yr (λh=>h rfl)))) ?_;refine e_ pkf (on_ (qn_ (fM (k:=wk_ (qn_ (ws_ (wr_ (e_ mv (e_ nck (e_ fla (e_ fla (e_ ldv (e_ mv ?_)))))))))))));refine e_ (evq iad (congrArg (Value.int .i64) (show _=((k+A+1+m:Nat):Int)from a8))) ?_;refine e_ nck (e_ fla (e_ fla (sto (k:=on_ (qn_ (ws_ (wr_ (e_ mv (e_ asn (e_ asn (on_ (qn_ (wt_ ?_)))))))))))));refine rT (k:=?_);rw[S];exact⟨Row L eI (dT ns)::Rd b (xs,k+A+1+m)::R,hsb,L,rfl,by rw[show k+(A+1+m)=k+A+1+m from a8]⟩
theorem Gn {b k most:Nat}{ns a:List Nat} [hg:Glb G R] [hr:Rem H Rd b (xs,k) R] (hn:xs.length≤10000000000) (e:∀x∈xs,x<256) (h:xs.drop k=ff ns++a) (hm:ns.length≤most) (d:most≤65536) (hl:∀x∈ns,x<1099511627776):
 SC G prog 234 [pA b,iN most] H (λv H'=>∃s:SV,v=.tuple #[s.val,.nilIface]∧H'=Row s eI (dT ns)::Rd b (xs,k+(ff ns).length)::R):=by
 refine SC.rem (h:=hr) ?_;refine sWk func234 ?_;refine go ?_;refine pO b λs=>?_;refine go ?_;refine eu (H':=Rd b (xs,k)::R) hsb ?_;refine go ?_;refine c2_ rfl (SN hn e h hm d hl) ?_;rintro _ _ ⟨c,rfl,rfl⟩;refine e_ mv (e_ exr (e_ exr (e_ asn (e_ asn (on_ (qn_ (ws_ (ws_ (wr_ (e_ mv ?_))))))))));refine e_ (dL rfl) ?_;refine gk (k:=fM (k:=gR ?_));exact⟨_,hsb,c,rfl,rfl⟩
end
section
variable {G:dJ}{n:Nat}{xs:List Nat}{zs:List PG}
theorem JI {H R:dD}{b k m:Nat} [hg:Glb G R] [hr:Rem H Rd b (xs,k) R] (hk:k≤xs.length) (hn:xs.length≤1000000000000) (c:∀x∈xs,x<256) (h:iz 0 (xs.drop k)=.ok (n,m)):SC G prog 85 [pA b] H (λv a=>v=.tuple #[uN n,.nilIface]∧a=Rd b (xs,k+m)::R):=
 SC.mono (oG hk hn c) λv a h2=>by
  rcases h2 with⟨e,h3,_⟩|⟨n',m',h3,h4,h5⟩
  ·rw[h]at h3;cases h3
  ·rw[h]at h3;cases h3;exact⟨h4,h5⟩
theorem NT {H R:dD}{b k:Nat} [hg:Glb G R] [hr:Rem H Rd b (xs,k) R] (hk:k=xs.length):SC G prog 175 [pA b] H (λv a=>v=.nilIface∧a=Rd b (xs,k)::R):=
 SC.mono (tC (Nat.le_of_eq hk)) λv a h2=>by
  obtain⟨h3,h4⟩:=h2;rcases h4 with⟨h5,_⟩|⟨_,h5⟩
  ·omega
  ·exact⟨h5,h3⟩
theorem AH {v:Nat}(r:List Nat) (h:v<18446744073709551616):iz 0 (uv v++r)=.ok (v,(uv v).length):=Gk v 0 r ae a8 a8
theorem z7:∀(l:List Nat) (nb m:Nat),∃r,gU nb l=gU nb (l.take m)++r
 | [],nb,m=>⟨[],by simp[gU]⟩
 |x::l,nb,0=>⟨gU nb (x::l),by simp[gU]⟩
 |x::l,nb,m+1=>by
  obtain⟨r,h⟩:=z7 l (x+1) m;exact⟨r,by rw[Vq,gU,gU,h,Yf]⟩
theorem JF {l:List Nat}{nb j x:Nat}(h:l[j]? =some x):∃r,gU nb l=gU nb (l.take j)++(uv (x-(if j=0 then nb else l.getD (j-1) 0+1))++r):=by
 obtain⟨r,hr⟩:=z7 l nb (j+1);exact⟨r,by rw[hr,pB h,Yf]⟩
theorem wW:∀(l:List Nat) (nb:Nat),l.length≤(gU nb l).length
 | [],_=>Xl _
 |x::l,nb=>by
  have:=wW l (x+1);have:=sM (x-nb);simp only[gU,Ya,Yb];omega
theorem HO {l:List Po}{i:Nat}{p:Po}(h:l[i]? =some p):fP l=fP (l.take i)++(gU 0 p.2++fP (l.drop (i+1))):=by
 have e:l=l.take i++p::l.drop (i+1):=by rw[←eh h,Vd]
 conv=>lhs;rw[e]
 simp[fP]
def lG (zs:List PG) (n:Nat):List (Nat×SV):=zs.map pgV++List.replicate (n-zs.length) (0,SV.nil)
theorem vp (h:zs.length≤n):(lG zs n).length=n:=by simp[lG];omega
theorem IJ (z:PG) (h:zs.length<n):(lG zs n).set zs.length (z.d,z.s)=lG (zs++ [z]) n:=by
 obtain⟨m,hm⟩:∃m,n-zs.length=m+1:=⟨n-zs.length-1,a8⟩;have h2:n-(zs.length+1)=m:=a8;simp only[lG,Ya,Ul,h2,hm,Xp,Xs,Ud,V6];rw[Ux _ _ aq,Yh,Ui];simp[pgV]
theorem IK (z:PG):(lG (zs++ [z]) n)[zs.length]? =some (z.d,z.s):=by
 rw[lG,Xp,Yf,Yu aq,Yh,Ui];simp[pgV]
theorem IL (zs:List PG):lG zs zs.length=zs.map pgV:=by simp[lG]
theorem FW {G:dJ}{H:dD}{s:SV}{nb:Nat}{l:List Po} [hg:Glb G H] [hs:Sl H s eB (my nb l)] (hok:j5 nb l) (hsm:fL l) (hn:l.length≤16) (hnb:nb≤1000001):
 SC G prog 190 [s.val,.int .i64 (((nb:Nat):Int)-1),iN l.length] H (λv H'=>∃(sl:SV) (zs:List PG),zs.map pgP=l∧v=.tuple #[sl.val,.bool true]∧H'=Row sl ePo (zs.map pgV)::Cl pgH zs::H):=by
 have hb:=Hq (nb:=nb) hsm;have hbl:=uy (nb:=nb) hsm;have htl:=Aq hsm;obtain⟨xs,hxs⟩:=ex (my nb l);have hs2:Sl H s eB xs:=by rw[hxs];exact hs
 clear hs;rw[←hxs]at hb hbl;have hgl:(dT (je nb l)).length=l.length:=by rw[eJ,iO]
 have hfl:(dT (kt l)).length=l.length:=by rw[eJ,kt,Yh]
 have hg40:∀x∈je nb l,x<1099511627776:=λx hx=>bB;have hf40:∀x∈kt l,x<1099511627776:=λx hx=>cr;obtain⟨A,hA⟩:=ex ((ff (je nb l)).length);obtain⟨B,hB⟩:=ex ((ff (kt l)).length);have hd0:xs.drop 0=ff (je nb l)++(ff (kt l)++fP l):=by rw[hxs,my,Yf];all_goals rfl
 have hd1:xs.drop (0+A)=ff (kt l)++fP l:=by rw[←Vt,hd0,hA,Vg]
 have hd2:xs.drop (0+A+B)=fP l:=by rw[←Vt,hd1,hB,Vg]
 have hlen:xs.length=A+B+(fP l).length:=by rw[hxs,my,Ya,Ya,hA,hB]
 refine sWk func190 ?_;refine go ?_;refine c1_ rfl (l3 (xs:=xs) (a8)) (k:=?_);rintro _ _ ⟨br,rfl,rfl⟩;refine go ?_;refine c2_ rfl (Gn (most:=16) (a8) hb hd0 (cI) (a8) hg40) (k:=?_);rintro _ _ ⟨sd,rfl,rfl⟩;rw[←hA];refine e_ mv (k:=e_ exr (k:=e_ exr (k:=e_ asn (k:=e_ asn (k:=on_ (qn_ (ws_ (ws_ (wr_ (e_ mv (k:=?_)))))))))));refine e_ (dL rfl) (k:=?_);refine gW (λh1=>?_) (λh1=>?_)
 ·exact absurd h1 (a8)
 refine go ?_;refine c2_ rfl (Gn (most:=16) (a8) hb hd1 (bX) (a8) hf40) (k:=?_);rintro _ _ ⟨sf,rfl,rfl⟩;rw[←hB];refine e_ mv (k:=e_ exr (k:=e_ exr (k:=e_ asn (k:=e_ asn (k:=on_ (qn_ (ws_ (ws_ (wr_ (e_ mv (k:=?_)))))))))));refine e_ (dL rfl) (k:=?_);refine gW (λh2=>?_) (λh2=>?_)
 ·exact absurd h2 (a8)
 refine go ?_;refine s_ (gn ePo (0,SV.nil) rfl rfl l.length l.length rfl rfl rfl (Xl _) (a8) (a8)) (k:=?_);rintro _ _ ⟨sl,rfl,hsln,hslc,rfl⟩;rw[show List.replicate l.length ((0,SV.nil):Nat×SV)=lG [] l.length from by simp[lG]];have hz0:=vp (zs:= []) (n:=l.length) (Yl _);refine eu (ga (f:=pgH) dH.refl) ?_;refine gk (k:=e8 (Nat×(List PG)×Nat) (λy=>y.1≤l.length∧y.2.1.map pgP=l.take y.1∧y.2.2=A+B+(fP (l.take y.1)).length) (λy=>[(1,.int .i64 (((fB nb (l.take y.1):Nat):Int)-1)),(50,iN y.1)]) [(8,_),(9,_),(11,_),(12,_),(49,_)] (λy=>[Row sl ePo (lG y.2.1 l.length),Cl pgH y.2.1,Rd br (xs,y.2.2)]) _ (λy=>l.length-y.1) ((0, [],0+A+B)) (h0:=?_) (k:=?_))
 ·try dsimp only
  exact⟨Yl _,rfl,by simp[fP]⟩
 rintro⟨i,zs,K⟩ ⟨hi,hzp,hK⟩
 try dsimp only[Yd,Ye]at*
 have hzl:zs.length=i:=by have:=congrArg List.length hzp;rw[Yh,Yg]at this;omega
 have hfz:=vp (zs:=zs) (n:=l.length) (a8);refine gW (λh3=>?_) (λh3=>?_)
 ·obtain⟨p,hp⟩:=gE l i;obtain⟨hp1,hp2,hp3⟩:=hsm.2 p (Yj hp);obtain⟨hge,hpne,hpok⟩:=jP hok hp;have hpp:0<p.2.length:=List.length_pos_iff.2 hpne;have hgi:(dT (je nb l))[i]? =some ((p.1-fB nb (l.take i):Nat):Int):=gh (vk hp);have hfi:(dT (kt l))[i]? =some ((p.2.length-1:Nat):Int):=gh (by rw[kt,Xd,hp];all_goals rfl);have hlt:=sV (nb:=nb) hp;have hta:=HO hp;have htk:=vI hp;have htg:=wW p.2 0;have htl2:=congrArg List.length hta;have htk2:=congrArg List.length htk;rw[Ya,Ya]at htl2;rw[Ya]at htk2;have hdK:xs.drop K=gU 0 p.2++fP (l.drop (i+1)):=by
   rw[hK,←Vt,show A+B=0+A+B from a8,hd2,hta,Vg]
  refine wk_ (qn_ (ws_ (wb_ (ws_ (wr_ (e_ mv (k:=?_)))))));refine pO br λs2=>?_;refine e_ asn (k:=on_ (qn_ (ws_ (ws_ (?_)))));refine dX dN (as_ 0 (q:=mv) (k:=as_ 1 (q:=mv) (k:=as_ 2 (q:=ixa) (k:=as_ 3 (q:=lel (hy:=hgi)) (k:=as_ 4 (q:=mv) (k:=as_ 5 (q:=isb) (k:=as_ 6 (q:=isb) (k:=as_ 7 (q:=ige) (k:=?_)))))))));refine fH 8 rfl rfl (aa) rfl (ey (mv)) (λh4=>?_) (λh4=>?_)
  ·replace h4:=nrm h4;exact absurd h4 (a8)
  replace h4:=nrm h4;refine at2 9 (q:=mv) (k:=at2 10 (q:=mv) (k:=at2 11 (q:=ixa) (k:=at2 12 (q:=lel (hy:=hfi)) (k:=at2 13 (q:=mv) (k:=at2 14 (q:=nck) (k:=at2 15 (q:=fla) (k:=?_)))))));refine lH 16 rfl rfl rfl rfl (aa) rfl (iR (vs:= [_]) rfl (left (k:=(K:Int)) (a8))) (?_);refine at2 17 (q:=ige) (k:=as_ 18 (q:=pkf) (k:=az_ (k:=qn_ (wi_ (k:=λh5=>?_) (m:=λh5=>?_)))))
  ·exact absurd h5 (a8)
  refine wk_ (qn_ (ws_ (wr_ (?_))));refine eu (H':=Rd br (xs,K)::Row sl ePo (lG zs l.length)::Cl pgH zs::Row sf eI (dT (kt l))::Row sd eI (dT (je nb l))::H) (hsb) ?_;refine e_ mv (k:=e_ mv (k:=e_ mv (k:=e_ ixa (k:=e_ (lel (hy:=hgi)) (k:=e_ iad (k:=?_))))));refine e_ (evq iad (congrArg (Value.int .i64) (show _=(((fB nb (l.take (i+1)):Nat):Int)-1)from a8))) (k:=?_);refine e_ asn (k:=on_ (qn_ (ws_ (wr_ (e_ mv (k:=e_ mv (k:=?_)))))));refine e_ (evq mv (congrArg (Value.int .i64) (show(((fB nb (l.take (i+1)):Nat):Int)-1)=((p.1:Nat):Int)from a8))) (k:=?_);refine e_ mv (k:=e_ mv (k:=e_ ixa (k:=e_ (lel (hy:=hfi)) (k:=?_))));refine e_ (evq iad (congrArg (Value.int .i64) (show _=((p.2.length:Nat):Int)from a8))) (k:=?_);refine s_ (gn eI 0 rfl rfl p.2.length p.2.length rfl rfl rfl (Xl _) (a8) (a8)) (k:=?_);rintro _ _ ⟨sp,rfl,hspn,hspc,rfl⟩;rw[show List.replicate p.2.length (0:Int)=gx (dT p.2) 0 0 from by rw[mW,eJ]];refine e_ (bld [(0,_),(1,_)]) (k:=go ?_);refine s_ (et (i:=i) rfl rfl rfl (a8)) (k:=?_);rintro _ _ ⟨rfl,rfl⟩;rw[show(lG zs l.length).set i (p.1,sp)=lG (zs++ [⟨p.1,sp,p.2⟩]) l.length from by rw[←hzl];exact IJ ⟨p.1,sp,p.2⟩ (a8)];have hgz:(lG (zs++ [⟨p.1,sp,p.2⟩]) l.length)[i]? =some (p.1,sp):=by rw[←hzl];exact IK ⟨p.1,sp,p.2⟩
  have hfz1:=vp (zs:=zs++ [⟨p.1,sp,p.2⟩]) (n:=l.length) (cG);refine on_ (qn_ (ws_ (wr_ (e_ asn (k:=on_ (qn_ (ws_ (wr_ (e_ mv (k:=e_ mv (k:=e_ ixa (k:=?_))))))))))));have hil:(dT p.2).length=p.2.length:=eJ _;have hfl0:=kG (full:=dT p.2) (z:=(0:Int)) (i:=0) (Yl _);refine e_ fle (k:=e_ (lfl (hy:=hgz)) (k:=gk (k:=e8 (Nat×Nat×Nat) (λy=>y.1≤p.2.length∧y.2.1=(if y.1=0 then 0 else p.2.getD (y.1-1) 0+1)∧y.2.2=K+(gU 0 (p.2.take y.1)).length) (λy=>[(14,.int .i64 (((y.2.1:Nat):Int)-1)),(96,iN y.1)]) [(1,_),(8,_),(9,_),(11,_),(12,_),(13,_),(49,_),(50,_),(95,_)] (λy=>[Row sp eI (gx (dT p.2) 0 y.1),Rd br (xs,y.2.2)]) _ (λy=>p.2.length-y.1) ((0,0,K)) (h0:=?_) (k:=?_))))
  ·try dsimp only
   exact⟨Yl _,rfl,by simp[gU]⟩
  rintro⟨j,q,K2⟩ ⟨hj,hq,hK2⟩
  try dsimp only[Yd,Ye]at*
  refine gW (λh6=>?_) (λh6=>?_)
  ·obtain⟨x,hx⟩:=gE p.2 j;have hxi:=gh hx;have hx40:=hp3 x (Yj hx);have hqx:=rE hpok hx;rw[←hq]at hqx;obtain⟨r,hr⟩:=JF (nb:=0) hx;rw[←hq]at hr;have htj:=pB (nb:=0) hx;rw[←hq]at htj;have htj2:=congrArg List.length htj;rw[Ya]at htj2;have hr2:=congrArg List.length hr;rw[Ya,Ya]at hr2;have hdj:xs.drop K2=uv (x-q)++(r++fP (l.drop (i+1))):=by
    rw[hK2,←Vt,hdK,hr,Yf,Vg,Yf]
   have hrd:=AH (v:=x-q) (r++fP (l.drop (i+1))) (a8);rw[←hdj]at hrd;have hfj:=kG (full:=dT p.2) (z:=(0:Int)) (i:=j) (a8);refine go ?_;refine d1_ rfl (JI (a8) (a8) hb hrd) (k:=e_ mv (k:=e_ exr (k:=e_ exr (k:=e_ asn (k:=e_ asn (k:=on_ (qn_ (ws_ (ws_ (wr_ (e_ mv (k:=?_))))))))))));refine e_ (dL rfl) (k:=?_);refine e_ mv (k:=eg_ mv (k:=eg_ ieq (k:=e_ pkf (k:=e_ mv (k:=ep 7 117 (k:=λh7=>eg_ mv (k:=eg_ mv (k:=eg_ (H4 rfl rfl) (k:=eg_ (evq (H4 rfl rfl) (congrArg (Value.int .i64) (show _=((9223372036854775807-q:Nat):Int)from cV))) (k:=eg_ ((ad)) (k:=eg_ igt (k:=e_ pkf (k:=on_ (edq))))))))) (q:=on_ (qn_ (wi_ (k:=λh8=>?_) (m:=λh8=>?_)))))))))
   ·exact absurd h8 (a8)
   refine wk_ (qn_ (ws_ (wr_ (e_ mv (k:=e_ mv (k:=?_))))));refine e_ (ew rfl (a8)) (k:=?_);refine e_ iad (k:=?_);refine e_ (evq iad (congrArg (Value.int .i64) (show _=(((x+1:Nat):Int)-1)from a8))) (k:=?_);refine e_ asn (k:=on_ (qn_ (wr_ (e_ mv (k:=e_ mv (k:=e_ ixa (k:=e_ fle (k:=e_ (lfl (hy:=hgz)) (k:=e_ mv (k:=?_))))))))));refine e_ (evq mv (congrArg (Value.int .i64) (show(((x+1:Nat):Int)-1)=((x:Nat):Int)from a8))) (k:=?_);refine go ?_;refine s_ (et (s:=sp) (i:=j) rfl rfl rfl (a8)) (k:=?_);rintro _ _ ⟨rfl,rfl⟩;rw[oT hxi];refine go ?_;refine ln_ ((j+1,x+1,K2+(uv (x-q)).length)) (k:=?_)
   try dsimp only
   exact⟨a8,by rw[if_neg (a8),X7,Xj,hx];all_goals rfl,a8⟩
  obtain rfl:j=p.2.length:=a8;rw[Xn]at hK2;rw[show gx (dT p.2) (0:Int) p.2.length=dT p.2 from by rw[←hil,nu]];refine we_ (qe_ (le_ (bh_ (bn_ (qn_ (wr_ (?_)))))));refine eu (H':=Cl pgH (zs++ [⟨p.1,sp,p.2⟩])::Rd br (xs,K2)::Row sl ePo (lG (zs++ [⟨p.1,sp,p.2⟩]) l.length)::Row sf eI (dT (kt l))::Row sd eI (dT (je nb l))::H) (dH.trans (hsb) (wj ⟨p.1,sp,p.2⟩)) ?_;refine go ?_;refine ln_ ((i+1,zs++ [⟨p.1,sp,p.2⟩],K2)) (k:=?_)
  try dsimp only
  exact⟨a8,by rw[Xp,hzp,dK hp];all_goals rfl,a8⟩
 obtain rfl:i=l.length:=a8;rw[Xn]at hzp hK;rw[show lG zs l.length=zs.map pgV from by rw[←hzl,IL]];refine go ?_;refine wD [4] (λ_ _=>True) (go ?_);refine aS 4 rfl (lU (vs:= [_]) rfl (NT (a8))) ?_;rintro _ _ ⟨rfl,rfl⟩;refine uB (λ_=>trivial) (?_);refine dS 5 rfl rfl (aa) rfl (ey ((by first|exact iB rfl|exact ny rfl))) (?_);refine gR ?_;exact⟨_,hsb,sl,zs,hzp,rfl,rfl⟩
end
section
variable {G:dJ}{H:dD}{b i k:Nat}{α:Type}{e:Enc α}{l:List Po}{s sk:SV}{v1 v2:Value}{xs:List α}
def SV.cut3 (s:SV) (sz lo hi mx:Nat):SV:=⟨if mx=lo then s.a else s.a.map (·.add (lo*sz)),hi-lo,mx-lo⟩
theorem IN {P:Program}{t:Tm}{dst:Option Tmp}{ty:TypeId}{pos:String}{after:Array Edge}{g:Option (Nat×Bool)}{T E:TypeId}{x lo hi a:Operand}{u:Nat}{z:Value}(hx:evo t x=some s.val) [hT:Und P T (.slice E)] [hE:Inf P E e.sz u z] [hs:Sl H s e xs] (l h m:Nat) (c:∃k j,evo t lo=some (.int k j)∧j=(l:Int)) (d:∃k j,evo t hi=some (.int k j)∧j=(h:Int)) (b:∃k j,evo t a=some (.int k j)∧j=(m:Int)) (h1:l≤h) (h2:h≤m) (h3:m≤xs.length):
 Ev G P ⟨dst,.slice T x (some lo) (some hi) (some a),ty,pos,after,g⟩ t H (s.cut3 e.sz l h m).val:=
 fun ρ hρ w hw=>by
  obtain⟨q1,q2,_⟩:=hs.get hw;obtain⟨q,j1,B,rfl⟩:=c;obtain⟨p,j2,A,rfl⟩:=d;obtain⟨n,j3,v,rfl⟩:=b;have f:∀(j:Nat) (k:IntKind) (y:Nat) (i:BoundsCode),j≤y→(Instr.sliceBound (.int k (j:Int)) y i).run P w=.ok j w:=by
   intro j k y i hj;have:(j:Int)≤(y:Int):=a8;simp[Instr.sliceBound,asIntOf,this]
  have r:(Instr.sliceBounds true s.n s.c (some (ρ lo)) (some (ρ hi)) (some (ρ a))).run P w=.ok (l,h,m) w:=by
   simp[Instr.sliceBounds,hρ _ _ B,hρ _ _ A,hρ _ _ v,f m n s.c _ a8,f h p m _ a8,f l q h _ a8]
  simp only[execOp,hρ _ _ hx,Instr.sliceAt,SV.val,Vs,Sem.run_bind,ef (T:=T),Result.andThen_ok];simp only[Instr.slice,Sem.run_bind,ef (T:=T),Result.andThen_ok,r,fy (T:=E) (s:=e.sz),Sem.run_pure];all_goals rfl
theorem Sl.cut3 (h:Sl H s e xs){lo hi:Nat}(h1:lo≤hi) (h2:hi≤xs.length):Sl H (s.cut3 e.sz lo hi hi) e ((xs.take hi).drop lo):=by
 have hc:=Sl.cut h h1 h2;refine⟨λL hL=>?_⟩;obtain⟨a1,a2,a3⟩:=h.out L hL;obtain⟨b1,b2,j⟩:=hc.out L hL;have a:((xs.take hi).drop lo).length=hi-lo:=bT;refine⟨by rw[a];all_goals rfl,by show hi-lo≤hi-lo;omega,?_⟩
 by_cases e0:hi=lo
 ·left;exact⟨Uc a8,by show hi-lo=0;omega⟩
 ·rcases j with⟨d,_⟩|⟨b,c,C,E,fz,d,i,g,f⟩
  ·rw[d]at a;simp at a;omega
  ·right;refine⟨b,c,C,E,fz,?_,i,?_,f⟩
   ·have:¬s.c=lo:=by omega
    simp only[SV.cut,if_neg this]at d;simp only[SV.cut3,if_neg e0];exact d
   ·have:(s.cut e.sz lo hi).c=s.c-lo:=rfl;rw[this]at g;have h9:(hi-lo)*e.sz≤(s.c-lo)*e.sz:=Vu _ a8;show c+(hi-lo)*e.sz≤C.size;omega
theorem xQ {nb:Nat}:∀{l:List Po}{nb:Nat},j5 nb l→l≠ []→nb<fB nb l
 | [],_,_,h=>absurd rfl h
 | [p],nb,h,_=>by rw[kQ,oL];have:=h.1;omega
 |p::q::l,nb,h,_=>by
  rw[kQ];have:=xQ (nb:=0) (l:=q::l) h.2.2.2 (aq);have:=h.1;omega
theorem xD:∀{l:List Po}{nb:Nat},j5 nb l→l.length≤ec l
 | [],_,_=>Yl _
 |p::l,nb,h=>by
  have:=xD h.2.2.2;have:=List.length_pos_iff.2 h.2.1;simp only[ec,Xs,Vv,Yb]at*;omega
theorem yZ:∀(l:List Po),ec l≤(fP l).length
 | []=>Xl _
 |p::l=>by
  have:=yZ l;have:=wW p.2 0;simp only[ec,fP,Xs,Vv,Vx,Ya]at*;omega
theorem zl (l:List Po):∀k,ec (l.take (16*k))≤(dP l k).2.2.length
 | 0=>by simp[ec]
 |k+1=>by
  have:=zl l k;have:=yZ (ei l k);rw[←lQ,m6];simp only[dP,Ya,my];omega
theorem H7 (l:List Po):ec l≤(eO l).length:=by
 have h:=zl l (eC l);rw[qi]at h;simp only[eO,Ya];omega
theorem tR {l:List Po}(h:j5 0 l) {k:Nat}(hk:k<eC l):(dP l k).1<(dP l (k+1)).1:=by
 have h1:=nF h k;have h2:=(nG hk).1;exact xQ (nb:=0) h1 (λe=>by rw[e]at h2;simp at h2)
def skM (l:List Po) (i:Nat):List Sk:=(ic l).take i++(qx l (eC l)).drop i
theorem AD (h:i≤eC l):(skM l i).length=eC l:=by simp[skM,lK,tF];omega
theorem Of (h:i<eC l):(skM l i)[i]? =some (sk0 l i):=by
 rw[skM,Yu az,Yg,lK,Ug a8,Ui,Xh,X6,xc h]
theorem Oe (h:i<eC l):(skM l (i+1))[i]? =some (lf l i):=by
 rw[skM,Yv (by rw[Yg,lK];omega),Vp a8,mQ h]
theorem Od (h:i<eC l):(skM l i).set i (lf l i)=skM l (i+1):=by
 have hl:((ic l).take i).length=i:=by rw[Yg,lK];omega
 have hd:(qx l (eC l)).drop i=sk0 l i::(qx l (eC l)).drop (i+1):=eh (xc h);rw[skM,hd,Ux _ _ a8,hl,Ui,List.set_cons_zero,skM,dK (mQ h),Yf];all_goals rfl
theorem Wp (l:List Po):skM l 0=qx l (eC l):=by simp[skM]
theorem Og (l:List Po):skM l (eC l)=ic l:=by
 rw[skM,Xr (by rw[lK];exact Xl _),Vn (by rw[tF];exact Xl _),Ym]
instance {a b c:Nat}:gP eSk (.agg [.int .i64 ((a:Nat):Int),.int .i64 ((b:Nat):Int),.int .i64 0,.int .i64 ((c:Nat):Int)].toArray) (a,b,0,c):=⟨rfl⟩
theorem Ei {nb:Nat}{a:Value}{l:List Sk} [dQ H b [a,v1,v2,sk.val]] [hs:Sl H sk eSk l] (hkb:k≤1000000000) (h:k=0∧nb=0∨0<k∧∃e:Sk,l[k-1]? =some e∧e.1+1=nb):SC G prog 192 [pA b,iN k] H (λv c=>v=.int .i64 (((nb:Nat):Int)-1)∧c=H):=by
 refine sWk func192 ?_;refine gW (λh1=>?_) λh1=>?_
 ·refine gR ?_;exact⟨_,hsb,congrArg (Value.int .i64) a8,rfl⟩
 obtain⟨hk,e,he,hnb⟩:0<k∧∃e:Sk,l[k-1]? =some e∧e.1+1=nb:=by rcases h with h|h;exfalso;omega;exact h
 have hlt:=(Yk.1 he).1;refine wk_ (qn_ (ws_ (wr_ (e_ mv (e_ nck (e_ fla (e_ ldv (e_ mv ?_))))))));refine e_ (evq isb (congrArg (Value.int .i64) (show _=((k-1:Nat):Int)from a8))) ?_;refine e_ ixa (e_ fle (e_ (lfl (hy:=he)) (gR ?_)));exact⟨_,hsb,congrArg (Value.int .i64) (show(e.1:Int)=(nb:Int)-1 from a8),rfl⟩
theorem RF {a:Value}{l:List Sk}{e:Sk} [dQ H b [a,v1,v2,sk.val]] [hs:Sl H sk eSk l] (he:l[k]? =some e):SC G prog 203 [pA b,iN k] H (λv c=>v=.tuple #[.agg #[iN e.1,iN e.2.1,iN e.2.2.1,iN e.2.2.2],.bool true]∧c=H):=by
 have hlt:=(Yk.1 he).1;refine sWk func203 ?_;refine ws_ (wr_ (alc (k:=λb4=>?_)));refine e_ asn (on_ (qn_ (ws_ (ws_ (wr_ (e_ mv (e_ ilt (e_ mv (ep 8 16 (k:=λh1=>eg_ mv (eg_ mv (eg_ nck (eg_ fla (eg_ ldv (eg_ lnn (eg_ ige (e_ pkf (on_ edq))))))))) (q:=on_ (qn_ (wi_ (k:=λh2=>?_) (m:=λh2=>?_)))))))))))))
 ·exact absurd h2 a8
 refine wk_ (qn_ (ws_ (wr_ (e_ mv (e_ nck (e_ fla (e_ ldv (e_ mv (e_ ixa (e_ (gr (hy:=he)) (sto (k:=e_ asn (on_ ?_)))))))))))));refine qn_ (wt_ (rT (k:=?_)));exact⟨_,hsb,rfl,rfl⟩
theorem G1 {im:SV}{xs:List Nat}{l:List Sk}{e:Sk} [dQ H b [im.val,v1,v2,sk.val]] [hs:Sl H sk eSk l] [hi:Sl H im eB xs] (he:l[k]? =some e) (hx:e.2.2.1+e.2.2.2≤xs.length) (hn:xs.length≤10000000000):SC G prog 191 [pA b,iN k] H (λv a=>v=(im.cut3 1 e.2.2.1 (e.2.2.1+e.2.2.2) (e.2.2.1+e.2.2.2)).val∧a=H):=by
 have hlt:=(Yk.1 he).1;refine sWk func191 ?_;refine ws_ (wr_ (e_ asn (on_ (qn_ (ws_ (wr_ (e_ mv (e_ nck (e_ fla (e_ ldv (e_ mv (e_ ixa (e_ (gr (hy:=he)) ?_)))))))))))));refine alc (k:=λb5=>?_);refine go ?_;refine dX dN (as_ 0 (q:=mv) (k:=as_ 1 (q:=nck) (k:=as_ 2 (q:=fla) (k:=as_ 3 (q:=ldv) (k:=as_ 4 (q:=fla) (k:=as_ 5 (q:=ldv) (k:=as_ 6 (q:=fla) (k:=as_ 7 (q:=ldv) (k:=as_ 8 (q:=fla) (k:=as_ 9 (q:=ldv) (k:=as_ 10 (q:=iad) (k:=as_ 11 (q:=fla) (k:=as_ 12 (q:=ldv) (k:=?_))))))))))))));refine as_ 13 (q:=fla) (k:=as_ 14 (q:=ldv) (k:=as_ 15 (q:=iad) (k:=?_)));refine dS 16 rfl rfl aa rfl (ey (IN (e:=eB) rfl e.2.2.1 (e.2.2.1+e.2.2.2) (e.2.2.1+e.2.2.2) ⟨_,_,rfl,rfl⟩ ⟨_,_,rfl,a8⟩ ⟨_,_,rfl,a8⟩ a8 a8 hx)) ?_;exact gZ
theorem QP (h:j5 0 l) (hk:k≤eC l):k=0∧(dP l k).1=0∨0<k∧∃e:Sk,(ic l)[k-1]? =some e∧e.1+1=(dP l k).1:=by
 rcases Un k with rfl|hp
 ·exact .inl ⟨rfl,rfl⟩
 ·obtain⟨j,rfl⟩:∃j,k=j+1:=⟨k-1,a8⟩;have:=tR h (k:=j) a8;exact .inr ⟨hp,_,mQ a8,by show(dP l (j+1)).1-1+1=_;omega⟩
theorem Sv (h:j5 0 l) (hk:k≤eC l):k=0∧(dP l k).1=0∨0<k∧∃e:Sk,(qx l k)[k-1]? =some e∧e.1+1=(dP l k).1:=by
 rcases Un k with rfl|hp
 ·exact .inl ⟨rfl,rfl⟩
 ·obtain⟨j,rfl⟩:∃j,k=j+1:=⟨k-1,a8⟩;have:=tR h (k:=j) a8;exact .inr ⟨hp,_,xc a8,by show(dP l (j+1)).1-1+1=_;omega⟩
theorem NZ {im:SV} [hg:Glb G H] [dQ H b [im.val,v1,v2,sk.val]] [hs:Sl H sk eSk (ic l)] [hi:Sl H im eB (eO l)] (c:j5 0 l) (hsm:fL l) (hn:(eO l).length≤10000000000) (hk:k<eC l):SC G prog 232 [pA b,iN k] H (λv n=>∃(d:SV) (zs:List PG),zs.map pgP=ei l k∧v=d.val∧n=Row d ePo (zs.map pgV)::Cl pgH zs::H):=by
 have a:=mQ hk;have hln:=lK l;obtain⟨hpc,hpl⟩:=rO l hk;have h:=nF c k;have g:=p9 hsm k;have hb3:=nG hk;have f:=(kO hsm k).2.2;have hlsm:=hsm.1;have hblk:eC l≤l.length+1:=cR;haveI hcut:Sl H (im.cut3 1 (lf l k).2.2.1 ((lf l k).2.2.1+(lf l k).2.2.2) ((lf l k).2.2.1+(lf l k).2.2.2)) eB (my (dP l k).1 (ei l k)):=by
  have:=Sl.cut3 hi (lo:=nh l k) (hi:=nh l k+j6 l k) a8 hpl;rw[hpc]at this;exact this
 refine sWk func232 ?_;refine ws_ (wr_ (e_ asn (on_ (qn_ (ws_ (ws_ (wr_ (e_ mv (e_ ilt (e_ mv (ep 8 17 (k:=λh1=>eg_ mv (eg_ mv (eg_ nck (eg_ fla (eg_ ldv (eg_ lnn (eg_ ige (e_ pkf (on_ edq))))))))) (q:=on_ (qn_ ?_)))))))))))));refine wi_ (k:=λh2=>?_) (m:=λh2=>?_)
 ·exact absurd h2 a8
 refine wk_ (qn_ (ws_ ?_));refine wD [14] (λk H=>(k=2→dQ H b [im.val,v1,v2,sk.val]∧Sl H sk eSk (ic l)∧Sl H im eB (eO l))∧(k=5→dQ H b [im.val,v1,v2,sk.val]∧Sl H sk eSk (ic l))∧(k=9→dQ H b [im.val,v1,v2,sk.val])∧(k=11→Sl H sk eSk (ic l))∧(k=12→Sl H sk eSk (ic l))∧(k=13→Sl H sk eSk (ic l))) (aF 0 (k:=aF 1 (k:=?_)));refine dS 2 rfl rfl aa rfl (λH hH=>by have hN:=hH.1 rfl;obtain⟨j,i,n3⟩:=hN;exact v2_ (G1 (l:=ic l) (e:=lf l k) a hpl hn)) ?_;refine aF 3 (k:=aF 4 (k:=?_));refine dS 5 rfl rfl aa rfl (λH hH=>by have hN:=hH.2.1 rfl;obtain⟨j,i⟩:=hN;exact lU (vs:= [_,_]) rfl (Ei (l:=ic l) (nb:=(dP l k).1) a8 (QP c a8))) ?_;refine aF 6 (k:=aF 7 (k:=aF 8 (k:=?_)));refine aN 9 rfl (λH hH=>aL) ?_;refine aF 10 (k:=?_);refine aN 11 rfl (λH hH=>bu) ?_;refine aN 12 rfl (λH hH=>by have hN:=hH.2.2.2.2.1 rfl;exact fle) ?_;refine aN 13 rfl (λH hH=>by have hN:=hH.2.2.2.2.2 rfl;exact lfl (hy:=a)) ?_;refine kg 14 rfl aa rfl (λk hk=>⟨λhi=>af,λhi=>af,λhi=>af,λhi=>af,λhi=>af,λhi=>af⟩) (lU (vs:= [_,_,_]) rfl (FW (nb:=(dP l k).1) (l:=ei l k) h g a8 f)) ?_;rintro _ _ ⟨d,zs,hzs,rfl,rfl⟩;refine aF 15 (k:=aF 16 (k:=aF 17 (k:=aF 18 (k:=aF 19 (k:=FF aa (λk hk=>⟨λhi=>absurd hk aB,λhi=>absurd hk aB,λhi=>af,λhi=>af,λhi=>af,λhi=>absurd hk aB⟩) (qn_ (ws_ (wr_ (e_ mv (e_ asn (on_ (qn_ (wt_ ?_)))))))))))));refine rT (k:=?_);exact⟨_,hsb,d,zs,hzs,rfl,rfl⟩
end
end Go.Sx
