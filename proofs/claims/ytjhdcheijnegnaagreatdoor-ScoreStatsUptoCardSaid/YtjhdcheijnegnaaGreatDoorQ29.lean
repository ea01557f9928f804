import Derived.Test.YtjhdcheijnegnaaGreatDoorQ27
import Derived.Test.YtjhdcheijnegnaaGreatDoorQ25
import Derived.Test.YtjhdcheijnegnaaGreatDoorQ26
import Derived.Test.YtjhdcheijnegnaaGreatDoorQ23
set_option linter.all false
set_option maxHeartbeats 0
namespace Go.Sx
open Go Go.Proofs Tryz
set_option maxRecDepth 100000
section
variable {H R:cG}{e:EG}{es:List EG}{i:Nat}
def nJ:Prop:=∀(G:cJ) (H R:cG) (s:SV) (ss:List ByteArray),gV H s eS ss R→ss.length≤1000000000→SC G prog 236 [s.val] H (λv H'=>v=.tuple #[]∧∃ss':List ByteArray,ss'.Perm ss∧(ss'.map cF).Pairwise (λa b=>¬b<a)∧H'=Row s eS ss'::R)
theorem r8:∀{l:List (List Nat)},l.Nodup→l.Pairwise (λa b=>¬b<a)→uq l
 | [],_,_=>List.Pairwise.nil
 |a::l,hn,h=>by
  obtain⟨h1,h2⟩:=U3.1 hn;obtain⟨h3,h4⟩:=Uk.1 h;refine Uk.2 ⟨λb c=>?_,r8 h2 h4⟩
  by_cases hlt:a<b
  ·exact hlt
  ·exact absurd (wa hlt (λe=>h1 (e ▸ c))) (h3 b c)
theorem NH (hr:mW H (Cl egH es) R) (he:es[i]? =some e):Sl H e.s ePo (e.l.map pgV):=
 dj (gf hr (wH he)) inferInstance
theorem B7 (hr:mW H (Cl egH es) R) (he:es[i]? =some e):qe H (e.l.map pgV) (e.l.map pgP):=by
 refine⟨ak,λj p q hp a=>?_⟩;rw[Xd]at hp a;cases hj:e.l[j]? with
 |none=>rw[hj]at hp;cases hp
 |some x=>
  rw[hj]at hp a;obtain rfl:=Xo hp;obtain rfl:=Xo a;exact⟨rfl,show Sl H x.s eI (cP x.pos)from dj (gf hr ((wH he).trans (cH.drop (pF hj)))) inferInstance⟩
theorem KW {G:cJ}{g r:Nat}{v1 v2 v3:Value}{c:List Tri} [hg0:Glb G R] [hv:cY R g [v1,v2,v3,.map (some r)]] [hr:Rem H iJ r c R] (hS:nJ) (a3:tY c) (b4:ru (gD 0 (dq c))) (hpl:(dI (dq c)).length≤2147483647):SC G prog 154 [pA g] H (λv H'=>∃a b:SV,v=.tuple #[a.val,b.val,.nilIface]∧H'=Row a eB (fT (gD 0 (dq c)))::Row b eB (dI (dq c))::R):=by
 have hfew:=a3.few;refine sWk func154 ?_;refine ws_ (wr_ (e_ asn (e_ asn (e_ asn (on_ (qn_ (ws_ (wr_ ?_))))))));refine Bb hr λes f=>?_;have b6:=qB f;have hkl:(kvs es).length≤c.length:=by
  have h1:=lJ (m:=c.map (·.1)) f.nodup λx hx=>(f.keys x).1 hx
  simpa [mb,kvs] using h1
 refine e_ mv (e_ nck (e_ fla (e_ ldv ?_)));refine e_ (J6 rfl) ?_;refine s_ (fq eS ⟨#[]⟩ rfl rfl 0 (kvs es).length rfl rfl rfl a8 a8 a8) ?_;rintro _ _ ⟨a9,rfl,hs24n,hs24c,rfl⟩;refine go ?_;refine s_ (Eo rfl) ?_;rintro _ _ ⟨it,rfl,rfl⟩;refine gk (k:=wl2_ ((List ByteArray)×SV) (λy=>y.1.Nodup∧∀k∈y.1,k∈(kvs es).map (·.1)) (λy=>[(5,y.2.val)]) [(0,_),(29,_)] (λy=>[Rg (r,it) (kvs es,y.1),Row y.2 eS y.1]) _ (λy=>(kvs es).length-y.1.length) (([],a9)) (h0:=?_) (k:=?_))
 ·try dsimp only
  exact⟨List.nodup_nil,λk hk=>by simp at hk⟩
 rintro⟨d,s⟩ ⟨J,L⟩
 try dsimp only[Yd,Ye]at*
 refine go ?_;refine s_ (I9 (r:=r) rfl) ?_;rintro _ _ (⟨i,k,v,Y,b8,rfl,rfl⟩|⟨a2,rfl,rfl⟩)
 ·have A:(d++ [k]).Nodup:=R5.2 ⟨J,ak,λa ha b hb=>by simp at hb;subst hb;rintro rfl;exact b8 ha⟩;have B:∀x∈d++ [k],x∈(kvs es).map (·.1):=λx hx=>by
   rcases Xl.1 hx with hx|hx
   ·exact L x hx
   ·simp at hx;subst hx;exact Xw.2 ⟨_,Yj Y,rfl⟩
  have K:=lJ A B;rw[Ya,Yh,V9]at K;refine gk (k:=ift (k:=wk_ (qn_ (wb_ (ws_ (wr_ ?_))))));refine e_ (Gm (q:=(kvs es,d++ [k])) (r:=r) (it:=it) rfl rfl Y) ?_;refine gk (k:=fX eS (k:=λs36=>?_));refine app (k:=λa7=>?_);refine go ?_;refine ln_ ((d++ [k],a7)) (h2:=?_) (k:=?_)
  ·try dsimp only
   rw[Ya,V9];omega
  exact⟨A,B⟩
 have K:=lJ J L;rw[Yh]at K;have b2:d.Perm ((kvs es).map (·.1)):=(List.perm_ext_iff_of_nodup J b6).2 λx=>⟨L x,λhx=>by obtain⟨p,hp,rfl⟩:=Xw.1 hx;exact a2 p hp⟩;refine gk (k:=iff_ (k:=go ?_));refine eN (JA (r:=r) (it:=it) inferInstance cH.refl) ?_;refine go ?_;refine c1_ rfl (hS G _ _ s d inferInstance a8) ?_;rintro _ _ ⟨rfl,h,b3,F,rfl⟩;have w:=b3.trans b2;have hksl:h.length=(kvs es).length:=by rw[w.length_eq,Yh]
 have Z:h.map cF=lC (c.map (·.1)):=by
  refine sU (r8 ?_ F) (iZ _) λx=>?_
  ·have h1:=(w.map cF).nodup_iff.2 (by have h2:=f.nodup;rw[o9]at h2;simpa [Function.comp_def] using h2);exact h1
  ·rw[jy,←f.keys,o9,(w.map cF).mem_iff];simp[Function.comp_def]
 have U:(dq c).length=h.length:=by rw[dq,Yh,←Z,Yh]
 have b0:∀{i:Nat}{q:ByteArray},h[i]? =some q→(dq c)[i]? =some (cF q,iD (ofK c (cF q))):=fun{i q} hq=>by rw[dq,Xd,←Z,Xd,hq];all_goals rfl
 have c0:=iF (dq c) 0;refine go ?_;refine c0_ rfl ga ?_;rintro _ _ ⟨bw,rfl,rfl⟩;refine go ?_;refine s_ (fq eEn ⟨⟨#[]⟩,0,0,0,0⟩ rfl rfl 0 h.length rfl rfl rfl a8 a8 a8) ?_;rintro _ _ ⟨C,rfl,hs43n,hs43c,rfl⟩;refine e_ asn (on_ (qn_ (ws_ (ws_ (wr_ ?_)))));rw[show Row C eEn (List.replicate 0 (⟨⟨#[]⟩,0,0,0,0⟩:En))=Row C eEn ((gD 0 (dq c)).take 0)from rfl,show Wr bw []=Wr bw (dI ((dq c).take 0))from rfl];refine gk (k:=wl2_ (Nat×SV) (λy=>y.1≤h.length) (λy=>[(8,y.2.val),(46,iN y.1)]) [(0,_),(7,_),(44,_),(45,_)] (λy=>[Row y.2 eEn ((gD 0 (dq c)).take y.1),Wr bw (dI ((dq c).take y.1))]) _ (λy=>h.length-y.1) ((0,C)) (h0:=?_) (k:=?_))
 ·exact Yl _
 rintro⟨i,u⟩ hi
 try dsimp only[Yd,Ye]at*
 refine gW (λh1=>?_) λh1=>?_
 ·obtain⟨q,hq⟩:=gE h i;have t:=b0 hq;have l:=lW (n:=0) t;have b1:q∈(kvs es).map (·.1):=w.mem_iff.1 (Yj hq);have z:=lR a3 (k:=cF q);have j:(dI ((dq c).take (i+1))).length≤(dI (dq c)).length:=uH _ _;rw[nu t,Ya]at j;rw[Vf]at l;simp only at l j;refine go ?_;refine s_ (xp rfl rfl) ?_;rintro _ _ ⟨rfl,(⟨m,e,he,c1,rfl⟩|⟨b5,rfl⟩)⟩
  ·have a4:=f.vals _ (Yj (qb he));simp only[c1]at a4;rw[←a4]at t l j z;refine e_ asn (on_ (qn_ (ws_ (wr_ ?_))));haveI hsle:=NH (H:=Cl egH es::R) inferInstance he;have S:(e.l.map pgV).length=(e.l.map pgP).length:=ak;have b9:=B7 (H:=Cl egH es::R) inferInstance he;have hvl:(e.l.map pgV).length=e.l.length:=ak;have hgs:=z.2.1.1;refine go ?_;refine c1_ rfl (Lb (B7 inferInstance he) z.1 z.2.1 a8) ?_;rintro _ _ ⟨s58,rfl,rfl⟩;refine e_ mv (e_ exr (e_ exr (e_ asn (e_ asn (on_ (qn_ (ws_ (ws_ (wr_ (e_ mv ?_))))))))));refine e_ (cK rfl) ?_;refine gk (k:=iff_ (k:=go ?_));refine d1_ rfl OP (e_ mv (e_ lnn (e_ (bld [(0,_),(1,_),(3,_),(4,_)]) (alc (k:=λM=>?_)))));refine sto (k:=on_ (qn_ (ws_ (ws_ (wr_ ?_)))));rw[show Vr M [.string q,iN ((e.l.map pgV).length),.int .i64 0,iN ((dI ((dq c).take i)).length),iN ((dD (e.l.map pgP)).length)]=Vr M [.string q,iN ((e.l.map pgP).length),iN (dn ((e.l.map pgP).take 0)),iN ((dI ((dq c).take i)).length),iN ((dD (e.l.map pgP)).length)]from by rw[S];all_goals rfl];refine gk (k:=wl2_ Nat (λy=>y≤(e.l.map pgV).length) (λy=>[(74,iN y)]) [(0,_),(7,_),(8,_),(12,_),(14,_),(44,_),(45,_),(46,_),(72,_),(73,_)] (λy=>[Vr M [.string q,iN ((e.l.map pgP).length),iN (dn ((e.l.map pgP).take y)),iN ((dI ((dq c).take i)).length),iN ((dD (e.l.map pgP)).length)]]) _ (λy=>(e.l.map pgV).length-y) (0) (h0:=?_) (k:=?_))
   ·exact Yl _
   rintro m hm
   try dsimp only[Yd,Ye]at*
   refine gW (λh2=>?_) λh2=>?_
   ·obtain⟨E,X⟩:=gE e.l m;have b7:(e.l.map pgV)[m]? =some (E.d,E.s):=by rw[Xd,X];all_goals rfl
    have V:(e.l.map pgP)[m]? =some (E.d,E.pos):=by rw[Xd,X];all_goals rfl
    haveI hslp:Sl (Cl egH es::R) E.s eI (cP E.pos):=(b9.2 m _ _ b7 V).2;have hil:=dJ E.pos;have T:=nQ V;simp only at T;have htl:dn ((e.l.map pgP).take (m+1))≤dn (e.l.map pgP):=by
     conv=>rhs;rw[←Xv (m+1) (e.l.map pgP),jT]
     exact Nat.le_add_right _ _
    refine gk (k:=alc (k:=λb16=>?_));refine sto (k:=on_ (qn_ (wr_ (e_ fla (e_ ldv (e_ fla (e_ ldv (e_ lnn ?_))))))));refine e_ (evq iad (congrArg (Value.int .i64) (show _=((dn ((e.l.map pgP).take (m+1)):Nat):Int)from a8))) (go ?_);refine lN (m+1) ?_
    try dsimp only
    omega
   obtain rfl:m=(e.l.map pgV).length:=a8;rw[show(e.l.map pgP).take (e.l.map pgV).length=e.l.map pgP from by rw[S,Xk]];have a1:dQ (cF q)=q:=iz _;rw[a1]at l;have a0:=cL l;have htkl:((gD 0 (dq c)).take i).length≤h.length:=ar;refine gk (k:=fX eEn (k:=λs88=>?_));refine app (k:=λa6=>?_);rw[←a0];refine go ?_;refine d2_ rfl (zh a8 a8) ?_;rw[show dI ((dq c).take i)++dD (e.l.map pgP)=dI ((dq c).take (i+1))from(nu t).symm];refine go ?_;refine lN ((i+1,a6)) ?_
   try dsimp only
   omega
  exact absurd b1 b5
 obtain rfl:i=h.length:=a8;rw[show(gD 0 (dq c)).take h.length=gD 0 (dq c)from by rw[←U,←c0,Xk],show(dq c).take h.length=dq c from by rw[←U,Xk]];refine go ?_;refine c1_ rfl (Nw a8 b4) ?_;rintro _ _ ⟨a5,rfl,rfl⟩;refine go ?_;refine c1_ rfl (iW a8) ?_;rintro _ _ ⟨N,rfl,rfl⟩;refine gR ?_;exact⟨_,hsb,a5,N,rfl,rfl⟩
end
theorem MQ:∀x y:List UInt8,x<y↔x.map (·.toNat)<y.map (·.toNat):=by
 intro x
 induction x with
 |nil=>intro y;cases y <;> simp
 |cons a x ih=>
  intro y;cases y with
  |nil=>simp
  |cons b y=>
   simp only[Xn,S9,ih y,UInt8.lt_iff_toNat_lt,UInt8.toNat_inj]
def by8 (q:ByteArray):List UInt8:=q.data.toList
def un8 (l:List UInt8):ByteArray:=⟨l.toArray⟩
theorem Ht (q:ByteArray):un8 (by8 q)=q:=by cases q;simp[un8,by8]
theorem yP (l:List UInt8):cF (un8 l)=l.map (·.toNat):=by simp[cF,un8]
theorem zt (l:List (List UInt8)):(((l.mergeSort λx y=>decide (x≤y)).map un8).map cF).Pairwise (λa b=>¬b<a):=by
 rw[Ut];refine List.pairwise_map.2 ?_;have h:(l.mergeSort λx y=>decide (x≤y)).Pairwise λx y=>decide (x≤y)=true:=by
  refine List.pairwise_mergeSort (le:=λx y=>decide (x≤y)) (λa b c h1 h2=>?_) (λa b=>?_) l
  ·simp only[Xs]at h1 h2⊢;exact List.le_trans h1 h2
  ·simp only[Ub,Xs];exact List.le_total a b
 refine h.imp fun{a b} hab=>?_;simp only[Function.comp,yP,←MQ];exact List.not_lt.2 (Yt hab)
theorem wJ:∀ss:List ByteArray,eS.all ss=ss.map Value.string
 | []=>rfl
 |q::r=>by show Value.string q::eS.all r=_;rw[wJ r];all_goals rfl
theorem CI {w:World}{L a:mX}(hp:a.Perm L) (h:ju w L):ju w a:=⟨((hp.map (·.1)).nodup_iff).2 h.nodup,λx hx=>h.at_ x (hp.mem_iff.1 hx)⟩
theorem EA:nJ:=by
 intro G H R s a hr hn;refine⟨px func236 rfl aa,λw X=>?_⟩;obtain⟨z,L,hL,hl⟩:=X;obtain⟨L',hp,L1,L2,rfl,t,T⟩:=hr.out L hL;have hl':=CI hp hl;rcases t with⟨rfl,rfl,rfl⟩|⟨b,C,E,fz,h1,h2,h3,rfl,Z,S,Y⟩
 ·refine(slices_Sort_string_none none 0 w).mono ?_;rintro e U ⟨rfl,rfl⟩;exact⟨Row SV.nil eS []::R,⟨z,L2,⟨[],L2,rfl,.inl ⟨rfl,rfl,rfl⟩,T⟩,by simpa using hl'⟩,rfl, [],.refl _,List.Pairwise.nil,rfl⟩
 ·have u:w.heap[b]? =some (.cells C E fz):=hl'.at_ (b,.cells C E fz) ak;have r:b<w.heap.size:=(Vh.1 u).1;have c:∀(j:Nat) (q:ByteArray),a[j]? =some q→C[j]? =some (.string q):=λj q K=>Y j _ (by
   have:=wJ a;rw[this,Xd,K];all_goals rfl)
  have hH:Go.Sort.Holds encStr w b 0 (a.map by8).toArray:=by
   intro j hj;have p:j<a.length:=by simpa using hj
   have M:a[j]? =some a[j]:=Yi p;have A:=c j _ M;have k:=(Vh.1 A).1
   constructor
   ·simp only[World.cell?,u,Vf];simp[A,encStr,by8,p]
   ·simp only[World.frozen?,u,Vf];have:=S.free j k;simp only[Vo,Xx];omega
  have hv: #[s.val]= #[Value.slice (some ⟨b,0,none⟩) (a.map by8).length s.c]:=by
   simp only[SV.val,h1,h2,Yh]
  rw[hv];refine(slices_Sort_string b 0 s.c (a.map by8) w hH r (by rw[Yh];omega)).mono ?_;rintro e U ⟨rfl,n,os,rfl⟩;obtain⟨d,i⟩:=ex ((a.map by8).mergeSort λx y=>decide (x≤y));have m:d.Perm (a.map by8):=by rw[i];exact List.mergeSort_perm _ _
  have g:d.length=a.length:=by rw[m.length_eq,Yh]
  rw[←i];refine⟨Row s eS (d.map un8)::R,?_,rfl,d.map un8,?_,?_,rfl⟩
  ·refine⟨⟨z.os,z.tape,z.output⟩, [(b,.cells (Go.Sort.putCells encStr 0 d.toArray C) E fz)]++L2,⟨_,L2,rfl,.inr ⟨b,_,E,fz,h1,by simp[h2,g],h3,rfl,by simp[Go.Sort.putCells,Z],by simpa [Go.Sort.putCells] using S,?_⟩,T⟩,?_⟩
   ·intro j v hv;have:=wJ (d.map un8);rw[this,Ut,Xd]at hv;cases hm:d[j]? with
    |none=>rw[hm]at hv;cases hv
    |some q=>
     rw[hm]at hv;obtain rfl:=Xo hv;have N:=(Yk.1 hm).1;obtain⟨V,J⟩:=gE a j;have A:=c j V J;have k:=(Vh.1 A).1;have K:=(Yk.1 hm).2;simp[Go.Sort.putCells,k,N,K,un8]
   ·have f:=hl'.nodup;simp only[Va,Xn,Ul,Yd,Ye,U3]at f⊢;refine⟨by simpa using f,λx hx=>?_⟩;rcases Xr.1 hx with rfl|hx
    ·simp only[Go.Sort.grow,Go.Sort.putRow,Go.Sort.mapBlock,Go.Sort.ahead];rw[Uw (by simpa using r),Array.getElem?_modify,if_pos rfl,u];all_goals rfl
    ·have F:b≠x.1:=λh=>f.1 (h ▸ Ux hx);have l:=hl'.at_ x (by simp[hx]);have B:=(Vh.1 l).1;simp only[Go.Sort.grow,Go.Sort.putRow,Go.Sort.mapBlock,Go.Sort.ahead];rw[Uw (by simpa using B),Array.getElem?_modify,if_neg F,l]
  ·have h9:=m.map un8;rw[Ut,show(un8∘by8)=id from funext Ht,P5]at h9;exact h9
  ·rw[i];exact zt _
section
variable {G:cJ}{H:cG}
theorem Ib [hs:Spc H]{w:World}(a:Sat G w H):Lib.TabIs prog w "strings.asciiSpace" .u8 Lib.asciiSpaceTab:=by
 obtain⟨hS,L,hL,hl⟩:=a;obtain⟨E,fz,hm⟩:=hs.out L hL;have h:=hl.at_ _ hm;have c:prog.globalNamed "strings.asciiSpace" =some 42:=aa;have b:(Lib.asciiSpaceTab.map λz=>Value.int .u8 z).toArray=((List.range 256).map λi=>Value.int .u8 (if i=9∨i=10∨i=11∨i=12∨i=13∨i=32 then 1 else 0)).toArray:=by
  have e:Lib.asciiSpaceTab=(List.range 256).map λi=>(if i=9∨i=10∨i=11∨i=12∨i=13∨i=32 then(1:Int)else 0):=ao;rw[e,Ut];all_goals rfl
 show w.var? prog "strings.asciiSpace" =_;simp only[World.var?,c,Option.bind_some,h,b]
theorem HR {q:ByteArray} [Spc H] (f:q.size<4294967281) (ha:∀b∈q.data.toList,b.toNat<128):SC G prog 365 [.string q] H (λv h=>∃s:SV,v=s.val∧h=Row s eS ((Lib.fields q.data.toList).map un8)::H):=by
 refine⟨px func365 rfl aa,λw d=>?_⟩;refine(strings_Fields q w f (λj b g=>ha b (Yj g)) (Ib d)).mono ?_;rintro e w' ⟨rfl,rfl⟩;obtain⟨c,L,hL,hl⟩:=d;refine⟨Row ⟨some ⟨w.heap.size,0,none⟩,(Lib.fields q.data.toList).length,(Lib.fields q.data.toList).length⟩ eS ((Lib.fields q.data.toList).map un8)::H,⟨⟨c.os,c.tape,c.output⟩, [(w.heap.size,.cells ((Lib.fields q.data.toList).map λl=>Value.string ⟨l.toArray⟩).toArray 9 (0,0))]++L,⟨_,L,rfl,.inr ⟨w.heap.size,_,9,(0,0),rfl,ak,Xj _,rfl,by simp[eS],.inl rfl,λj v hv=>?_⟩,hL⟩,?_⟩,_,rfl,rfl⟩
 ·rw[wJ,Ut]at hv
  simpa [un8,Function.comp_def] using hv
 ·have a:∀x∈L,x.1<w.heap.size:=λx hx=>(Vh.1 (hl.at_ x hx)).1;refine⟨?_,λx hx=>?_⟩
  ·simp only[Va,Xn,Ul,Yd,Ye,U3];refine⟨λhm=>?_,hl.nodup⟩;obtain⟨x,hx,he⟩:=Xw.1 hm;have:=a x hx;omega
  ·rcases Xl.1 hx with hx|hx
   ·simp only[Ui]at hx;subst hx;exact Array.getElem?_push_size
   ·have:=a x hx;simp only[World.alloc];rw[Array.getElem?_push_lt this,←Array.getElem?_eq_getElem this];exact hl.at_ x hx
def xj:ByteArray:=⟨#[97,32,97,110,32,97,110,100,32,97,114,101,32,97,115,32,97,116,32,98,101,32,98,117,116,32,98,121,32,102,111,114,32,102,114,111,109,32,104,97,115,32,104,101,32,105,102,32,105,110,32,105,110,116,111,32,105,115,32,105,116,32,105,116,115,32,110,111,32,110,111,116,32,111,102,32,111,110,32,111,114,32,115,104,101,32,115,111,32,115,117,99,104,32,116,104,97,116,32,116,104,101,32,116,104,101,105,114,32,116,104,101,110,32,116,104,101,114,101,32,116,104,101,115,101,32,116,104,101,121,32,116,104,105,115,32,116,111,32,119,97,115,32,119,101,32,119,101,114,101,32,119,105,108,108,32,119,105,116,104,32,121,111,117]⟩
theorem zq:∀b∈xj.data.toList,b.toNat<128:=ao
theorem Cc:(((Lib.fields xj.data.toList).map λl=>l.map (·.toNat)).isPerm i9)=true:=ao
theorem xi:i9.Pairwise (λa b=>¬b<a):=ao
theorem Eh:(Lib.fields xj.data.toList).length≤1000:=ao
theorem I7 {c:List ByteArray}(hp:c.Perm ((Lib.fields xj.data.toList).map un8)) (hs:(c.map cF).Pairwise (λa b=>¬b<a)):c=gQ:=by
 have h1:(c.map cF).Perm i9:=by
  refine(hp.map cF).trans ?_;rw[Ut,show(cF∘un8)=λl:List UInt8=>l.map (·.toNat)from funext yP];exact List.isPerm_iff.1 Cc
 have h2:c.map cF=i9:=List.Perm.eq_of_pairwise (le:=λa b:List Nat=>¬b<a) (λa b _ _ h3 h4=>by
  by_cases e:a=b
  ·exact e
  ·exact absurd (wa h4 e) h3) hs xi h1
 have h3:c.map cF=gQ.map cF:=by rw[h2,l6]
 have h4:=congrArg (List.map dQ) h3;rw[Ut,Ut,show(dQ∘cF)=id from funext iz,P5,P5]at h4;exact h4
theorem I5:jt G:=by
 intro H hH;refine sWk func335 ?_;refine go ?_;refine c1_ rfl (HR (q:=xj) ao zq) ?_;rintro _ _ ⟨b,rfl,rfl⟩;refine go ?_;refine c1_ rfl (EA G _ _ b _ inferInstance (by rw[Yh];have:=Eh;omega)) ?_;rintro _ _ ⟨rfl,ss,hp,a,rfl⟩;rw[I7 hp a];refine gR ?_;exact⟨_,hsb,b,rfl,rfl⟩
end
end Go.Sx
