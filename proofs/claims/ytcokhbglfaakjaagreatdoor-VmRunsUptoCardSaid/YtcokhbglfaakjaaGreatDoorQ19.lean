import Derived.Test.YtcokhbglfaakjaaGreatDoorQ16
import Derived.Test.YtcokhbglfaakjaaGreatDoorQ14
set_option linter.all false
set_option maxHeartbeats 0
namespace Go.Sx
open Go Go.Proofs
set_option maxRecDepth 100000
section
variable {fs:List FV}{α:Type}
theorem C5 {β:Type}(l:List α) (m:List β) (g:α→β→Nat):(l.map λa=>(m.map (g a)).sum).sum=(m.map λb=>(l.map λa=>g a b).sum).sum:=by
 induction l with
 |nil=>simp only[Ud,List.sum_nil];induction m with
  |nil=>rfl
  |cons b m ih=>simp only[Xs,Vv,Vw];exact ih
 |cons a l ih=>
  simp only[Xs,Vv,ih];clear ih
  induction m with
  |nil=>rfl
  |cons b m ih=>simp only[Xs,Vv]at ih⊢;omega
theorem x7 {l:List α}{f g:α→Nat}(h:∀x∈l,f x≤g x):(l.map f).sum≤(l.map g).sum:=by
 induction l with
 |nil=>exact Xl _
 |cons a l ih=>
  have h1:=h a aq;have h2:=ih λx hx=>h x (Xa _ hx);simp only[Xs,Vv];omega
def gv (fs:List FV) (f:Nat) (v:Val):Nat:=match fs[f]? with
 |some p=>if dC v.1=dC p.name then v.2.size+1 else 0
 |none=>0
theorem GZ (p:FV) (vs:List Val):∀i,(gM p vs i).2.length≤((vs.take i).map λv=>if dC v.1=dC p.name then v.2.size+1 else 0).sum
 | 0=>by simp[gM]
 |i+1=>by
  have a:=GZ p vs i;cases hv:vs[i]? with
  |none=>
   have e:gM p vs (i+1)=gM p vs i:=by rw[gM,hv]
   have:vs.take (i+1)=vs.take i:=by rw[Um,hv];simp
   rw[e,this];exact a
  |some v=>
   rw[dK hv,Xp,S3]
   by_cases hn:dC v.1=dC p.name
   ·have h4:=tt p (dC v.2);rw[dI]at h4;rw[wz (b:=(gM p vs i).1) (out:=(gM p vs i).2) rfl hv hn];simp only[Ya,Yh,Xs,Ud,Vv,List.sum_nil,if_pos hn];omega
   ·rw[B6 (b:=(gM p vs i).1) (out:=(gM p vs i).2) rfl hv hn];simp only;omega
theorem IM (fs:List FV) (f:Nat) (vs:List Val):(eZ fs f vs).length≤(vs.map (gv fs f)).sum:=by
 unfold eZ;cases hp:fs[f]? with
 |none=>simp
 |some p=>
  have h:=GZ p vs vs.length;rw[Xn]at h;simp only;have e:(λv:Val=>if dC v.1=dC p.name then v.2.size+1 else 0)=gv fs f:=by funext v;rw[gv,hp]
  rwa [e]at h
theorem GU {v:Val}:∀n,(∀j p,j<n→fs[j]? =some p→dC v.1≠dC p.name)→((List.range n).map λf=>gv fs f v).sum=0
 | 0,_=>rfl
 |n+1,h=>by
  rw[X9,Xp,S3,GU n λj p hj=>h j p a8];simp only[Xs,Ud,Vv,List.sum_nil,gv];cases hp:fs[n]? with
  |none=>rfl
  |some p=>simp only;rw[if_neg (h n p a8 hp)];all_goals rfl
theorem LZ (hd:(fs.map λf=>dC f.name).Nodup) (v:Val):∀n,((List.range n).map λf=>gv fs f v).sum≤v.2.size+1
 | 0=>aq
 |n+1=>by
  have ih:=LZ hd v n;rw[X9,Xp,S3];simp only[Xs,Ud,Vv,List.sum_nil,X6]
  by_cases hg:gv fs n v=0
  ·omega
  ·obtain⟨p,hp,hn⟩:∃p,fs[n]? =some p∧dC v.1=dC p.name:=by
    unfold gv at hg;cases hp:fs[n]? with
    |none=>rw[hp]at hg;exact absurd rfl hg
    |some p=>
     rw[hp]at hg
     by_cases h:dC v.1=dC p.name
     ·exact⟨p,rfl,h⟩
     ·exact absurd (by simp only;rw[if_neg h]) hg
   have hz:=GU (fs:=fs) (v:=v) n λj q hj a he=>by
    have h1:(fs.map λf=>dC f.name)[j]? =some (dC v.1):=by rw[Xd,a,he];all_goals rfl
    have h2:(fs.map λf=>dC f.name)[n]? =some (dC v.1):=by rw[Xd,hp,hn];all_goals rfl
    have h3:=(Yk.1 h2).1;have:=(S1 a8 hd).1 (h1.trans h2.symm);omega
   have hb:gv fs n v≤v.2.size+1:=by rw[gv,hp];simp only;rw[if_pos hn];exact Xl _
   omega
def tsz (ds:List Doc):Nat:=(ds.map λd=>(d.2.map λv=>v.2.size+1).sum).sum
theorem zU (fs:List FV) (f:Nat):∀(ds:List Doc) (k:Nat),(gN fs f k ds).length=(ds.map λd=>(eZ fs f d.2).length).sum
 | [],_=>rfl
 |d::ds,k=>by
  rw[gN,Ya,zU fs f ds (k+1)];simp[od]
theorem DT (hc:iK fs=true) (ds:List Doc):(fU fs ds).length≤tsz ds:=by
 have hd:=(th fs [] (by simp only[iK,Xu]at hc;exact hc.2)).2;have h1:(fU fs ds).length=((List.range fs.length).map λf=>(ds.map λd=>(eZ fs f d.2).length).sum).sum:=by
  rw[fU,List.length_flatMap];congr 1;exact T1 λf _=>zU fs f ds 0
 rw[h1,C5];refine x7 λd _=>?_;have h2:((List.range fs.length).map λf=>(eZ fs f d.2).length).sum≤((List.range fs.length).map λf=>(d.2.map (gv fs f)).sum).sum:=x7 λf _=>IM fs f d.2;rw[C5]at h2;exact Xi h2 (x7 λv _=>LZ hd v _)
end
open Tryz
theorem Wi {G:dJ}{H:dD}{fv si sb:SV}{fs:List FV}{ids body:List Nat} [hg:Glb G H] [hf:Sl H fv eF fs] [hsi:Sl H si eB ids] [hsc:Sl H sb eB body] (hc:iK fs=true) (hn:ids.length≤100000000) (hm:body.length≤100000000) (M:∀x∈ids,x<256) (r:∀x∈body,x<256):
 SC G prog 117 [.agg #[fv.val],si.val,sb.val] H (λv H'=>(nB fs ids body=none∧∃L:SV,v=.tuple #[L.val,.bool false]∧H'=H)∨(∃(zs:List DG) (L:SV),nB fs ids body=some (zs.map dgD)∧v=.tuple #[L.val,.bool true]∧H'=Row L eD (zs.map dgV)::Cl dgH zs::H)):=by
 obtain⟨hc1,hc2⟩:=jx hc;refine sWk func117 ?_;refine gk (k:=bxx (k:=λR=>?_));refine go ?_;refine c1_ rfl (l3 a8) ?_;rintro _ _ ⟨br,rfl,rfl⟩;refine go ?_;refine c2_ rfl (OB (k:=0) (most:=4096) (Yl _) a8 M ae) ?_;rintro _ _ N;rw[Va]at N;rcases N with⟨e,hr,rfl,rfl⟩|⟨l,m,T,hr,rfl,rfl⟩
 all_goals try rw[Vw]
 ·have C:nB fs ids body=none:=by rw[nB,hr]
  refine e_ mv (e_ exr (e_ exr (e_ asn (e_ asn (on_ (qn_ (ws_ (ws_ (wr_ (e_ mv ?_))))))))));refine e_ (eg rfl) ?_;refine gk (k:=ift (k:=go ?_));refine gR ?_;exact⟨_,hsb,.inl ⟨C,SV.nil,rfl,rfl⟩⟩
 obtain⟨g1,g2,g3,g4,g5⟩:=yN M hr;have hll:l.length≤4096:=by
  rw[gF]at hr
  split at hr
  ·cases hr
  ·rename_i n0 m0 V
   split at hr
   ·cases hr
   ·rename_i r0 m1 U;obtain⟨h,_⟩:=(by simpa using hr:r0=l∧m0+m1=m);obtain⟨k1,_⟩:=lL M V;obtain⟨k2,_⟩:=sT _ _ _ _ _ (λx hx=>M x (Yp hx)) (T8 _) U;rw[←h];omega
 refine e_ mv (e_ exr (e_ exr (e_ asn (e_ asn (on_ (qn_ (ws_ (ws_ (wr_ (e_ mv ?_))))))))));refine e_ (dL rfl) (go ?_);refine sg_ (v1_ (tC g1)) (k:=?_);rintro _ _ ⟨rfl,(⟨X,rfl⟩|⟨X,rfl⟩)⟩
 ·have C:nB fs ids body=none:=by rw[nB,hr];simp only[];rw[if_pos a8]
  refine eg_ (eg rfl) ?_;refine gk (k:=ift (k:=gR ?_));exact⟨_,hsb,.inl ⟨C,SV.nil,rfl,rfl⟩⟩
 have C:nB fs ids body=match nd fs l body with
  |none=>none
  |some (ds,c)=>if c<body.length then none else some ds:=by
  rw[nB,hr];simp only[];rw[if_neg a8];all_goals (cases nd fs l body <;> rfl)
 refine eg_ (dL rfl) ?_;refine gk (k:=fM (k:=go ?_));refine c1_ rfl (l3 (xs:=body) a8) ?_;rintro _ _ ⟨bq,rfl,rfl⟩;refine e_ asn (on_ (qn_ (ws_ (wr_ (e_ asn (on_ (qn_ (ws_ (ws_ (wr_ ?_))))))))));refine eu (dH.nilRow (e:=eD) (ga (f:=dgH) dH.refl)) ?_;rw[show Row SV.nil eD ([]:List (Int×SV))=Row SV.nil eD (([]:List DG).map dgV)from rfl];refine gk (k:=e8 (Nat×SV×(List DG)×Nat) (λy=>y.1≤l.length∧y.2.2.2≤body.length∧y.2.2.1.length=y.1∧nd fs l body=vX (y.2.2.1.map dgD) y.2.2.2 (nd fs (l.drop y.1) (body.drop y.2.2.2))) (λy=>[(11,y.2.1.val),(40,iN y.1)]) [(3,_),(8,_),(38,_),(39,_)] (λy=>[Row y.2.1 eD (y.2.2.1.map dgV),Cl dgH y.2.2.1,Rd bq (body,y.2.2.2)]) (Row T eI l::Vr R [fv.val]::H) (λy=>l.length-y.1) ((0,SV.nil, [],0)) (h0:=?_) (k:=?_))
 ·try dsimp only
  exact⟨Yl _,Yl _,rfl,by rw[Va,Va];exact(GW _).symm⟩
 rintro⟨i,u,zs,a⟩ ⟨hi,ha,hzl,hI⟩
 try dsimp only[Yd,Ye]at*
 refine gW (λh1=>?_) λh1=>?_
 ·obtain⟨d,a1⟩:=gE l i;have hzm:(zs.map dgV).length=zs.length:=Yh ..;rw[eh a1,nd]at hI;refine wk_ (qn_ (ws_ (wb_ (ws_ (wr_ (e_ ixa (e_ lel (e_ asn (on_ (qn_ (ws_ (wr_ (e_ mv ?_)))))))))))));refine e_ (bld [(0,_)]) (alc (k:=λK=>?_));refine go ?_;refine c2_ rfl (Cv (most:=64) ha a8 r ae) ?_;rintro _ _ (⟨e,h,rfl,rfl⟩|⟨n,s,h,rfl,rfl⟩)
  ·rw[h]at hI;refine e_ mv (e_ exr (e_ exr (e_ asn (e_ asn (on_ (qn_ (ws_ (ws_ (wr_ (e_ mv ?_))))))))));refine e_ (eg rfl) ?_;refine gk (k:=ift (k:=go ?_));refine gR ?_;exact⟨_,hsb,.inl ⟨by rw[C,hI];all_goals rfl,SV.nil,rfl,rfl⟩⟩
  rw[h]at hI;simp only[]at hI;obtain⟨q1,q2,q3,q4⟩:=lL (λx hx=>r x (Yp hx)) h;rw[Yo]at q2;rw[Vt]at hI;refine e_ mv (e_ exr (e_ exr (e_ asn (e_ asn (on_ (qn_ (ws_ (ws_ (wr_ (e_ mv ?_))))))))));refine e_ (dL rfl) ?_;refine gk (k:=fM (k:=go ?_));refine gk (k:=e8 (SV×(List Val)×Nat×Nat) (λy=>y.2.2.2=y.2.1.length∧y.2.2.1≤body.length∧a+s≤y.2.2.1∧y.2.1.length≤n∧oe fs n (body.drop (a+s))=vX y.2.1 (y.2.2.1-(a+s)) (oe fs (n-y.2.1.length) (body.drop y.2.2.1))) (λy=>[(54,iN y.2.2.2)]) [(3,_),(8,_),(11,_),(14,_),(38,_),(39,_),(40,_),(53,_)] (λy=>[Vr K [.int .i64 d,y.1.val],Row y.1 eVl y.2.1,Rd bq (body,y.2.2.1)]) (Row u eD (zs.map dgV)::Cl dgH zs::Row T eI l::Vr R [fv.val]::H) (λy=>n-y.2.1.length) ((SV.nil, [],a+s,0)) (h0:=?_) (k:=?_))
  ·try dsimp only
   exact⟨rfl,a8,Xl _,Yl _,by rw[Ui,Yc,R8];exact(GW _).symm⟩
  rintro⟨B,g,e,j⟩ ⟨hjv,he,hae,hvl,b⟩
  try dsimp only[Yd,Ye]at*
  refine gW (λh2=>?_) λh2=>?_
  ·obtain⟨k,hk⟩:∃k,n-g.length=k+1:=⟨n-g.length-1,a8⟩;rw[hk,oe]at b;refine wk_ (qn_ (ws_ (wb_ (ws_ (wr_ (e_ mv (e_ fla (e_ ldv (e_ lnn ?_)))))))));refine e_ (evq isb (congrArg (Value.int .i64) (by omega:(fs.length:Int)-1=((fs.length-1:Nat):Int)))) ?_;refine c2_ rfl (Cv (most:=fs.length-1) he a8 r a8) ?_;rintro _ _ (⟨e9,w,rfl,rfl⟩|⟨f,J,w,rfl,rfl⟩)
   ·rw[w]at b;simp only[]at b;refine e_ mv (e_ exr (e_ exr (e_ asn (e_ asn (on_ (qn_ (ws_ (ws_ (wr_ (e_ mv ?_))))))))));refine e_ (eg rfl) ?_;refine gk (k:=ift (k:=go ?_));refine gR ?_;exact⟨_,hsb,.inl ⟨by rw[C,hI,b];all_goals rfl,SV.nil,rfl,rfl⟩⟩
   rw[w]at b;simp only[]at b;obtain⟨p1,p2,p3,p4⟩:=lL (λx hx=>r x (Yp hx)) w;rw[Yo]at p2;rw[Vt]at b;refine e_ mv (e_ exr (e_ exr (e_ asn (e_ asn (on_ (qn_ (ws_ (ws_ (wr_ (e_ mv ?_))))))))));refine e_ (dL rfl) ?_;refine gk (k:=fM (k:=go ?_));refine c2_ rfl (QR (most:=4096) a8 a8 r ae) ?_;rintro _ _ (⟨e9,t,rfl,rfl⟩|⟨q,F,t,rfl,rfl⟩)
   ·rw[t]at b;simp only[]at b;refine e_ mv (e_ exr (e_ exr (e_ asn (e_ asn (on_ (qn_ (ws_ (ws_ (wr_ (e_ mv ?_))))))))));refine e_ (eg rfl) ?_;refine gk (k:=ift (k:=go ?_));refine gR ?_;exact⟨_,hsb,.inl ⟨by rw[C,hI,b];all_goals rfl,SV.nil,rfl,rfl⟩⟩
   rw[t]at b;simp only[]at b;obtain⟨r1,r2,r3,r4⟩:=I8 (λx hx=>r x (Yp hx)) t;rw[Yo]at r1;obtain⟨fp,a0⟩:=gE fs f;rw[Vt,a0]at b;refine e_ mv (e_ exr (e_ exr (e_ asn (e_ asn (on_ (qn_ (ws_ (ws_ (wr_ (e_ mv ?_))))))))));refine e_ (dL rfl) ?_;refine gk (k:=fM (k:=go ?_));refine wD [10,11,13] (λk H=>(k=1→dQ H K [.int .i64 d,B.val])∧(k=3→dQ H R [fv.val])∧(k=5→Sl H fv eF fs)∧(k=6→Sl H fv eF fs)∧(k=7→Sl H fv eF fs)) (aF 0 (k:=?_));refine aN 1 rfl (λH hH=>ah) ?_;refine aF 2 (k:=?_);refine aN 3 rfl (λH hH=>ar) ?_;refine aF 4 (k:=?_);refine aN 5 rfl (λH hH=>aG) ?_;refine aN 6 rfl (λH hH=>by have hN:=hH.2.2.2.1 rfl;exact fle) ?_;refine aN 7 rfl (λH hH=>by have hN:=hH.2.2.2.2 rfl;exact lfl) ?_;refine aF 8 (k:=af_ 9 (q:=ea λH hH=>bld [(0,_),(1,_)]) (k:=?_));refine aS 10 rfl (fK eVl rfl rfl) ?_;rintro _ _ ⟨s84,rfl,rfl⟩;refine aS 11 rfl (gf rfl rfl rfl rfl ab ab) ?_;rintro _ _ ⟨S,rfl,rfl⟩;refine go ?_;refine aS 13 rfl (ej rfl rfl rfl) ?_;rintro _ _ ⟨rfl,rfl⟩;refine aZ (go ?_);refine ln_ ((S,g++ [(fp.name,eG q)],e+J+F,j+1)) (h2:=?_) (k:=?_)
   ·try dsimp only
    simp;omega
   try dsimp only
   refine⟨aQ,a8,a8,aQ,?_⟩;rw[b,show n-(g++ [(fp.name,eG q)]).length=k from aQ,show e+J+F-(a+s)=e-(a+s)+(J+F)from a8,V0 e J F];cases oe fs k (body.drop (e+(J+F)))with
   |none=>rfl
   |some p=>simp only[vX,Yf,Yd,Ye,Vs,V4,V0]
  have Y:n-g.length=0:=a8;rw[Y,oe]at b;have a2:oe fs n (body.drop (a+s))=some (g,e-(a+s)):=by rw[b];simp[vX]
  rw[a2]at hI;simp only[]at hI;refine gk (k:=fS eD (k:=λs90=>?_));refine app (k:=λE=>?_);rw[show zs.map dgV++ [(d,B)]=(zs++ [(⟨d,B,g⟩:DG)]).map dgV from by simp[dgV]];refine eu (dH.trans (H':=Row B eVl g::Cl dgH zs::Row E eD ((zs++ [(⟨d,B,g⟩:DG)]).map dgV)::Rd bq (body,e)::Row T eI l::Vr R [fv.val]::H) hsb (Hg ⟨d,B,g⟩)) ?_;refine go ?_;refine lN ((i+1,E,zs++ [⟨d,B,g⟩],e)) ?_
  try dsimp only
  refine⟨a8,he,aQ,?_⟩;rw[hI,show(zs++ [(⟨d,B,g⟩:DG)]).map dgD=zs.map dgD++ [(d,g)]from by simp[dgD],Vt,show s+(e-(a+s))=e-a from a8,show a+(e-a)=e from a8];cases nd fs (l.drop (i+1)) (body.drop e)with
  |none=>rfl
  |some p=>simp only[vX,Yf,Yd,Ye,Option.some.injEq,Prod.mk.injEq,true_and];omega
 have Z:i=l.length:=a8;rw[Z,Vi,nd]at hI;have A:nB fs ids body=if a<body.length then none else some (zs.map dgD):=by rw[C,hI];simp[vX]
 refine go ?_;refine wD [4] (λ_ _=>True) (go ?_);refine aS 4 rfl (v1_ (tC ha)) ?_;rintro v _ ⟨rfl,N⟩;refine uB (λ_=>trivial) ?_;refine dS 5 rfl rfl aa rfl (ey ((show Ev G _ _ _ _ (.bool (decide (a=body.length)))from by
  rcases N with⟨z,rfl⟩|⟨z,rfl⟩
  ·exact evq (ny rfl) (congrArg Value.bool (Yr a8).symm)
  ·exact evq (iB rfl) (congrArg Value.bool (Ys a8).symm)))) ?_
 refine gR ?_
 by_cases z:a<body.length
 ·rw[if_pos z]at A;exact⟨_,hsb,.inl ⟨A,u,by rw[show decide (a=body.length)=false from Yr a8];all_goals rfl,rfl⟩⟩
 ·rw[if_neg z]at A;exact⟨_,hsb,.inr ⟨zs,u,A,by rw[show decide (a=body.length)=true from Ys a8];all_goals rfl,rfl⟩⟩
section
variable {R:List nQ}{ds:List Doc}{f k:Nat}{fs:List FV}{vs:List Val}
abbrev iD:=Nat×ByteArray×Nat×Nat
def ji (x:iD):Tri:=(x.1::dC x.2.1,x.2.2)
def ltT (a b:Tri):Prop:=a.1<b.1∨a.1=b.1∧ltP a.2 b.2
instance (a b:Nat×Nat):Decidable (ltP a b):=by unfold ltP;infer_instance
instance (a b:Tri):Decidable (ltT a b):=by unfold ltT;infer_instance
def le4 (a b:iD):Prop:=¬ltT (ji b) (ji a)
theorem Ti {a b c:Nat×Nat}(h:ltP a b) (h':ltP b c):ltP a c:=by unfold ltP at*;omega
theorem Lh {a b c:Tri}(h:ltT a b) (d:ltT b c):ltT a c:=by
 rcases h with h|⟨h1,h2⟩
 ·rcases d with d|⟨h3,_⟩
  ·exact .inl (zw h d)
  ·exact .inl (h3 ▸ h)
 ·rcases d with d|⟨h3,h4⟩
  ·exact .inl (h1 ▸ d)
  ·exact .inr ⟨h1.trans h3,Ti h2 h4⟩
theorem Ph {a:Tri}(h:ltT a a):False:=by
 rcases h with h|⟨_,h⟩
 ·exact ni _ h
 ·unfold ltP at h;omega
theorem Tl {a b:iD}(h:ltT (ji a) (ji b)):le4 a b:=λc=>Ph (Lh h c)
theorem Tk {a b c:iD}(h:le4 a b) (g:le4 b c):le4 a c:=λd=>by
 by_cases hab:ltT (ji a) (ji b)
 ·exact g (Lh d hab)
 ·have e:(ji a).1=(ji b).1:=by
   by_cases e:(ji a).1=(ji b).1
   ·exact e
   ·by_cases l:(ji a).1<(ji b).1
    ·exact absurd (.inl l) hab
    ·exact absurd (.inl (v7 l e)) h
  have i:ji a=ji b:=Prod.ext e (GH (λf=>hab (.inr ⟨e,f⟩)) λf=>h (.inr ⟨e.symm,f⟩));rw[i]at d;exact g d
structure FK (l out av bv:List iD):Prop where
 perm:(out++(av++bv)).Perm l
 up:out.Pairwise le4
 low:∀x∈out,∀y∈av++bv,le4 x y
 ua:av.Pairwise le4
 ub:bv.Pairwise le4
theorem GK {a:iD}{c:List iD}(e:c.Pairwise le4) (d:∀b,c.head? =some b→le4 a b):∀y∈c,le4 a y:=λy hy=>by
 cases c with
 |nil=>cases hy
 |cons b c=>
  rcases Xo.1 hy with rfl|hy
  ·exact d _ rfl
  ·exact Tk (d b rfl) ((Vl.1 e).1 y hy)
theorem FK.left {l out e d:List iD}{a:iD}(h:FK l out (a::e) d) (f:∀b,d.head? =some b→le4 a b):FK l (out++ [a]) e d:=by
 obtain⟨h1,h2⟩:=Vl.1 h.ua;have c:=GK h.ub f;refine⟨by simpa using h.perm,Uj.2 ⟨h.up,Uk ..,λx hx y hy=>?_⟩,λx hx y hy=>?_,h2,h.ub⟩
 ·rw[Vb.1 hy];exact h.low x hx a aq
 ·rcases Xm.1 hx with hx|hx
  ·exact h.low x hx y (by rcases Xm.1 hy with hy|hy <;> simp[hy])
  ·rw[Vb.1 hx];rcases Xm.1 hy with hy|hy
   ·exact h1 y hy
   ·exact c y hy
theorem FK.right {l out c e:List iD}{b:iD}(h:FK l out c (b::e)) (ha:∀a,c.head? =some a→le4 b a):FK l (out++ [b]) c e:=by
 obtain⟨h1,h2⟩:=Vl.1 h.ub;have d:=GK h.ua ha;refine⟨?_,Uj.2 ⟨h.up,Uk ..,λx hx y hy=>?_⟩,λx hx y hy=>?_,h.ua,h2⟩
 ·refine List.Perm.trans ?_ h.perm;rw[Yf];exact List.Perm.append_left _ (by simpa using (List.perm_middle (a:=b) (l₁:=c) (l₂:=e)).symm)
 ·rw[Vb.1 hy];exact h.low x hx b aq
 ·rcases Xm.1 hx with hx|hx
  ·exact h.low x hx y (by rcases Xm.1 hy with hy|hy <;> simp[hy])
  ·rw[Vb.1 hx];rcases Xm.1 hy with hy|hy
   ·exact d y hy
   ·exact h1 y hy
def mz (fs:List FV) (k:Nat) (vs:List Val) (f:Nat):List iD:=(eZ fs f vs).map λt=>(f,eG t.text,k,t.pos)
def lC (fs:List FV) (n k:Nat) (vs:List Val):List iD:=(List.range n).flatMap (mz fs k vs)
def eM (fs:List FV):Nat→List Doc→List iD
 |_, []=>[]
 |k,d::r=>lC fs fs.length k d.2++eM fs (k+1) r
theorem sQ (fs:List FV) (n k:Nat) (vs:List Val):lC fs (n+1) k vs=lC fs n k vs++mz fs k vs n:=by simp[lC,X9]
theorem vL (fs:List FV):∀(l:List Doc) (k:Nat) (d:Doc),eM fs k (l++ [d])=eM fs k l++lC fs fs.length (k+l.length) d.2
 | [],k,d=>by simp[eM]
 |e::l,k,d=>by
  rw[Yd,eM,vL fs l (k+1) d,eM,Yf,Yb,show k+1+l.length=k+(l.length+1)from a8]
theorem Cd {i:Nat}{d:Doc}(h:ds[i]? =some d):eM fs 0 (ds.take (i+1))=eM fs 0 (ds.take i)++lC fs fs.length i d.2:=by
 have hi:=(Yk.1 h).1;rw[dK h,vL,Yg,Ug a8,Vw]
theorem uM (fs:List FV) (k:Nat) (vs:List Val):∀n,(lC fs n k vs).length≤n*vsz vs
 | 0=>by simp[lC]
 |n+1=>by
  have h1:=uM fs k vs n;have h2:=oU fs n vs;rw[sQ,Ya,mz,Yh,Vy];omega
theorem pF (fs:List FV):∀(l:List Doc) (k:Nat),(eM fs k l).length≤fs.length*dsz l
 | [],_=>by simp[eM]
 |d::l,k=>by
  have h1:=pF fs l (k+1);have h2:=uM fs k d.2 fs.length;have h3:dsz (d::l)=vsz d.2+dsz l:=by simp[dsz]
  rw[h3,R7,eM,Ya];omega
theorem HZ (hf:f<256):(mz fs k vs f).map ji=od fs f k vs:=by
 simp only[mz,od,Uo];exact T1 λt _=>by simp only[Function.comp,ji,rR,Xw hf]
theorem uX {g : Nat → List Tri} (key : List Nat) : ∀ n, (∀ f < n, ∀ t ∈ g f, t.1.head? = some f) → ofK ((List.range n).flatMap g) key = match key.head? with
    | some f => if f < n then ofK (g f) key else []
    | none => []
  | 0, _ => by cases key.head? <;> simp [ofK]
  | n + 1, h => by
    rw [X9, S5, wm, uX key n fun f hf => h f a8]
    simp only [Vx, List.flatMap_nil, Ym]
    have hno : key.head? ≠ some n → ofK (g n) key = [] := fun hne => tQ fun hm => by
      obtain ⟨t, ht, rfl⟩ := Xt.1 hm
      exact hne (h n a8 t ht)
    cases hk : key.head? with
    | none => rw [hno (by rw [hk]; simp)]; rfl
    | some f =>
      dsimp only
      by_cases hfn : f = n
      · subst hfn; rw [if_neg a8, if_pos a8, Ye]
      · rw [hno (by rw [hk]; simpa using hfn), Ym]
        by_cases hlt : f < n
        · rw [if_pos hlt, if_pos a8]
        · rw [if_neg hlt, if_neg a8]
theorem yY (hf:f<256):∀t∈od fs f k vs,t.1.head? =some f:=λt a=>by
 obtain⟨u,_,rfl⟩:=Xt.1 a;simp only[rR,Xw hf,List.head?_cons]
theorem yp (hf:f<256):∀(ds:List Doc) (k:Nat),∀t∈gN fs f k ds,t.1.head? =some f
 | [],_,t,h=>by simp[gN]at h
 |d::ds,k,t,h=>by
  rw[gN]at h;rcases Xm.1 h with h|h
  ·exact yY hf t h
  ·exact yp hf ds (k+1) t h
theorem zu:∀n,n≤256→(lC fs n k vs).map ji=(List.range n).flatMap λf=>od fs f k vs
 | 0,_=>rfl
 |n+1,h=>by
  rw[sQ,Xp,zu n a8,HZ a8,X9,S5];simp
theorem xG (hf : fs.length ≤ 256) (key : List Nat): ∀ (ds : List Doc) (k : Nat), ofK ((eM fs k ds).map ji) key = match key.head? with
    | some f => if f < fs.length then ofK (gN fs f k ds) key else []
    | none => []
  | [], _ => by cases key.head? <;> simp [ofK, eM, gN]
  | d :: ds, k => by
    rw [eM, Xp, wm, xG hf key ds (k + 1), zu _ hf, uX key _ fun f hfn => yY a8]
    cases key.head? with
    | none => rfl
    | some f =>
      dsimp only
      by_cases hlt : f < fs.length
      · rw [if_pos hlt, if_pos hlt, if_pos hlt, gN, wm]
      · rw [if_neg hlt, if_neg hlt, if_neg hlt]; rfl
theorem CI (hf:fs.length≤256) (ds:List Doc) (key:List Nat):ofK ((eM fs 0 ds).map ji) key=ofK (fU fs ds) key:=by
 rw[xG hf,fU,uX key _ λf hfn=>yp a8 ds 0]
theorem Wz {out:List iD}(hf:fs.length≤256) (hp:out.Perm (eM fs 0 ds)) (hs:out.Pairwise le4):rn (nO (out.map ji)) (out.map ji)∧∀k,ofK (out.map ji) k=ofK (fU fs ds) k:=by
 refine⟨Iz (by
  rw[Uo];exact U8.2 (hs.imp fun{a b} h h2=>h (.inl h2))),λk=>?_⟩
 rw[←CI hf];have d:(ofK ((eM fs 0 ds).map ji) k).Pairwise ltP:=by rw[CI hf];exact AK fs ds k fs.length hf
 have c:(ofK (out.map ji) k).Perm (ofK ((eM fs 0 ds).map ji) k):=((hp.map ji).filter _).map _;refine List.Perm.eq_of_pairwise (le:=λa b=>¬ltP b a) (λa b _ _ h3 h4=>GH h4 h3) ?_ ?_ c
 ·refine U8.2 ?_;have h5:(out.map ji).Pairwise λa b=>a.1=b.1→¬ltP b.2 a.2:=U8.2 (hs.imp fun{a b} h e h6=>h (.inr ⟨e.symm,h6⟩));refine(List.pairwise_filter.2 (h5.imp fun{a b} h ha hb=>?_));exact h ((Yt ha).trans (Yt hb).symm)
 ·exact d.imp fun{a b} h h3=>by unfold ltP at h h3;omega
theorem I6 {out:List iD}(h:rn R (out.map ji)) (hk:∀k,ofK (out.map ji) k=ofK (fU fs ds) k){e:nQ}(he:e∈R):e.2=jI (ofK (fU fs ds) e.1):=by rw[h.vals e he,hk]
theorem Km {out:List iD}(h:rn R (out.map ji)) (hk:∀k,ofK (out.map ji) k=ofK (fU fs ds) k){k:List Nat}(he:∀e∈R,e.1≠k):jI (ofK (fU fs ds) k)= []:=by
 rw[←hk,tQ λhm=>?_]
 ·rfl
 ·obtain⟨e,h1,h2⟩:=Xt.1 ((h.keys k).2 hm);exact he e h1 h2
end
end Go.Sx
