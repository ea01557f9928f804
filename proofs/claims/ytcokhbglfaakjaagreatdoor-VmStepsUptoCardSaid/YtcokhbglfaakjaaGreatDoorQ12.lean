import Derived.Test.YtcokhbglfaakjaaGreatDoorQ10
import Derived.Shelf.Sort.Plain
import Derived.Shelf.Strings.Fields
import Derived.Ground.Names2Prog
import Derived.Shelf.Slices.CompactI
import Derived.Shelf.Slices.In.SortNone
import Derived.Test.YtcokhbglfaakjaaGreatDoorProg
set_option linter.all false
set_option maxHeartbeats 0
namespace Go.Sx
open Go Go.Proofs
set_option maxRecDepth 100000
def oe (fs:List FV):Nat→List Nat→Option (List Val×Nat)
 | 0,_=>some ([],0)
 |n+1,l=>match iH (fs.length-1) l with
  | .error _=>none
  | .ok (f,m)=>match mq 4096 (l.drop m)with
   | .error _=>none
   | .ok (q,c)=>match oe fs n (l.drop (m+c))with
        |none=>none
        |some (r,e)=>some ((((fs[f]?).map (·.name)).getD ByteArray.empty,eG q)::r,m+c+e)
def nd (fs:List FV):List Int→List Nat→Option (List Doc×Nat)
 | [],_=>some ([],0)
 |d::r,l=>match iH 64 l with
  | .error _=>none
  | .ok (n,m)=>match oe fs n (l.drop m)with
   |none=>none
   |some (vs,c)=>match nd fs r (l.drop (m+c))with
        |none=>none
        |some (ds,e)=>some ((d,vs)::ds,m+c+e)
def nB (fs:List FV) (ids body:List Nat):Option (List Doc):=match gF 4096 ids with
 | .error _=>none
 | .ok (l,m)=>if m<ids.length then none else match nd fs l body with
  |none=>none
  |some (ds,c)=>if c<body.length then none else some ds
def vX {α:Type}(zs:List α) (a:Nat):Option (List α×Nat)→Option (List α×Nat)
 |none=>none
 |some (r,e)=>some (zs++r,a+e)
theorem GW {α:Type}(o:Option (List α×Nat)):vX [] 0 o=o:=by
 cases o with
 |none=>rfl
 |some p=>simp[vX]
structure DG where
 d:Int
 s:SV
 vs:List Val
def dgV (z:DG):Int×SV:=(z.d,z.s)
def dgD (z:DG):Doc:=(z.d,z.vs)
def dgH (z:DG):dD:= [Row z.s eVl z.vs]
theorem Hg {l:List DG}(z:DG) {H:dD}:dH (Row z.s eVl z.vs::Cl dgH l::H) (Cl dgH (l++ [z])::H):=o4 (f:=dgH) z
theorem yr {H R:dD}{zs:List DG}(hr:nR H (Cl dgH zs) R):gK H (zs.map dgV) (zs.map dgD):=by
 refine⟨aq,λi p q hp a=>?_⟩;rw[Xd]at hp a;cases hi:zs[i]? with
 |none=>rw[hi]at hp;cases hp
 |some z=>
  rw[hi]at hp a;obtain rfl:=Xk hp;obtain rfl:=Xk a;exact⟨rfl,show Sl H z.s eVl z.vs from ee (gJ hr (lY (f:=dgH) hi)) (inferInstanceAs (Sl (Row z.s eVl z.vs::_) z.s eVl z.vs))⟩
section
variable {fs:List FV}{α:Type}
theorem C5 {β:Type}(l:List α) (m:List β) (g:α→β→Nat):(l.map λa=>(m.map (g a)).sum).sum=(m.map λb=>(l.map λa=>g a b).sum).sum:=by
 induction l with
 |nil=>simp only[Ud,List.sum_nil];induction m with
  |nil=>rfl
  |cons b m ih=>simp only[Xs,Vv,Vw];exact ih
 |cons a l ih=>
  simp only[Xs,Vv,ih];clear ih
  induction m with
  |nil=>rfl
  |cons b m ih=>simp only[Xs,Vv]at ih⊢;omega
theorem x7 {l:List α}{f g:α→Nat}(h:∀x∈l,f x≤g x):(l.map f).sum≤(l.map g).sum:=by
 induction l with
 |nil=>exact Xl _
 |cons a l ih=>
  have h1:=h a aq;have h2:=ih λx hx=>h x (Xa _ hx);simp only[Xs,Vv];omega
def gv (fs:List FV) (f:Nat) (v:Val):Nat:=match fs[f]? with
 |some p=>if dC v.1=dC p.name then v.2.size+1 else 0
 |none=>0
theorem GZ (p:FV) (vs:List Val):∀i,(gM p vs i).2.length≤((vs.take i).map λv=>if dC v.1=dC p.name then v.2.size+1 else 0).sum
 | 0=>by simp[gM]
 |i+1=>by
  have a:=GZ p vs i;cases hv:vs[i]? with
  |none=>
   have e:gM p vs (i+1)=gM p vs i:=by rw[gM,hv]
   have:vs.take (i+1)=vs.take i:=by rw[Um,hv];simp
   rw[e,this];exact a
  |some v=>
   rw[dK hv,Xp,S3]
   by_cases hn:dC v.1=dC p.name
   ·have h4:=tt p (dC v.2);rw[dI]at h4;rw[wz (b:=(gM p vs i).1) (out:=(gM p vs i).2) rfl hv hn];simp only[Ya,Yh,Xs,Ud,Vv,List.sum_nil,if_pos hn];omega
   ·rw[B6 (b:=(gM p vs i).1) (out:=(gM p vs i).2) rfl hv hn];simp only;omega
theorem IM (fs:List FV) (f:Nat) (vs:List Val):(eZ fs f vs).length≤(vs.map (gv fs f)).sum:=by
 unfold eZ;cases hp:fs[f]? with
 |none=>simp
 |some p=>
  have h:=GZ p vs vs.length;rw[Xn]at h;simp only;have e:(λv:Val=>if dC v.1=dC p.name then v.2.size+1 else 0)=gv fs f:=by funext v;rw[gv,hp]
  rwa [e]at h
theorem GU {v:Val}:∀n,(∀j p,j<n→fs[j]? =some p→dC v.1≠dC p.name)→((List.range n).map λf=>gv fs f v).sum=0
 | 0,_=>rfl
 |n+1,h=>by
  rw[X9,Xp,S3,GU n λj p hj=>h j p a8];simp only[Xs,Ud,Vv,List.sum_nil,gv];cases hp:fs[n]? with
  |none=>rfl
  |some p=>simp only;rw[if_neg (h n p a8 hp)];all_goals rfl
theorem LZ (hd:(fs.map λf=>dC f.name).Nodup) (v:Val):∀n,((List.range n).map λf=>gv fs f v).sum≤v.2.size+1
 | 0=>aq
 |n+1=>by
  have ih:=LZ hd v n;rw[X9,Xp,S3];simp only[Xs,Ud,Vv,List.sum_nil,X6]
  by_cases hg:gv fs n v=0
  ·omega
  ·obtain⟨p,hp,hn⟩:∃p,fs[n]? =some p∧dC v.1=dC p.name:=by
    unfold gv at hg;cases hp:fs[n]? with
    |none=>rw[hp]at hg;exact absurd rfl hg
    |some p=>
     rw[hp]at hg
     by_cases h:dC v.1=dC p.name
     ·exact⟨p,rfl,h⟩
     ·exact absurd (by simp only;rw[if_neg h]) hg
   have hz:=GU (fs:=fs) (v:=v) n λj q hj a he=>by
    have h1:(fs.map λf=>dC f.name)[j]? =some (dC v.1):=by rw[Xd,a,he];all_goals rfl
    have h2:(fs.map λf=>dC f.name)[n]? =some (dC v.1):=by rw[Xd,hp,hn];all_goals rfl
    have h3:=(Yk.1 h2).1;have:=(S1 a8 hd).1 (h1.trans h2.symm);omega
   have hb:gv fs n v≤v.2.size+1:=by rw[gv,hp];simp only;rw[if_pos hn];exact Xl _
   omega
def tsz (ds:List Doc):Nat:=(ds.map λd=>(d.2.map λv=>v.2.size+1).sum).sum
theorem zU (fs:List FV) (f:Nat):∀(ds:List Doc) (k:Nat),(gN fs f k ds).length=(ds.map λd=>(eZ fs f d.2).length).sum
 | [],_=>rfl
 |d::ds,k=>by
  rw[gN,Ya,zU fs f ds (k+1)];simp[od]
theorem DT (hc:iK fs=true) (ds:List Doc):(fU fs ds).length≤tsz ds:=by
 have hd:=(th fs [] (by simp only[iK,Xu]at hc;exact hc.2)).2;have h1:(fU fs ds).length=((List.range fs.length).map λf=>(ds.map λd=>(eZ fs f d.2).length).sum).sum:=by
  rw[fU,List.length_flatMap];congr 1;exact T1 λf _=>zU fs f ds 0
 rw[h1,C5];refine x7 λd _=>?_;have h2:((List.range fs.length).map λf=>(eZ fs f d.2).length).sum≤((List.range fs.length).map λf=>(d.2.map (gv fs f)).sum).sum:=x7 λf _=>IM fs f d.2;rw[C5]at h2;exact Xi h2 (x7 λv _=>LZ hd v _)
end
section
variable {bl:List (Nat×List Nat)}
theorem a0e {xs:List Nat}(d:∀x∈xs,x<256) (h:mC 83 xs=some bl):∀q∈bl,(∀x∈q.2,x<256)∧q.2.length≤xs.length:=by
 obtain⟨c,_,b⟩:=Ew d h;have h1:=congrArg List.length c;rw[xZ]at h1;exact λq a=>⟨(b q a).2,by have:=uj a;omega⟩
theorem sy.at6 {F:dD}{l:List (Nat×SV)}(h:sy F l bl){i:Nat}(hi:i<bl.length):∃(p:Nat×SV) (q:Nat×List Nat),l[i]? =some p∧bl[i]? =some q∧Sl F p.2 eB q.2:=by
 obtain⟨p,hp⟩:∃p,l[i]? =some p:=⟨_,Yi (by rw[h.1];exact hi)⟩;obtain⟨q,a⟩:∃q,bl[i]? =some q:=⟨_,Yi hi⟩;exact⟨p,q,hp,a,(h.2 i p q hp a).2⟩
end
open Tryz
theorem Wi {G:dJ}{H:dD}{fv si sb:SV}{fs:List FV}{ids body:List Nat} [hg:Glb G H] [hf:Sl H fv eF fs] [hsi:Sl H si eB ids] [hsc:Sl H sb eB body] (hc:iK fs=true) (hn:ids.length≤100000000) (hm:body.length≤100000000) (M:∀x∈ids,x<256) (r:∀x∈body,x<256):
 SC G prog 117 [.agg #[fv.val],si.val,sb.val] H (λv H'=>(nB fs ids body=none∧∃L:SV,v=.tuple #[L.val,.bool false]∧H'=H)∨(∃(zs:List DG) (L:SV),nB fs ids body=some (zs.map dgD)∧v=.tuple #[L.val,.bool true]∧H'=Row L eD (zs.map dgV)::Cl dgH zs::H)):=by
 obtain⟨hc1,hc2⟩:=jx hc;refine sWk func117 ?_;refine gk (k:=bxx (k:=λR=>?_));refine go ?_;refine c1_ rfl (l3 a8) ?_;rintro _ _ ⟨br,rfl,rfl⟩;refine go ?_;refine c2_ rfl (OB (k:=0) (most:=4096) (Yl _) a8 M ae) ?_;rintro _ _ N;rw[Va]at N;rcases N with⟨e,hr,rfl,rfl⟩|⟨l,m,T,hr,rfl,rfl⟩
 all_goals try rw[Vw]
 ·have C:nB fs ids body=none:=by rw[nB,hr]
  refine e_ mv (e_ exr (e_ exr (e_ asn (e_ asn (on_ (qn_ (ws_ (ws_ (wr_ (e_ mv ?_))))))))));refine e_ (eg rfl) ?_;refine gk (k:=ift (k:=go ?_));refine gR ?_;exact⟨_,hsb,.inl ⟨C,SV.nil,rfl,rfl⟩⟩
 obtain⟨g1,g2,g3,g4,g5⟩:=yN M hr;have hll:l.length≤4096:=by
  rw[gF]at hr
  split at hr
  ·cases hr
  ·rename_i n0 m0 V
   split at hr
   ·cases hr
   ·rename_i r0 m1 U;obtain⟨h,_⟩:=(by simpa using hr:r0=l∧m0+m1=m);obtain⟨k1,_⟩:=lL M V;obtain⟨k2,_⟩:=sT _ _ _ _ _ (λx hx=>M x (Yp hx)) (T8 _) U;rw[←h];omega
 refine e_ mv (e_ exr (e_ exr (e_ asn (e_ asn (on_ (qn_ (ws_ (ws_ (wr_ (e_ mv ?_))))))))));refine e_ (dL rfl) (go ?_);refine sg_ (v1_ (tC g1)) (k:=?_);rintro _ _ ⟨rfl,(⟨X,rfl⟩|⟨X,rfl⟩)⟩
 ·have C:nB fs ids body=none:=by rw[nB,hr];simp only[];rw[if_pos a8]
  refine eg_ (eg rfl) ?_;refine gk (k:=ift (k:=gR ?_));exact⟨_,hsb,.inl ⟨C,SV.nil,rfl,rfl⟩⟩
 have C:nB fs ids body=match nd fs l body with
  |none=>none
  |some (ds,c)=>if c<body.length then none else some ds:=by
  rw[nB,hr];simp only[];rw[if_neg a8];all_goals (cases nd fs l body <;> rfl)
 refine eg_ (dL rfl) ?_;refine gk (k:=fM (k:=go ?_));refine c1_ rfl (l3 (xs:=body) a8) ?_;rintro _ _ ⟨bq,rfl,rfl⟩;refine e_ asn (on_ (qn_ (ws_ (wr_ (e_ asn (on_ (qn_ (ws_ (ws_ (wr_ ?_))))))))));refine eu (dH.nilRow (e:=eD) (ga (f:=dgH) dH.refl)) ?_;rw[show Row SV.nil eD ([]:List (Int×SV))=Row SV.nil eD (([]:List DG).map dgV)from rfl];refine gk (k:=e8 (Nat×SV×(List DG)×Nat) (λy=>y.1≤l.length∧y.2.2.2≤body.length∧y.2.2.1.length=y.1∧nd fs l body=vX (y.2.2.1.map dgD) y.2.2.2 (nd fs (l.drop y.1) (body.drop y.2.2.2))) (λy=>[(11,y.2.1.val),(40,iN y.1)]) [(3,_),(8,_),(38,_),(39,_)] (λy=>[Row y.2.1 eD (y.2.2.1.map dgV),Cl dgH y.2.2.1,Rd bq (body,y.2.2.2)]) (Row T eI l::Vr R [fv.val]::H) (λy=>l.length-y.1) ((0,SV.nil, [],0)) (h0:=?_) (k:=?_))
 ·try dsimp only
  exact⟨Yl _,Yl _,rfl,by rw[Va,Va];exact(GW _).symm⟩
 rintro⟨i,u,zs,a⟩ ⟨hi,ha,hzl,hI⟩
 try dsimp only[Yd,Ye]at*
 refine gW (λh1=>?_) λh1=>?_
 ·obtain⟨d,a1⟩:=gE l i;have hzm:(zs.map dgV).length=zs.length:=Yh ..;rw[eh a1,nd]at hI;refine wk_ (qn_ (ws_ (wb_ (ws_ (wr_ (e_ ixa (e_ lel (e_ asn (on_ (qn_ (ws_ (wr_ (e_ mv ?_)))))))))))));refine e_ (bld [(0,_)]) (alc (k:=λK=>?_));refine go ?_;refine c2_ rfl (Cv (most:=64) ha a8 r ae) ?_;rintro _ _ (⟨e,h,rfl,rfl⟩|⟨n,s,h,rfl,rfl⟩)
  ·rw[h]at hI;refine e_ mv (e_ exr (e_ exr (e_ asn (e_ asn (on_ (qn_ (ws_ (ws_ (wr_ (e_ mv ?_))))))))));refine e_ (eg rfl) ?_;refine gk (k:=ift (k:=go ?_));refine gR ?_;exact⟨_,hsb,.inl ⟨by rw[C,hI];all_goals rfl,SV.nil,rfl,rfl⟩⟩
  rw[h]at hI;simp only[]at hI;obtain⟨q1,q2,q3,q4⟩:=lL (λx hx=>r x (Yp hx)) h;rw[Yo]at q2;rw[Vt]at hI;refine e_ mv (e_ exr (e_ exr (e_ asn (e_ asn (on_ (qn_ (ws_ (ws_ (wr_ (e_ mv ?_))))))))));refine e_ (dL rfl) ?_;refine gk (k:=fM (k:=go ?_));refine gk (k:=e8 (SV×(List Val)×Nat×Nat) (λy=>y.2.2.2=y.2.1.length∧y.2.2.1≤body.length∧a+s≤y.2.2.1∧y.2.1.length≤n∧oe fs n (body.drop (a+s))=vX y.2.1 (y.2.2.1-(a+s)) (oe fs (n-y.2.1.length) (body.drop y.2.2.1))) (λy=>[(54,iN y.2.2.2)]) [(3,_),(8,_),(11,_),(14,_),(38,_),(39,_),(40,_),(53,_)] (λy=>[Vr K [.int .i64 d,y.1.val],Row y.1 eVl y.2.1,Rd bq (body,y.2.2.1)]) (Row u eD (zs.map dgV)::Cl dgH zs::Row T eI l::Vr R [fv.val]::H) (λy=>n-y.2.1.length) ((SV.nil, [],a+s,0)) (h0:=?_) (k:=?_))
  ·try dsimp only
   exact⟨rfl,a8,Xl _,Yl _,by rw[Ui,Yc,R8];exact(GW _).symm⟩
  rintro⟨B,g,e,j⟩ ⟨hjv,he,hae,hvl,b⟩
  try dsimp only[Yd,Ye]at*
  refine gW (λh2=>?_) λh2=>?_
  ·obtain⟨k,hk⟩:∃k,n-g.length=k+1:=⟨n-g.length-1,a8⟩;rw[hk,oe]at b;refine wk_ (qn_ (ws_ (wb_ (ws_ (wr_ (e_ mv (e_ fla (e_ ldv (e_ lnn ?_)))))))));refine e_ (evq isb (congrArg (Value.int .i64) (by omega:(fs.length:Int)-1=((fs.length-1:Nat):Int)))) ?_;refine c2_ rfl (Cv (most:=fs.length-1) he a8 r a8) ?_;rintro _ _ (⟨e9,w,rfl,rfl⟩|⟨f,J,w,rfl,rfl⟩)
   ·rw[w]at b;simp only[]at b;refine e_ mv (e_ exr (e_ exr (e_ asn (e_ asn (on_ (qn_ (ws_ (ws_ (wr_ (e_ mv ?_))))))))));refine e_ (eg rfl) ?_;refine gk (k:=ift (k:=go ?_));refine gR ?_;exact⟨_,hsb,.inl ⟨by rw[C,hI,b];all_goals rfl,SV.nil,rfl,rfl⟩⟩
   rw[w]at b;simp only[]at b;obtain⟨p1,p2,p3,p4⟩:=lL (λx hx=>r x (Yp hx)) w;rw[Yo]at p2;rw[Vt]at b;refine e_ mv (e_ exr (e_ exr (e_ asn (e_ asn (on_ (qn_ (ws_ (ws_ (wr_ (e_ mv ?_))))))))));refine e_ (dL rfl) ?_;refine gk (k:=fM (k:=go ?_));refine c2_ rfl (QR (most:=4096) a8 a8 r ae) ?_;rintro _ _ (⟨e9,t,rfl,rfl⟩|⟨q,F,t,rfl,rfl⟩)
   ·rw[t]at b;simp only[]at b;refine e_ mv (e_ exr (e_ exr (e_ asn (e_ asn (on_ (qn_ (ws_ (ws_ (wr_ (e_ mv ?_))))))))));refine e_ (eg rfl) ?_;refine gk (k:=ift (k:=go ?_));refine gR ?_;exact⟨_,hsb,.inl ⟨by rw[C,hI,b];all_goals rfl,SV.nil,rfl,rfl⟩⟩
   rw[t]at b;simp only[]at b;obtain⟨r1,r2,r3,r4⟩:=I8 (λx hx=>r x (Yp hx)) t;rw[Yo]at r1;obtain⟨fp,a0⟩:=gE fs f;rw[Vt,a0]at b;refine e_ mv (e_ exr (e_ exr (e_ asn (e_ asn (on_ (qn_ (ws_ (ws_ (wr_ (e_ mv ?_))))))))));refine e_ (dL rfl) ?_;refine gk (k:=fM (k:=go ?_));refine wD [10,11,13] (λk H=>(k=1→dQ H K [.int .i64 d,B.val])∧(k=3→dQ H R [fv.val])∧(k=5→Sl H fv eF fs)∧(k=6→Sl H fv eF fs)∧(k=7→Sl H fv eF fs)) (aF 0 (k:=?_));refine aN 1 rfl (λH hH=>ah) ?_;refine aF 2 (k:=?_);refine aN 3 rfl (λH hH=>ar) ?_;refine aF 4 (k:=?_);refine aN 5 rfl (λH hH=>aG) ?_;refine aN 6 rfl (λH hH=>by have hN:=hH.2.2.2.1 rfl;exact fle) ?_;refine aN 7 rfl (λH hH=>by have hN:=hH.2.2.2.2 rfl;exact lfl) ?_;refine aF 8 (k:=af_ 9 (q:=ea λH hH=>bld [(0,_),(1,_)]) (k:=?_));refine aS 10 rfl (fK eVl rfl rfl) ?_;rintro _ _ ⟨s84,rfl,rfl⟩;refine aS 11 rfl (gf rfl rfl rfl rfl ab ab) ?_;rintro _ _ ⟨S,rfl,rfl⟩;refine go ?_;refine aS 13 rfl (ej rfl rfl rfl) ?_;rintro _ _ ⟨rfl,rfl⟩;refine aZ (go ?_);refine ln_ ((S,g++ [(fp.name,eG q)],e+J+F,j+1)) (h2:=?_) (k:=?_)
   ·try dsimp only
    simp;omega
   try dsimp only
   refine⟨aQ,a8,a8,aQ,?_⟩;rw[b,show n-(g++ [(fp.name,eG q)]).length=k from aQ,show e+J+F-(a+s)=e-(a+s)+(J+F)from a8,V0 e J F];cases oe fs k (body.drop (e+(J+F)))with
   |none=>rfl
   |some p=>simp only[vX,Yf,Yd,Ye,Vs,V4,V0]
  have Y:n-g.length=0:=a8;rw[Y,oe]at b;have a2:oe fs n (body.drop (a+s))=some (g,e-(a+s)):=by rw[b];simp[vX]
  rw[a2]at hI;simp only[]at hI;refine gk (k:=fS eD (k:=λs90=>?_));refine app (k:=λE=>?_);rw[show zs.map dgV++ [(d,B)]=(zs++ [(⟨d,B,g⟩:DG)]).map dgV from by simp[dgV]];refine eu (dH.trans (H':=Row B eVl g::Cl dgH zs::Row E eD ((zs++ [(⟨d,B,g⟩:DG)]).map dgV)::Rd bq (body,e)::Row T eI l::Vr R [fv.val]::H) hsb (Hg ⟨d,B,g⟩)) ?_;refine go ?_;refine lN ((i+1,E,zs++ [⟨d,B,g⟩],e)) ?_
  try dsimp only
  refine⟨a8,he,aQ,?_⟩;rw[hI,show(zs++ [(⟨d,B,g⟩:DG)]).map dgD=zs.map dgD++ [(d,g)]from by simp[dgD],Vt,show s+(e-(a+s))=e-a from a8,show a+(e-a)=e from a8];cases nd fs (l.drop (i+1)) (body.drop e)with
  |none=>rfl
  |some p=>simp only[vX,Yf,Yd,Ye,Option.some.injEq,Prod.mk.injEq,true_and];omega
 have Z:i=l.length:=a8;rw[Z,Vi,nd]at hI;have A:nB fs ids body=if a<body.length then none else some (zs.map dgD):=by rw[C,hI];simp[vX]
 refine go ?_;refine wD [4] (λ_ _=>True) (go ?_);refine aS 4 rfl (v1_ (tC ha)) ?_;rintro v _ ⟨rfl,N⟩;refine uB (λ_=>trivial) ?_;refine dS 5 rfl rfl aa rfl (ey ((show Ev G _ _ _ _ (.bool (decide (a=body.length)))from by
  rcases N with⟨z,rfl⟩|⟨z,rfl⟩
  ·exact evq (ny rfl) (congrArg Value.bool (Yr a8).symm)
  ·exact evq (iB rfl) (congrArg Value.bool (Ys a8).symm)))) ?_
 refine gR ?_
 by_cases z:a<body.length
 ·rw[if_pos z]at A;exact⟨_,hsb,.inl ⟨A,u,by rw[show decide (a=body.length)=false from Yr a8];all_goals rfl,rfl⟩⟩
 ·rw[if_neg z]at A;exact⟨_,hsb,.inr ⟨zs,u,A,by rw[show decide (a=body.length)=true from Ys a8];all_goals rfl,rfl⟩⟩
section
variable {fs:List FV}
theorem yX (c:fs.length≤16):∀(vs:List Val) (r:List Nat),(∀v∈vs,v.2.size≤4096∧∃k,ig fs (dC v.1)=some k)→oe fs vs.length (vs.flatMap (gD fs)++r)=some (vs,(vs.flatMap (gD fs)).length)
 | [],r,_=>rfl
 |v::vs,r,h=>by
  obtain⟨h1,k,hk⟩:=h v aq;have d:=yX c vs r λx hx=>h x (Xa _ hx);have hk2:=hk;unfold ig at hk2;rw[List.findIdx?_eq_some_iff_getElem]at hk2;obtain⟨b,hp,_⟩:=hk2;have hn:(((fs[k]?).map (·.name)).getD ByteArray.empty)=v.1:=by
   rw[Yi b];exact jy.1 (Yt hp)
  have a:=dI v.2;have e:(v::vs).flatMap (gD fs)++r=uv k++(uv (dC v.2).length++dC v.2++(vs.flatMap (gD fs)++r)):=by
   rw[Vx,gD,hk,V4,a];simp only[Yf]
  have f:((v::vs).flatMap (gD fs)).length=(uv k).length+((uv (dC v.2).length).length+(dC v.2).length)+(vs.flatMap (gD fs)).length:=by
   rw[Vx,gD,hk,V4,a];simp only[Ya,a];(try omega)
  rw[e,Yb,oe,gw _ a8 a8];simp only[];rw[Vg,zh _ a8 a8];simp only[];rw[←Vt,Vg,←Ya,Vg,d,jW,hn,f];simp only[Ya]
theorem zS (a:fs.length≤16):∀(ds:List Doc) (r:List Nat),(∀d∈ds,jv fs d.2=0)→nd fs (ds.map (·.1)) (gm fs ds++r)=some (ds,(gm fs ds).length)
 | [],r,_=>rfl
 |d::ds,r,h=>by
  obtain⟨h1,h2⟩:=np (h d aq);have b:=zS a ds r λx hx=>h x (Xa _ hx);have e:gm fs (d::ds)++r=uv d.2.length++(d.2.flatMap (gD fs)++(gm fs ds++r)):=by
   simp only[gm,Vx,tx,Yf]
  have c:(gm fs (d::ds)).length=(uv d.2.length).length+(d.2.flatMap (gD fs)).length+(gm fs ds).length:=by
   simp only[gm,Vx,tx,Ya]
  rw[e,Xs,nd,gw _ a8 a8];simp only[];rw[Vg,yX a _ _ h2];simp only[];rw[←Vt,Vg,Vg,b,c]
theorem Dt {ds:List Doc}(h:mg fs ds):nB fs (pU ds) (gm fs ds)=some ds:=by
 have a:=h.few;have h1:=Cu (l:=ds.map (·.1)) h.pos h.up (λx hx=>bU) bV;rw[Yh]at h1;have h2:gF 4096 (pU ds)=.ok (ds.map (·.1),(pU ds).length):=by
  unfold gF at h1⊢;unfold pU;rw[gw _ a8 (by have:=pK (ds.map (·.1)) (-1);rw[Yh]at this;simp only[Ya];omega)]at h1;rw[gw _ a8 a];exact h1
 have h3:=zS h.flen ds [] h.vals;rw[Ym]at h3;rw[nB,h2];simp only[];rw[if_neg a8,h3];simp only[];rw[if_neg a8]
end
section
variable {G:dJ}{H:dD}{fs:List FV}{lp:List (SV×SV)}
def nY (fs:List FV) (ds:List Doc):Bool:=decide (ds.length≤4096)&&decide (o6 fs (-1) ds=0)
abbrev km:=List Doc×List Int
def vn (fs:List FV) (ps:List km):Bool:=iK fs&&ps.all λp=>nY fs p.1
theorem H3 {ps:List km}(h:vn fs ps=true){p:km}(hp:p∈ps):sg fs p.1=0:=by
 rw[vn,Xu,X5]at h;have h2:=h.2 p hp;rw[nY,Xu,Xq,Xq]at h2;rw[sg,h.1,if_neg ae,if_neg a8];exact h2.2
def XB (H:dD) (p:SV×SV) (d:km):Prop:=(∃l,Sl H p.1 eD l∧gK H l d.1)∧Sl H p.2 eI d.2
def rm (H:dD) (lp:List (SV×SV)) (ps:List km):Prop:=lp.length=ps.length∧∀(i:Nat) (p:SV×SV) (d:km),lp[i]? =some p→ps[i]? =some d→XB H p d
theorem rm.get {ps:List km}(h:rm H lp ps){i:Nat}(hi:i<lp.length):∃p d l,lp[i]? =some p∧ps[i]? =some d∧Sl H p.1 eD l∧gK H l d.1∧Sl H p.2 eI d.2:=by
 have h1:lp[i]? =some lp[i]:=Yi hi;have h2:ps[i]? =some (ps[i]'(by have:=h.1;omega)):=Yi _;obtain⟨⟨l,h3,h4⟩,h5⟩:=h.2 i _ _ h1 h2;exact⟨_,_,l,h1,h2,h3,h4,h5⟩
theorem rm.less {H':dD}{ps:List km}(hs:dH H' H) (h:rm H lp ps):rm H' lp ps:=⟨h.1,λi p d hp hd=>by
 obtain⟨⟨l,h1,h2⟩,h3⟩:=h.2 i p d hp hd;exact⟨⟨l,ee hs h1,h2.less hs⟩,ee hs h3⟩⟩
structure SmD (fs:List FV) (ds:List Doc):Prop where
 fl:fs.length≤1000000
 fn:∀f∈fs,f.name.size≤1000000000
 n:ds.length≤1000000000
 q:∀d∈ds,d.2.length≤1000000000∧∀v∈d.2,v.2.size≤1000000000
theorem Sb {fv dv:SV}{l:List (Int×SV)}{ds:List Doc} [hf:Sl H fv eF fs] [hd:Sl H dv eD l] (f:gK H l ds) (hsm:SmD fs ds):SC G prog 45 [.agg #[fv.val],dv.val] H (λv r=>v=.bool (nY fs ds)∧r=H):=by
 have hll:=f.1;have hn:=hsm.n;refine sWk func45 ?_;refine gk (k:=bxx (k:=λb2=>?_));refine gW (λh1=>?_) λh1=>?_
 ·have hbad:nY fs ds=false:=by rw[nY,Yr ao,Vk]
  refine gR ?_;exact⟨_,hsb,cE,rfl⟩
 have b:nY fs ds=decide (o6 fs (-1) ds=0):=by rw[nY,Ys ao,Xv]
 refine go ?_;refine gk (k:=e8 (Nat×Int) (λy=>y.1≤ds.length∧ -1≤y.2∧(o6 fs (-1) ds=0↔o6 fs y.2 (ds.drop y.1)=0)) (λy=>[(5,.int .i64 y.2),(14,iN y.1)]) [(2,_),(12,_),(13,_)] (λy=>[]) _ (λy=>ds.length-y.1) ((0, -1)) (h0:=?_) (k:=?_))
 ·exact⟨Yl _,ae,Iff.rfl⟩
 rintro⟨i,n⟩ ⟨hi,hla,a⟩
 try dsimp only[Yd,Ye]at*
 refine gW (λh2=>?_) λh2=>?_
 ·obtain⟨d,sv,j,hl,e,hsv⟩:=f.get (i:=i) a8;have g:=hsm.q _ (Yj e);rw[eh e,o6]at a;simp only at a g;refine wk_ (qn_ (ws_ (wb_ (ws_ (wr_ (e_ ixa (e_ (gr (hy:=hl)) (alc (k:=λb7=>?_)))))))));refine gk (k:=ep 4 26 (k:=λh3=>gk (k:=edq)) (q:=go ?_));refine wi_ (k:=λh4=>?_) (m:=λh4=>?_)
  ·have hbad:nY fs ds=false:=by
    rw[b,Yr];intro h8;have c:=a.1 h8;have h9:=h4
    split at c
    ·cases c
    ·split at c
     ·cases c
     ·omega
   refine gR ?_;exact⟨_,hsb,cE,rfl⟩
  have hin:n<d∧d<1099511627776:=aJ;rw[if_neg a8,if_neg a8]at a;refine go ?_;refine d2_ rfl (WV hsm.fl hsm.fn g.1 g.2) (gW (λh5=>?_) (λh5=>?_))
  ·have hbad:nY fs ds=false:=by
    rw[b,Yr];intro h8;have c:=a.1 h8;have h9:=h5
    split at c
    ·rename_i h6;rw[h6]at h9;exact h9 rfl
    ·omega
   refine gR ?_;exact⟨_,hsb,cE,rfl⟩
  have p:jv fs j=0:=aW;rw[if_pos p]at a;refine go ?_;refine lN ((i+1,d)) ?_
  exact⟨a8,a8,a⟩
 obtain rfl:i=ds.length:=a8;rw[Vi,o6]at a;have h:nY fs ds=true:=by rw[b,Ys (a.2 rfl)]
 refine gR ?_;exact⟨_,hsb,by rw[h];all_goals rfl,rfl⟩
theorem Zp {fv pv:SV}{ps:List km} [hf:Sl H fv eF fs] [hd:Sl H pv eP lp] (b:rm H lp ps) (hpl:ps.length≤1000000000) (hsm:∀p∈ps,SmD fs p.1) (hfl:fs.length≤1000000) (h:∀f∈fs,f.name.size≤1000000000):SC G prog 18 [.agg #[fv.val,pv.val]] H (λv q=>v=.bool (vn fs ps)∧q=H):=by
 have hll:=b.1;refine sWk func18 ?_;refine gk (k:=bxx (k:=λb1=>?_));refine go ?_;refine c1_ rfl (zg (fs:=fs) a8 (λf hf=>by have:=h f hf;omega)) ?_;rintro _ _ ⟨c,rfl,hc,rfl⟩;refine gW (λh1=>?_) λh1=>?_
 ·have hbad:vn fs ps=false:=by
   have h9:=h1;rcases hc with⟨h8,_⟩|⟨_,h8⟩
   ·rw[vn,h8,Vk]
   ·exact absurd h8 h9
  refine gR ?_;exact⟨_,hsb,cE,rfl⟩
 have j:iK fs=true:=by
  have h9:=h1;rcases hc with⟨_,h8⟩|⟨h8,_⟩
  ·exact absurd h8 a8
  ·exact h8
 have g:vn fs ps=ps.all λp=>nY fs p.1:=by rw[vn,j,Xv]
 refine gk (k:=e8 Nat (λy=>y≤ps.length∧vn fs ps=(ps.drop y).all λp=>nY fs p.1) (λy=>[(14,iN y)]) [(1,_),(12,_),(13,_)] (λy=>[]) _ (λy=>ps.length-y) (0) (h0:=?_) (k:=?_))
 ·exact⟨Yl _,g⟩
 rintro i ⟨hi,a⟩
 try dsimp only[Yd,Ye]at*
 refine gW (λh2=>?_) λh2=>?_
 ·obtain⟨p,d,l,hp,e,g1,n,g3⟩:=b.get (i:=i) a8;have m:=hsm _ (Yj e);rw[eh e,List.all_cons]at a;refine wk_ (qn_ (ws_ (wb_ (ws_ (wr_ (e_ ixa (e_ (gr (hy:=hp)) (alc (k:=λb5=>?_)))))))));refine go ?_;refine d2_ rfl (Sb (ds:=d.1) (n.less hsb) m) (gW (λh3=>?_) (λh3=>?_))
  ·have hbad:vn fs ps=false:=by rw[a,show nY fs d.1=false from da,Vk]
   refine gR ?_;exact⟨_,hsb,cE,rfl⟩
  rw[show nY fs d.1=true from da,Xv]at a;refine go ?_;refine lN (i+1) ?_
  exact⟨a8,a⟩
 obtain rfl:i=ps.length:=a8;rw[Vi,List.all_nil]at a;refine gR ?_;exact⟨_,hsb,by rw[a];all_goals rfl,rfl⟩
end
section
variable {c:CuS}{cs:List CuS}{d:Int}{pss:List (List Po)}
def fdC (ps:List Po) (d:Int):Nat:=nP ps 0 d
def Beh (c:CuS) (d:Int):Prop:=c.u≤fdC c.ps d+1
theorem Beh.up {e:Int}(h:Beh c d) (hde:d≤e):Beh c e:=by
 obtain⟨a1,a2,a3,b⟩:=ya (ps:=c.ps) (u:=0) (t:=e) (Yl _);obtain⟨b1,b2,a,b4⟩:=ya (ps:=c.ps) (u:=0) (t:=d) (Yl _);have hb:c.u≤nP c.ps 0 d+1:=h;show c.u≤nP c.ps 0 e+1
 by_cases hlt:nP c.ps 0 e<nP c.ps 0 d
 ·have hl:nP c.ps 0 e<c.ps.length:=by omega
  have hp:=Yi hl;have h3:=a _ _ (Yl _) hlt hp;have h4:=b _ hp;omega
 ·omega
structure yU (pss:List (List Po)) (cs:List CuS) (d:Int):Prop where
 same:cs.map (·.ps)=pss
 beh:∀c∈cs,Beh c d
theorem yU.up {e:Int}(h:yU pss cs d) (a:d≤e):yU pss cs e:=⟨h.same,λc hc=>(h.beh c hc).up a⟩
theorem yU.start:yU pss (mn pss).cs d:=by
 refine⟨by simp[mn,Uo,Function.comp_def],λc hc=>?_⟩;obtain⟨ps,_,rfl⟩:=Xt.1 hc;exact Yl _
theorem yU.get (h:yU pss cs d) (k:Nat):Beh (cs.getD k fo) d:=by
 rw[Xj];cases hk:cs[k]? with
 |none=>exact Yl _
 |some c=>exact h.beh c (Yj hk)
theorem yU.set (h:yU pss cs d){k:Nat}(hp:c.ps=(cs.getD k fo).ps) (hc:Beh c d):yU pss (cs.set k c) d:=by
 refine⟨?_,λx hx=>?_⟩
 ·rw[←h.same,R9];refine Vz λj=>?_;rw[Vf]
  by_cases e:k=j
  ·subst e;rw[if_pos rfl,Yh]
   by_cases hk:k<cs.length
   ·rw[if_pos hk,Xd,hp,Xj,Yi hk];all_goals rfl
   ·rw[if_neg hk,Xd,Xz a8];all_goals rfl
  ·rw[if_neg e]
 ·rcases R6 hx with hx|rfl
  ·exact h.beh x hx
  ·exact hc
end
section
variable {G:dJ}{H:dD}{c:CuS}{ps:List Po}{s:SV}
abbrev rcV (s:SV) (c:CuS):List Value:= [s.val,.int .i64 (((c.u:Nat):Int)-1),.int .i64 ((c.mv:Nat):Int),.bool c.told]
def eRc:Enc (SV×CuS):=⟨λp=>rcV p.1 p.2,4,true,λ_=>rfl,λp v h=>by simp at h;rcases h with rfl|rfl|rfl|rfl <;> rfl,ae,λh=>aK,ae⟩
instance {p:SV×CuS}:kV eRc p (.agg (rcV p.1 p.2).toArray):=⟨rfl⟩
instance {s:SV}{c:CuS}:gP eRc (.agg (rcV s c).toArray) (s,c):=⟨rfl⟩
def gV (H:dD) (s:SV) (ps:List Po):Prop:=∃l,Sl H s ePo l∧su H l ps
theorem gV.less {H':dD}(hs:dH H' H) (h:gV H s ps):gV H' s ps:=by
 obtain⟨l,h1,h2,h3⟩:=h;exact⟨l,ee hs h1,h2,λi p q hp a=>⟨(h3 i p q hp a).1,ee hs (h3 i p q hp a).2⟩⟩
theorem WJ {s:SV}{c:CuS}{q:Nat}:rcV s (goC c q)= [s.val,.int .i64 ((q:Nat):Int),.int .i64 (((c.mv:Nat):Int)+((mvG c.ps.length c.u q:Nat):Int)),.bool false]:=by
 have h1:(((q+1:Nat)):Int)-1=((q:Nat):Int):=a8
 have h2:((c.mv+mvG c.ps.length c.u q:Nat):Int)=((c.mv:Nat):Int)+((mvG c.ps.length c.u q:Nat):Int):=a8
 show [s.val,.int .i64 (((q+1:Nat):Int)-1),.int .i64 ((c.mv+mvG c.ps.length c.u q:Nat):Int),.bool false]=_
 rw[h1,h2]
theorem SO:SC G prog 35 [s.val] H (λv a=>v=.agg (rcV s ⟨ps,0,0,false⟩).toArray∧a=H):=by
 refine sWk func35 ?_;refine gk (k:=alc (k:=λb2=>?_));refine on_ (qn_ (ws_ (wr_ (e_ mv (e_ (bld [(0,_),(1,_)]) (gR ?_))))));exact⟨_,hsb,rfl,rfl⟩
theorem Cy (hp:gV H s c.ps) (h:c.u≤c.ps.length+1) (hn:c.ps.length≤1000000000):SC G prog 104 [.agg (rcV s c).toArray] H (λv j=>v=.int .i64 (gz c.ps c.u)∧j=H):=by
 obtain⟨l,g,a⟩:=hp;have hpl:=a.1;obtain⟨ps,u,mv,told⟩:=c;simp only at g a hpl h hn;dsimp only[rcV];refine sWk func104 ?_;refine gk (k:=bxx (k:=λb1=>?_));refine gW (λh1=>?_) λh1=>?_
 ·obtain rfl:u=0:=by have h9:=h1;omega
  exact gZ
 obtain⟨k,rfl⟩:∃k,u=k+1:=⟨u-1,ao⟩;refine gW (λh2=>?_) λh2=>?_
 ·obtain rfl:k=ps.length:=by have h9:=h2;omega
  refine gR ?_;exact⟨_,hsb,by rw[yq];all_goals rfl,rfl⟩
 obtain⟨sp,pos,e,b,hsq⟩:=a.get (i:=k) aw;have f:=Hf b;generalize (ps.getD k (0, [])).1=d at e b f;refine wk_ (qn_ (ws_ (wr_ (e_ fla (e_ ldv (e_ fla (e_ ldv (e_ (ixa (i:=k) (hj:=by omega)) (e_ fle (e_ (lfl (hy:=e)) (go ?_)))))))))));refine gR ?_;exact⟨_,hsb,by rw[f];all_goals rfl,rfl⟩
theorem WY {u q n:Nat}(hu:u≤q) (hq:q≤n) (hn:n≤1000000000):SC G prog 240 [.int .i64 (((u:Nat):Int)-1),iN q,iN n] H (λv b=>v=iN (mvG n u q)∧b=H):=by
 refine sWk func240 ?_;refine ws_ (wr_ (e_ asn (on_ (qn_ (ws_ (wr_ (e_ mv ?_)))))));refine e_ (evq iad (congrArg (Value.int .i64) (show _=(u:Int)from a8))) ?_;refine gW (λh1=>?_) λh1=>?_
 ·have a:q=n:=by have h9:=h1;omega
  refine gW (λh2=>?_) λh2=>?_
  ·have hm:mvG n u q=1:=by unfold mvG;rw[if_neg a8,if_neg a8,if_pos aw]
   refine gR ?_;exact⟨_,hsb,by rw[hm];all_goals rfl,rfl⟩
  have hm:mvG n u q=(n+15)/16-u/16+1:=by unfold mvG;rw[if_neg a8,if_neg a8,if_neg aw]
  refine wk_ (qn_ (ws_ (wr_ (e_ mv (e_ iad ?_)))));refine e_ (evq isb (congrArg (Value.int .i64) (show _=((n+15:Nat):Int)from a8))) ?_;refine e_ (fX rfl rfl (n+15) 16 rfl rfl ae ai) ?_;refine e_ mv ?_;refine e_ (fX rfl rfl u 16 rfl rfl ae ai) ?_;refine gR ?_;exact⟨_,hsb,cK,rfl⟩
 have a:q<n:=ao;refine wk_ (qn_ (ws_ (ws_ (wr_ (e_ mv ?_)))));refine e_ (fX rfl rfl u 16 rfl rfl ae ai) ?_;refine e_ mv ?_;refine e_ (fX rfl rfl q 16 rfl rfl ae ai) ?_;refine gW (λh3=>?_) λh3=>?_
 ·have hm:mvG n u q=q+1-u:=by unfold mvG;rw[if_pos ⟨a,aD⟩]
  refine gR ?_;exact⟨_,hsb,cK,rfl⟩
 have hm:mvG n u q=q/16-u/16+q%16+1:=by unfold mvG;rw[if_neg aD,if_pos a]
 refine wk_ (qn_ (ws_ (wr_ (e_ mv ?_))));refine e_ (fX rfl rfl q 16 rfl rfl ae ai) ?_;refine e_ mv ?_;refine e_ (fX rfl rfl u 16 rfl rfl ae ai) ?_;refine e_ isb (e_ mv ?_);refine e_ (mw rfl rfl q 16 rfl rfl ae) ?_;refine gR ?_;exact⟨_,hsb,cK,rfl⟩
theorem ZB {q:Nat}(hp:gV H s c.ps) (h1:c.u≤q) (h2:q≤c.ps.length) (hn:c.ps.length≤1000000000) (hm:c.mv≤1000000000000):SC G prog 204 [.agg (rcV s c).toArray,iN q] H (λv d=>v=.agg (rcV s (goC c q)).toArray∧d=H):=by
 obtain⟨l,hsl,b⟩:=hp;have hpl:=b.1;have hmv:=EM h1 h2;refine sWk func204 ?_;refine gk (k:=bxx (k:=λa=>?_));refine alc (k:=λb4=>?_);refine go ?_;refine wD [14] (λk H=>(k=1→dQ H a (rcV s c))∧(k=4→dQ H a (rcV s c))∧(k=6→dQ H a (rcV s c))∧(k=9→dQ H a (rcV s c))∧(k=10→Sl H s ePo l)) (aF 0 (k:=?_));refine aN 1 rfl (λH hH=>ah) ?_;refine aF 2 (k:=aF 3 (k:=?_));refine aN 4 rfl (λH hH=>ar) ?_;refine aF 5 (k:=?_);refine aN 6 rfl (λH hH=>aL) ?_;refine aF 7 (k:=aF 8 (k:=?_));refine aN 9 rfl (λH hH=>by have hN:=hH.2.2.2.1 rfl;exact ldv) ?_;refine aN 10 rfl (λH hH=>by have hN:=hH.2.2.2.2 rfl;exact evq lnn (congrArg (λn:Nat=>iN n) hpl)) ?_;refine dS 11 rfl rfl aa rfl (λH hH=>v3_ (WY h1 h2 hn)) ?_;refine aF 12 (k:=af_ 13 (q:=ea λH hH=>bld [(0,_),(1,_),(2,_)]) (k:=?_));refine aS 14 rfl (ej rfl rfl rfl) ?_;rintro _ _ ⟨rfl,rfl⟩;refine aZ (gR ?_);exact⟨_,hsb,by rw[WJ];all_goals rfl,rfl⟩
theorem XA {t:Int}(hp:gV H s c.ps) (b:jU c):SC G prog 152 [.agg (rcV s c).toArray,.int .i64 t] H (λv K=>v=.agg (rcV s (jK c t)).toArray∧K=H):=by
 obtain⟨l,e,a⟩:=hp;have hpl:=a.1;have J:=b.at_;have hn:=b.small.1;have hmv:=b.mvle;have hpa:∀R,gV (Vr R (rcV s c)::H) s c.ps:=λR=>⟨l,inferInstance,a.1,λi p q hp E=>⟨(a.2 i p q hp E).1,ee (dH.drop dH.refl) (a.2 i p q hp E).2⟩⟩;refine sWk func152 ?_;refine gk (k:=bxx (k:=λb2=>?_));refine alc (k:=λb4=>?_);refine go ?_;refine d1_ rfl (Cy (gV.less hsb ⟨l,e,a⟩) J a8) (gk (k:=ep 7 17 (k:=λh1=>gk (k:=edq)) (q:=gW (λh2=>?_) (λh2=>?_))))
 ·have hA:jK c t=c:=by unfold jK;rw[if_pos aw]
  refine gR ?_;exact⟨_,hsb,by rw[hA];all_goals rfl,rfl⟩
 have hA:jK c t=goC c (nP c.ps c.u t):=by unfold jK;rw[if_neg aw]
 have r:c.u≤c.ps.length:=aw;refine wk_ (qn_ (ws_ (wr_ (e_ fla (e_ ldv ?_)))));refine e_ (evq iad (congrArg (Value.int .i64) (show _=(c.u:Int)from a8))) ?_;refine gk (k:=e8 Nat (λy=>c.u≤y∧y≤c.ps.length∧∀j p,c.u≤j→j<y→c.ps[j]? =some p→((p.1:Nat):Int)<t) (λy=>[(5,iN y)]) [(1,_),(2,_),(4,_)] (λy=>[]) _ (λy=>c.ps.length-y) c.u (h0:=?_) (k:=?_))
 ·exact⟨Xl _,r,λj p h8 h9=>a8⟩
 rintro q ⟨m,h,g⟩
 try dsimp only[Yd,Ye]at*
 obtain⟨n,B,C,d⟩:∃(n:Nat) (B:SV) (C:List Nat),q<c.ps.length→l[q]? =some (n,B)∧c.ps[q]? =some (n,C):=by
  rcases Us q c.ps.length with h8|h8
  ·obtain⟨F,pos,x,u,_⟩:=a.get (i:=q) a8;exact⟨_,F,pos,λ_=>⟨x,u⟩⟩
  ·exact⟨0,SV.nil, [],λh9=>a8⟩
 refine gk (k:=dV 9 36 (c:=decide (((n:Nat):Int)<t)) (k:=λh4=>?_) (q:=?_))
 ·have w:=(d aJ).1;refine eg_ fla (eg_ ldv (eg_ mv (eg_ ixa (eg_ fle (eg_ (lfl (hy:=w)) (gk (k:=edq)))))))
 refine gW (λh5=>?_) λh5=>?_
 ·have f:=(d aW).2;refine go ?_;refine lN (q+1) ?_
  try dsimp only
  exact⟨a8,a8,λj p h8 h9 hj=>by
   rcases Uq (V9 h9)with A|rfl
   ·exact g j p h8 A hj
   ·rw[f]at hj;cases hj;omega⟩
 have z:nP c.ps c.u t=q:=Fj m h g λp hp=>by
  have A:=(Yk.1 hp).1;rw[(d A).2]at hp;cases hp;have h9:=h5;omega
 refine go ?_;refine d2_ rfl (ZB (q:=q) (gV.less hsb ⟨l,e,a⟩) m h a8 a8) (gR ?_);exact⟨_,hsb,by rw[hA,z];all_goals rfl,rfl⟩
theorem EB {R:dD}(n:dH H R) (hp:gV R s c.ps) (hu:c.u≤c.ps.length+1) (hn:c.ps.length≤1000000000):SC G prog 206 [.agg (rcV s c).toArray] H (λv p=>(∃j:SV,v=j.val∧Sl R j eI (dT (fj c)))∧p=H):=by
 obtain⟨l,a,b⟩:=hp;have hpl:=b.1;haveI hsl:Sl H s ePo l:=ee n a;haveI d:Sl R SV.nil eI []:=⟨λL hL=>⟨rfl,Xl _,.inl ⟨rfl,rfl⟩⟩⟩;refine sWk func206 ?_;refine gk (k:=bxx (k:=λb1=>?_));refine gk (k:=ep 7 13 (k:=λh1=>gk (k:=edq)) (q:=gW (λh2=>?_) (λh2=>?_)))
 ·have h:fj c= []:=pW aw;refine gR ?_;exact⟨_,hsb,⟨SV.nil,rfl,by rw[h];exact d⟩,rfl⟩
 obtain⟨k,hk⟩:∃k,c.u=k+1:=⟨c.u-1,aw⟩;obtain⟨m,pos,g,f,e⟩:=b.get (i:=k) aw;have h:=r8 hk f;refine wk_ (qn_ (ws_ (wr_ (e_ fla (e_ ldv (e_ fla (e_ ldv (e_ (ixa (i:=k) (hj:=by omega)) (e_ fle (e_ (lfl (hy:=g)) (go ?_)))))))))));refine gR ?_;exact⟨_,hsb,⟨m,rfl,by rw[h];exact e⟩,rfl⟩
theorem WQ (hp:gV H s c.ps) (a:jU c) (f:fj c≠ []):SC G prog 207 [.agg (rcV s c).toArray] H (λv h=>v=.agg (rcV s (jD c)).toArray∧h=H):=by
 have hmv:=a.mvle;have b:=a.pos.mvle;have hn:=a.small.1;refine sWk func207 ?_;refine gk (k:=bxx (k:=λg=>?_));refine alc (k:=λb2=>?_);refine gW (λh1=>?_) λh1=>?_
 ·have d:c.told=false:=by have h9:=h1;simpa using h9
  have hA:jD c=⟨c.ps,c.u,c.mv+(fj c).length,true⟩:=by unfold jD;rw[if_neg (by rw[d];rintro(h9|h9);cases h9;exact f h9)]
  have hmv3:c.mv+(fj c).length≤100100001:=by rw[hA]at b;exact b
  have hil:=eJ (fj c);refine go ?_;refine wD [3,4,7] (λk H=>(k=1→dQ H g (rcV s c))∧(k=2→dQ H g (rcV s c))) (aF 0 (k:=?_));refine aN 1 rfl (λH hH=>ah) (go ?_);refine aS 3 rfl (lU (vs:= [_]) rfl (EB (R:=H) hsb hp a.at_ a8)) ?_;rintro _ _ ⟨⟨sh,rfl,e⟩,rfl⟩;haveI:=e;refine aS 4 rfl (Ev.st lnn) ?_;rintro _ _ ⟨rfl,rfl⟩;refine go ?_;refine aS 7 rfl (ej rfl rfl rfl) ?_;rintro _ _ ⟨rfl,rfl⟩;refine aZ (go ?_);refine rT (k:=?_);exact⟨_,hsb,by rw[hA];exact congrArg (λz=>Value.agg #[s.val,.int .i64 (((c.u:Nat):Int)-1),.int .i64 z,.bool true]) (by show _=((c.mv+(fj c).length:Nat):Int);omega),rfl⟩
 have d:c.told=true:=bg;have hA:jD c=c:=by unfold jD;rw[if_pos (.inl d)]
 refine gR ?_;exact⟨_,hsb,by rw[hA];all_goals rfl,rfl⟩
end
section
variable {R:List nQ}{ds:List Doc}{f k:Nat}{fs:List FV}{vs:List Val}
abbrev iD:=Nat×ByteArray×Nat×Nat
def ji (x:iD):Tri:=(x.1::dC x.2.1,x.2.2)
def ltT (a b:Tri):Prop:=a.1<b.1∨a.1=b.1∧ltP a.2 b.2
instance (a b:Nat×Nat):Decidable (ltP a b):=by unfold ltP;infer_instance
instance (a b:Tri):Decidable (ltT a b):=by unfold ltT;infer_instance
def le4 (a b:iD):Prop:=¬ltT (ji b) (ji a)
theorem Ti {a b c:Nat×Nat}(h:ltP a b) (h':ltP b c):ltP a c:=by unfold ltP at*;omega
theorem Lh {a b c:Tri}(h:ltT a b) (d:ltT b c):ltT a c:=by
 rcases h with h|⟨h1,h2⟩
 ·rcases d with d|⟨h3,_⟩
  ·exact .inl (zw h d)
  ·exact .inl (h3 ▸ h)
 ·rcases d with d|⟨h3,h4⟩
  ·exact .inl (h1 ▸ d)
  ·exact .inr ⟨h1.trans h3,Ti h2 h4⟩
theorem Ph {a:Tri}(h:ltT a a):False:=by
 rcases h with h|⟨_,h⟩
 ·exact ni _ h
 ·unfold ltP at h;omega
theorem Tl {a b:iD}(h:ltT (ji a) (ji b)):le4 a b:=λc=>Ph (Lh h c)
theorem Tk {a b c:iD}(h:le4 a b) (g:le4 b c):le4 a c:=λd=>by
 by_cases hab:ltT (ji a) (ji b)
 ·exact g (Lh d hab)
 ·have e:(ji a).1=(ji b).1:=by
   by_cases e:(ji a).1=(ji b).1
   ·exact e
   ·by_cases l:(ji a).1<(ji b).1
    ·exact absurd (.inl l) hab
    ·exact absurd (.inl (v7 l e)) h
  have i:ji a=ji b:=Prod.ext e (GH (λf=>hab (.inr ⟨e,f⟩)) λf=>h (.inr ⟨e.symm,f⟩));rw[i]at d;exact g d
structure FK (l out av bv:List iD):Prop where
 perm:(out++(av++bv)).Perm l
 up:out.Pairwise le4
 low:∀x∈out,∀y∈av++bv,le4 x y
 ua:av.Pairwise le4
 ub:bv.Pairwise le4
theorem GK {a:iD}{c:List iD}(e:c.Pairwise le4) (d:∀b,c.head? =some b→le4 a b):∀y∈c,le4 a y:=λy hy=>by
 cases c with
 |nil=>cases hy
 |cons b c=>
  rcases Xo.1 hy with rfl|hy
  ·exact d _ rfl
  ·exact Tk (d b rfl) ((Vl.1 e).1 y hy)
theorem FK.left {l out e d:List iD}{a:iD}(h:FK l out (a::e) d) (f:∀b,d.head? =some b→le4 a b):FK l (out++ [a]) e d:=by
 obtain⟨h1,h2⟩:=Vl.1 h.ua;have c:=GK h.ub f;refine⟨by simpa using h.perm,Uj.2 ⟨h.up,Uk ..,λx hx y hy=>?_⟩,λx hx y hy=>?_,h2,h.ub⟩
 ·rw[Vb.1 hy];exact h.low x hx a aq
 ·rcases Xm.1 hx with hx|hx
  ·exact h.low x hx y (by rcases Xm.1 hy with hy|hy <;> simp[hy])
  ·rw[Vb.1 hx];rcases Xm.1 hy with hy|hy
   ·exact h1 y hy
   ·exact c y hy
theorem FK.right {l out c e:List iD}{b:iD}(h:FK l out c (b::e)) (ha:∀a,c.head? =some a→le4 b a):FK l (out++ [b]) c e:=by
 obtain⟨h1,h2⟩:=Vl.1 h.ub;have d:=GK h.ua ha;refine⟨?_,Uj.2 ⟨h.up,Uk ..,λx hx y hy=>?_⟩,λx hx y hy=>?_,h.ua,h2⟩
 ·refine List.Perm.trans ?_ h.perm;rw[Yf];exact List.Perm.append_left _ (by simpa using (List.perm_middle (a:=b) (l₁:=c) (l₂:=e)).symm)
 ·rw[Vb.1 hy];exact h.low x hx b aq
 ·rcases Xm.1 hx with hx|hx
  ·exact h.low x hx y (by rcases Xm.1 hy with hy|hy <;> simp[hy])
  ·rw[Vb.1 hx];rcases Xm.1 hy with hy|hy
   ·exact d y hy
   ·exact h1 y hy
def mz (fs:List FV) (k:Nat) (vs:List Val) (f:Nat):List iD:=(eZ fs f vs).map λt=>(f,eG t.text,k,t.pos)
def lC (fs:List FV) (n k:Nat) (vs:List Val):List iD:=(List.range n).flatMap (mz fs k vs)
def eM (fs:List FV):Nat→List Doc→List iD
 |_, []=>[]
 |k,d::r=>lC fs fs.length k d.2++eM fs (k+1) r
theorem sQ (fs:List FV) (n k:Nat) (vs:List Val):lC fs (n+1) k vs=lC fs n k vs++mz fs k vs n:=by simp[lC,X9]
theorem vL (fs:List FV):∀(l:List Doc) (k:Nat) (d:Doc),eM fs k (l++ [d])=eM fs k l++lC fs fs.length (k+l.length) d.2
 | [],k,d=>by simp[eM]
 |e::l,k,d=>by
  rw[Yd,eM,vL fs l (k+1) d,eM,Yf,Yb,show k+1+l.length=k+(l.length+1)from a8]
theorem Cd {i:Nat}{d:Doc}(h:ds[i]? =some d):eM fs 0 (ds.take (i+1))=eM fs 0 (ds.take i)++lC fs fs.length i d.2:=by
 have hi:=(Yk.1 h).1;rw[dK h,vL,Yg,Ug a8,Vw]
theorem uM (fs:List FV) (k:Nat) (vs:List Val):∀n,(lC fs n k vs).length≤n*vsz vs
 | 0=>by simp[lC]
 |n+1=>by
  have h1:=uM fs k vs n;have h2:=oU fs n vs;rw[sQ,Ya,mz,Yh,Vy];omega
theorem pF (fs:List FV):∀(l:List Doc) (k:Nat),(eM fs k l).length≤fs.length*dsz l
 | [],_=>by simp[eM]
 |d::l,k=>by
  have h1:=pF fs l (k+1);have h2:=uM fs k d.2 fs.length;have h3:dsz (d::l)=vsz d.2+dsz l:=by simp[dsz]
  rw[h3,R7,eM,Ya];omega
theorem HZ (hf:f<256):(mz fs k vs f).map ji=od fs f k vs:=by
 simp only[mz,od,Uo];exact T1 λt _=>by simp only[Function.comp,ji,rR,Xw hf]
theorem uX {g : Nat → List Tri} (key : List Nat) : ∀ n, (∀ f < n, ∀ t ∈ g f, t.1.head? = some f) → ofK ((List.range n).flatMap g) key = match key.head? with
    | some f => if f < n then ofK (g f) key else []
    | none => []
  | 0, _ => by cases key.head? <;> simp [ofK]
  | n + 1, h => by
    rw [X9, S5, wm, uX key n fun f hf => h f a8]
    simp only [Vx, List.flatMap_nil, Ym]
    have hno : key.head? ≠ some n → ofK (g n) key = [] := fun hne => tQ fun hm => by
      obtain ⟨t, ht, rfl⟩ := Xt.1 hm
      exact hne (h n a8 t ht)
    cases hk : key.head? with
    | none => rw [hno (by rw [hk]; simp)]; rfl
    | some f =>
      dsimp only
      by_cases hfn : f = n
      · subst hfn; rw [if_neg a8, if_pos a8, Ye]
      · rw [hno (by rw [hk]; simpa using hfn), Ym]
        by_cases hlt : f < n
        · rw [if_pos hlt, if_pos a8]
        · rw [if_neg hlt, if_neg a8]
theorem yY (hf:f<256):∀t∈od fs f k vs,t.1.head? =some f:=λt a=>by
 obtain⟨u,_,rfl⟩:=Xt.1 a;simp only[rR,Xw hf,List.head?_cons]
theorem yp (hf:f<256):∀(ds:List Doc) (k:Nat),∀t∈gN fs f k ds,t.1.head? =some f
 | [],_,t,h=>by simp[gN]at h
 |d::ds,k,t,h=>by
  rw[gN]at h;rcases Xm.1 h with h|h
  ·exact yY hf t h
  ·exact yp hf ds (k+1) t h
theorem zu:∀n,n≤256→(lC fs n k vs).map ji=(List.range n).flatMap λf=>od fs f k vs
 | 0,_=>rfl
 |n+1,h=>by
  rw[sQ,Xp,zu n a8,HZ a8,X9,S5];simp
theorem xG (hf : fs.length ≤ 256) (key : List Nat): ∀ (ds : List Doc) (k : Nat), ofK ((eM fs k ds).map ji) key = match key.head? with
    | some f => if f < fs.length then ofK (gN fs f k ds) key else []
    | none => []
  | [], _ => by cases key.head? <;> simp [ofK, eM, gN]
  | d :: ds, k => by
    rw [eM, Xp, wm, xG hf key ds (k + 1), zu _ hf, uX key _ fun f hfn => yY a8]
    cases key.head? with
    | none => rfl
    | some f =>
      dsimp only
      by_cases hlt : f < fs.length
      · rw [if_pos hlt, if_pos hlt, if_pos hlt, gN, wm]
      · rw [if_neg hlt, if_neg hlt, if_neg hlt]; rfl
theorem CI (hf:fs.length≤256) (ds:List Doc) (key:List Nat):ofK ((eM fs 0 ds).map ji) key=ofK (fU fs ds) key:=by
 rw[xG hf,fU,uX key _ λf hfn=>yp a8 ds 0]
theorem Wz {out:List iD}(hf:fs.length≤256) (hp:out.Perm (eM fs 0 ds)) (hs:out.Pairwise le4):rn (nO (out.map ji)) (out.map ji)∧∀k,ofK (out.map ji) k=ofK (fU fs ds) k:=by
 refine⟨Iz (by
  rw[Uo];exact U8.2 (hs.imp fun{a b} h h2=>h (.inl h2))),λk=>?_⟩
 rw[←CI hf];have d:(ofK ((eM fs 0 ds).map ji) k).Pairwise ltP:=by rw[CI hf];exact AK fs ds k fs.length hf
 have c:(ofK (out.map ji) k).Perm (ofK ((eM fs 0 ds).map ji) k):=((hp.map ji).filter _).map _;refine List.Perm.eq_of_pairwise (le:=λa b=>¬ltP b a) (λa b _ _ h3 h4=>GH h4 h3) ?_ ?_ c
 ·refine U8.2 ?_;have h5:(out.map ji).Pairwise λa b=>a.1=b.1→¬ltP b.2 a.2:=U8.2 (hs.imp fun{a b} h e h6=>h (.inr ⟨e.symm,h6⟩));refine(List.pairwise_filter.2 (h5.imp fun{a b} h ha hb=>?_));exact h ((Yt ha).trans (Yt hb).symm)
 ·exact d.imp fun{a b} h h3=>by unfold ltP at h h3;omega
theorem I6 {out:List iD}(h:rn R (out.map ji)) (hk:∀k,ofK (out.map ji) k=ofK (fU fs ds) k){e:nQ}(he:e∈R):e.2=jI (ofK (fU fs ds) e.1):=by rw[h.vals e he,hk]
theorem Km {out:List iD}(h:rn R (out.map ji)) (hk:∀k,ofK (out.map ji) k=ofK (fU fs ds) k){k:List Nat}(he:∀e∈R,e.1≠k):jI (ofK (fU fs ds) k)= []:=by
 rw[←hk,tQ λhm=>?_]
 ·rfl
 ·obtain⟨e,h1,h2⟩:=Xt.1 ((h.keys k).2 hm);exact he e h1 h2
end
end Go.Sx
namespace Go.Proofs
open Go.Sx
open Go.Shelf Tryz
def lays189_ren:Go.Shelf.Ren:=⟨fun| 189=>184| 125=>221| 257=>233| 128=>256| 129=>257| 294=>260| 295=>261| 296=>262| 297=>263| 298=>264| 299=>265| 216=>266| 300=>267| 301=>268| 328=>290| 329=>291| 330=>292| 331=>293| 332=>294| 215=>295| 343=>306|n=>n,fun| 28=>28| 3=>3| 46=>76| 0=>0| 51=>297| 53=>66| 4=>4| 183=>378| 182=>377| 131=>130| 5=>5| 9=>9| 218=>403| 222=>374| 228=>412| 229=>413|n=>n,fun|n=>n⟩
theorem uE:Go.Proofs.Lays.n189 prog lays189_ren:={
 mixed:=aa
 f125:=func221.trans (congrArg some aa)
 f128:=func256.trans (congrArg some aa)
 f129:=func257.trans (congrArg some aa)
 f189:=func184.trans (congrArg some aa)
 f215:=func295.trans (congrArg some aa)
 f216:=func266.trans (congrArg some aa)
 f257:=func233.trans (congrArg some aa)
 f294:=func260.trans (congrArg some aa)
 f295:=func261.trans (congrArg some aa)
 f296:=func262.trans (congrArg some aa)
 f297:=func263.trans (congrArg some aa)
 f298:=func264.trans (congrArg some aa)
 f299:=func265.trans (congrArg some aa)
 f300:=func267.trans (congrArg some aa)
 f301:=func268.trans (congrArg some aa)
 f328:=func290.trans (congrArg some aa)
 f329:=func291.trans (congrArg some aa)
 f330:=func292.trans (congrArg some aa)
 f331:=func293.trans (congrArg some aa)
 f332:=func294.trans (congrArg some aa)
 f343:=func306.trans (congrArg some aa)
 t0:=underlying0
 a0:=isAgg0
 z0:=sizeOf0
 v0:=zeroValue0
 t3:=underlying3
 a3:=isAgg3
 z3:=sizeOf3
 v3:=zeroValue3
 t4:=underlying4
 a4:=isAgg4
 z4:=sizeOf4
 v4:=zeroValue4
 t5:=underlying5
 a5:=isAgg5
 z5:=sizeOf5
 v5:=zeroValue5
 t9:=underlying9
 a9:=isAgg9
 z9:=sizeOf9
 v9:=zeroValue9
 t28:=underlying28
 a28:=isAgg28
 z28:=sizeOf28
 v28:=zeroValue28
 t46:=underlying76
 a46:=isAgg76
 z46:=sizeOf76
 v46:=zeroValue76
 t51:=underlying297
 a51:=isAgg297
 z51:=sizeOf297
 v51:=zeroValue297
 t53:=underlying66
 a53:=isAgg66
 z53:=sizeOf66
 v53:=zeroValue66
 t131:=underlying130
 a131:=isAgg130
 z131:=sizeOf130
 v131:=zeroValue130
 t182:=underlying377
 a182:=isAgg377
 z182:=sizeOf377
 v182:=zeroValue377
 t183:=underlying378
 a183:=isAgg378
 z183:=sizeOf378
 v183:=zeroValue378
 t218:=underlying403
 a218:=isAgg403
 z218:=sizeOf403
 v218:=zeroValue403
 t222:=underlying374
 a222:=isAgg374
 z222:=sizeOf374
 v222:=zeroValue374
 t228:=underlying412
 a228:=isAgg412
 z228:=sizeOf412
 v228:=zeroValue412
 t229:=underlying413
 a229:=isAgg413
 z229:=sizeOf413
 v229:=zeroValue413}
open Go.Sort Go.RowKit in
theorem slices_Sort_int (blk off b:Nat) (zs:List Int) (w:World) (hH:Holds (Value.int .i64) w blk off zs.toArray) (a:blk<w.heap.size) (c:zs.length<4611686018427387904):
 Calls prog 184 #[.slice (some ⟨blk,off,none⟩) zs.length b] w λe d=>
  e=.returned (.tuple #[])∧∃n f,d=grow (putRow (Value.int .i64) (Sort.ahead w n) blk off (zs.mergeSort λx y=>decide (x≤y)).toArray) f:=Any.slices_Sort_int uE blk off b zs w hH a c
def lays190_ren:Go.Shelf.Ren:=⟨fun| 190=>215| 125=>221| 258=>251| 128=>256| 129=>257| 302=>280| 303=>281| 304=>282| 305=>283| 306=>284| 307=>285| 308=>286| 309=>287| 310=>288| 333=>301| 329=>291| 330=>292| 334=>302| 335=>303| 336=>304| 344=>309|n=>n,fun| 31=>334| 9=>9| 3=>3| 46=>76| 0=>0| 51=>297| 53=>66| 4=>4| 183=>378| 182=>377| 131=>130| 5=>5| 218=>403| 222=>374| 228=>412| 229=>413|n=>n,fun|n=>n⟩
theorem uD:Go.Proofs.Lays.n190 prog lays190_ren:={
 mixed:=aa
 f125:=func221.trans (congrArg some aa)
 f128:=func256.trans (congrArg some aa)
 f129:=func257.trans (congrArg some aa)
 f190:=func215.trans (congrArg some aa)
 f258:=func251.trans (congrArg some aa)
 f302:=func280.trans (congrArg some aa)
 f303:=func281.trans (congrArg some aa)
 f304:=func282.trans (congrArg some aa)
 f305:=func283.trans (congrArg some aa)
 f306:=func284.trans (congrArg some aa)
 f307:=func285.trans (congrArg some aa)
 f308:=func286.trans (congrArg some aa)
 f309:=func287.trans (congrArg some aa)
 f310:=func288.trans (congrArg some aa)
 f329:=func291.trans (congrArg some aa)
 f330:=func292.trans (congrArg some aa)
 f333:=func301.trans (congrArg some aa)
 f334:=func302.trans (congrArg some aa)
 f335:=func303.trans (congrArg some aa)
 f336:=func304.trans (congrArg some aa)
 f344:=func309.trans (congrArg some aa)
 t0:=underlying0
 a0:=isAgg0
 z0:=sizeOf0
 v0:=zeroValue0
 t3:=underlying3
 a3:=isAgg3
 z3:=sizeOf3
 v3:=zeroValue3
 t4:=underlying4
 a4:=isAgg4
 z4:=sizeOf4
 v4:=zeroValue4
 t5:=underlying5
 a5:=isAgg5
 z5:=sizeOf5
 v5:=zeroValue5
 t9:=underlying9
 a9:=isAgg9
 z9:=sizeOf9
 v9:=zeroValue9
 t31:=underlying334
 a31:=isAgg334
 z31:=sizeOf334
 v31:=zeroValue334
 t46:=underlying76
 a46:=isAgg76
 z46:=sizeOf76
 v46:=zeroValue76
 t51:=underlying297
 a51:=isAgg297
 z51:=sizeOf297
 v51:=zeroValue297
 t53:=underlying66
 a53:=isAgg66
 z53:=sizeOf66
 v53:=zeroValue66
 t131:=underlying130
 a131:=isAgg130
 z131:=sizeOf130
 v131:=zeroValue130
 t182:=underlying377
 a182:=isAgg377
 z182:=sizeOf377
 v182:=zeroValue377
 t183:=underlying378
 a183:=isAgg378
 z183:=sizeOf378
 v183:=zeroValue378
 t218:=underlying403
 a218:=isAgg403
 z218:=sizeOf403
 v218:=zeroValue403
 t222:=underlying374
 a222:=isAgg374
 z222:=sizeOf374
 v222:=zeroValue374
 t228:=underlying412
 a228:=isAgg412
 z228:=sizeOf412
 v228:=zeroValue412
 t229:=underlying413
 a229:=isAgg413
 z229:=sizeOf413
 v229:=zeroValue413}
open Go.Sort Go.RowKit in
theorem slices_Sort_string (blk off b:Nat) (ss:List (List UInt8)) (w:World) (hH:Holds encStr w blk off ss.toArray) (a:blk<w.heap.size) (c:ss.length<4611686018427387904):
 Calls prog 215 #[.slice (some ⟨blk,off,none⟩) ss.length b] w λe d=>
  e=.returned (.tuple #[])∧∃n f,d=grow (putRow encStr (Sort.ahead w n) blk off (ss.mergeSort λx y=>decide (x≤y)).toArray) f:=Any.slices_Sort_string uD blk off b ss w hH a c
def lays157_ren:Go.Shelf.Ren:=⟨fun| 157=>300| 229=>307| 199=>308| 261=>310| 311=>311| 312=>312|n=>n,fun| 9=>9| 31=>334| 3=>3| 5=>5| 4=>4| 119=>415| 0=>0| 40=>417| 152=>419| 21=>21| 154=>421| 51=>297| 141=>423| 196=>427| 193=>424| 198=>430| 49=>428| 194=>425| 201=>433| 226=>435| 46=>76| 227=>436|n=>n,fun| 0=>26| 6=>28|n=>n⟩
theorem Bx:Go.Proofs.Lays.n157 prog lays157_ren:={
 mixed:=aa
 f157:=func300.trans (congrArg some aa)
 f199:=func308.trans (congrArg some aa)
 f229:=func307.trans (congrArg some aa)
 f261:=func310.trans (congrArg some aa)
 f311:=func311.trans (congrArg some aa)
 f312:=func312.trans (congrArg some aa)
 t0:=underlying0
 a0:=isAgg0
 z0:=sizeOf0
 v0:=zeroValue0
 t3:=underlying3
 a3:=isAgg3
 z3:=sizeOf3
 v3:=zeroValue3
 t4:=underlying4
 a4:=isAgg4
 z4:=sizeOf4
 v4:=zeroValue4
 t5:=underlying5
 a5:=isAgg5
 z5:=sizeOf5
 v5:=zeroValue5
 t9:=underlying9
 a9:=isAgg9
 z9:=sizeOf9
 v9:=zeroValue9
 t21:=underlying21
 a21:=isAgg21
 z21:=sizeOf21
 v21:=zeroValue21
 t31:=underlying334
 a31:=isAgg334
 z31:=sizeOf334
 v31:=zeroValue334
 t40:=underlying417
 a40:=isAgg417
 z40:=sizeOf417
 v40:=zeroValue417
 t46:=underlying76
 a46:=isAgg76
 z46:=sizeOf76
 v46:=zeroValue76
 t49:=underlying428
 a49:=isAgg428
 z49:=sizeOf428
 v49:=zeroValue428
 t51:=underlying297
 a51:=isAgg297
 z51:=sizeOf297
 v51:=zeroValue297
 t119:=underlying415
 a119:=isAgg415
 z119:=sizeOf415
 t141:=underlying423
 a141:=isAgg423
 z141:=sizeOf423
 v141:=zeroValue423
 t152:=underlying419
 a152:=isAgg419
 z152:=sizeOf419
 v152:=zeroValue419
 t154:=underlying421
 a154:=isAgg421
 z154:=sizeOf421
 v154:=zeroValue421
 t193:=underlying424
 a193:=isAgg424
 z193:=sizeOf424
 v193:=zeroValue424
 t194:=underlying425
 a194:=isAgg425
 z194:=sizeOf425
 v194:=zeroValue425
 t196:=underlying427
 a196:=isAgg427
 z196:=sizeOf427
 v196:=zeroValue427
 t198:=underlying430
 a198:=isAgg430
 z198:=sizeOf430
 v198:=zeroValue430
 t201:=underlying433
 a201:=isAgg433
 z201:=sizeOf433
 v201:=zeroValue433
 t226:=underlying435
 a226:=isAgg435
 z226:=sizeOf435
 v226:=zeroValue435
 t227:=underlying436
 a227:=isAgg436
 z227:=sizeOf436
 v227:=zeroValue436
 g0:=aa
 g6:=aa}
open Go.RowKit Go.Lib in
theorem strings_Fields (s:ByteArray) (w:World) (hs:s.size<4294967281) (a:∀(j:Nat) b,s.data.toList[j]? =some b→b.toNat<128) (c:Lib.TabIs prog w "strings.asciiSpace" .u8 Lib.asciiSpaceTab):
 Calls prog 300 #[.string s] w λe d=>
  e=.returned (.slice (some ⟨w.heap.size,0,none⟩) (Lib.fields s.data.toList).length (Lib.fields s.data.toList).length)∧d=w.alloc (.cells ((Lib.fields s.data.toList).map λl=>Value.string ⟨l.toArray⟩).toArray 9):=Any.strings_Fields Bx aa aa s w hs a c
def laysNm220_ren:Go.Shelf.Ren:=⟨fun| 20=>186|n=>n,fun| 22=>28| 3=>3| 4=>4| 0=>0|n=>n,fun|n=>n⟩
theorem rk:Go.Proofs.Lays2.n20 prog laysNm220_ren:={
 mixed:=aa
 f20:=func186.trans (congrArg some aa)
 t0:=underlying0
 a0:=isAgg0
 z0:=sizeOf0
 v0:=zeroValue0
 t3:=underlying3
 a3:=isAgg3
 z3:=sizeOf3
 v3:=zeroValue3
 t4:=underlying4
 a4:=isAgg4
 z4:=sizeOf4
 v4:=zeroValue4
 t22:=underlying28
 a22:=isAgg28
 z22:=sizeOf28
 v22:=zeroValue28
 i3:=aa}
open Go.RowKit Go.Lib Go.Sort in
theorem slices_Compact_int (blk off a:Nat) (zs:List Int) (w:World) (hH:Holds (Value.int .i64) w blk off zs.toArray) (c:zs.length≤9223372036854775807) (b:zs.length≤a):
 Calls prog 186 #[.slice (some ⟨blk,off,none⟩) zs.length a] w λe d=>e=.returned (.slice (some ⟨blk,off,none⟩) (Lib.compact zs).length a)∧∃q,d=putRow (Value.int .i64) (Sort.ahead w q) blk off (Lib.compact zs++List.replicate (zs.length-(Lib.compact zs).length) 0).toArray:=Any.slices_Compact_int rk blk off a zs w hH c b
open Go.RowKit Go.Lib Go.Sort in
theorem slices_Compact_int_empty (a:Option Addr) (b:Nat) (w:World):
 Calls prog 186 #[.slice a 0 b] w λe c=>e=.returned (.slice a 0 b)∧c=w:=Any.slices_Compact_int_empty rk a b w
open Go.RowKit Go.Sort in
theorem slices_Sort_string_none (p:Option Addr) (a:Nat) (w:World):
 Calls prog 215 #[.slice p 0 a] w λe b=>e=.returned (.tuple #[])∧b=w:=Any.slices_Sort_string_none uD p a w
open Go.RowKit Go.Sort in
theorem slices_Sort_int_none (p:Option Addr) (a:Nat) (w:World):
 Calls prog 184 #[.slice p 0 a] w λe b=>e=.returned (.tuple #[])∧b=w:=Any.slices_Sort_int_none uE p a w
end Go.Proofs
