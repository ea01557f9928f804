import Derived.Test.YtjhdcheijnegnaaGreatDoorQ22
set_option linter.all false
set_option maxHeartbeats 0
namespace Go.Sx
open Go Go.Proofs
set_option maxRecDepth 100000
section
variable {ds:List Doc}{fs:List FV}
theorem lJ {α:Type} [DecidableEq α]:∀{l m:List α},l.Nodup→(∀x∈l,x∈m)→l.length≤m.length
 | [],_,_,_=>Yl _
 |a::l,m,hn,h=>by
  obtain⟨h1,h2⟩:=U3.1 hn;have h3:=lJ (m:=m.erase a) h2 λx hx=>(List.mem_erase_of_ne (λe=>h1 (by rw[←e];exact hx))).2 (h x (Xa _ hx));have h4:=h a ak;rw[List.length_erase_of_mem h4]at h3;have:=List.length_pos_of_mem h4;simp only[Yb];omega
theorem uH (rs:List uo) (i:Nat):(dI (rs.take i)).length≤(dI rs).length:=by
 conv=>rhs;rw[←Xv i rs,dI,List.flatMap_append,Ya]
 exact Nat.le_add_right _ _
structure iU (fs:List FV) (ds:List Doc):Prop where
 chk:fW fs=true
 few:ds.length≤4096
 pos:lj (ds.map (·.1))=false
 up:rise (ds.map (·.1))=true
 ids:∀d∈ds,d.1<1099511627776
 vals:∀d∈ds,gl fs d.2=0
 size:dsz ds≤30000000
 toks:(eQ fs ds).length≤2000000
theorem uY:∀{vs:List Val},jE fs vs=0→∀v∈vs,ri fs v=0
 | [],_,v,hv=>by simp at hv
 |u::vs,h,v,hv=>by
  rw[jE]at h
  split at h
  ·rename_i h0;rcases Xr.1 hv with rfl|hv
   ·exact h0
   ·exact uY h v hv
  ·rename_i h0;exact absurd h h0
theorem kK {vs:List Val}(h:gl fs vs=0):vs.length≤64∧∀v∈vs,v.2.size≤4096∧∃k,fJ fs (cF v.1)=some k:=by
 rw[gl]at h
 split at h
 ·cases h
 ·split at h
  ·cases h
  ·refine⟨a8,λv hv=>?_⟩;have h1:=uY h v hv;rw[ri]at h1
   split at h1
   ·cases h1
   ·rename_i k hk
    split at h1
    ·cases h1
    ·exact⟨a8,k,hk⟩
theorem iU.flen (h:iU fs ds):fs.length≤16:=(gq h.chk).1.2
theorem iU.q (h:iU fs ds):∀d∈ds,d.2.length≤100000000∧∀v∈d.2,v.2.size≤3000000:=λd hd=>by
 obtain⟨h1,h2⟩:=kK (h.vals d hd);exact⟨a8,λv hv=>by have:=(h2 v hv).1;omega⟩
theorem iU.fd (h:iU fs ds):∀d∈ds,∀v∈d.2,∃k,fJ fs (cF v.1)=some k:=λd hd v hv=>((kK (h.vals d hd)).2 v hv).2
theorem Dx (w:List Nat):∀(i:Nat) (a:Option Nat) (out:List Tok),eE w i=(a,out)→∀(j:Nat) (t:Tok),out[j]? =some t→t.pos=j
 | 0,a,out,h,j,t,ht=>by cases h;simp at ht
 |i+1,a,out,h,j,t,ht=>by
  obtain⟨d,c,h0⟩:∃d c,eE w i=(d,c):=⟨_,_,rfl⟩;have e:=Dx w i d c h0;cases hin:inW w i with
  |true=>
   cases d with
   |none=>rw[kp h0 hin]at h;cases h;exact e j t ht
   |some b=>rw[qj h0 hin]at h;cases h;exact e j t ht
  |false=>
   cases d with
   |none=>rw[nO h0 hin]at h;cases h;exact e j t ht
   |some b=>
    rw[nP h0 hin]at h;cases h
    by_cases hj:j<c.length
    ·rw[Yv hj]at ht;exact e j t ht
    ·rw[Yu a8]at ht;have f:j-c.length=0:=by
            have:=(Yk.1 ht).1;simp at this;omega
     rw[f]at ht;simp at ht;subst ht;show c.length=j;omega
theorem qk (w:List Nat) {j:Nat}{t:Tok}(h:(eX w)[j]? =some t):t.pos=j:=Dx w _ _ _ rfl j t h
def lk (l:List Tok):Prop:=l.Pairwise λa b=>a.pos<b.pos
theorem ze (w:List Nat):lk (eX w):=by
 rw[lk,R4];intro i j hi hj hij;have h1:=qk w (Yi hi);have h2:=qk w (Yi hj);omega
theorem tj {p:FV}{t u:Tok}(h:jW p t=some u):u.pos=t.pos:=by
 rw[jW]at h
 split at h
 ·split at h
  ·obtain rfl:=Xo h;rfl
  ·cases h
 ·cases h
theorem BY (p:FV) (w:List Nat):lk (ee p w)∧∀t∈ee p w,t.pos<fP p w+1:=by
 rw[ee,fP]
 split
 ·rename_i hk
  constructor
  ·rw[lk,List.pairwise_filterMap];refine(ze w).imp fun{a b} h u hu v hv=>?_;rw[tj hu,tj hv];exact h
  ·intro t c;obtain⟨t0,h0,hk⟩:=List.mem_filterMap.1 c;obtain⟨j,hj⟩:=Uf h0;have:=(Yk.1 hj).1;rw[tj hk,qk w hj];omega
 ·split
  ·split
   ·exact⟨by simp[lk],λt c=>by simp at c;subst c;simp⟩
   ·exact⟨by simp[lk],λt c=>by simp at c⟩
  ·split
   ·split
    ·exact⟨by simp[lk],λt c=>by simp at c;subst c;simp⟩
    ·exact⟨by simp[lk],λt c=>by simp at c⟩
   ·exact⟨by simp[lk],λt c=>by simp at c⟩
theorem yf (p:FV) (vs:List Val):∀(i b:Nat) (out:List Tok),fk p vs i=(b,out)→lk out∧∀t∈out,t.pos<b
 | 0,b,out,h=>by cases h;exact⟨by simp[lk],ak⟩
 |i+1,b,out,h=>by
  obtain⟨e,d,h0⟩:∃e d,fk p vs i=(e,d):=⟨_,_,rfl⟩;obtain⟨g,f⟩:=yf p vs i e d h0;rw[fk,h0]at h
  split at h
  ·cases h;exact⟨g,f⟩
  ·rename_i v hv
   split at h
   ·cases h;obtain⟨m,l⟩:=BY p (cF v.2)
    constructor
    ·rw[lk,T1];refine⟨g,List.pairwise_map.2 (m.imp fun{a c} hac=>?_),λa ha c n=>?_⟩
     ·show a.pos+e<c.pos+e;omega
     ·obtain⟨q,hc0,rfl⟩:=Xw.1 n;have:=f a ha;show a.pos<q.pos+e;omega
    ·intro t ht;rcases Xl.1 ht with ht|ht
     ·have:=f t ht;show t.pos<e+_;omega
     ·obtain⟨k,j,rfl⟩:=Xw.1 ht;have:=l k j;show k.pos+e<e+(fP p (cF v.2)+16);omega
   ·cases h;exact⟨g,f⟩
theorem tD (fs:List FV) (k:Nat) (vs:List Val):lk (dB fs k vs)∧∀t∈dB fs k vs,t.pos<vsz vs:=by
 unfold dB
 split
 ·rename_i p hp;obtain⟨h1,h2⟩:=yf p vs vs.length _ _ rfl;have h3:=(wq p vs vs.length _ _ rfl).1;rw[Xk]at h3;exact⟨h1,λt a=>S5 (h2 t a) h3⟩
 ·exact⟨by simp[lk],ak⟩
theorem ID (a b:List Tri) (k:List Nat):ofK (a++b) k=ofK a k++ofK b k:=by simp[ofK]
theorem lZ {f:Nat}:∀{l:List Doc}{k:Nat}{t:Tri},t∈fF fs f k l→∃j d u,l[j]? =some d∧u∈dB fs f d.2∧t=(cF (n7 f (dQ u.text)),k+j,u.pos)
 | [],k,t,h=>by simp[fF]at h
 |d::l,k,t,h=>by
  rcases Xl.1 h with h|h
  ·obtain⟨u,a,rfl⟩:=Xw.1 h;exact⟨0,d,u,rfl,a,rfl⟩
  ·obtain⟨j,b,u,h1,h2,h3⟩:=lZ h;exact⟨j+1,b,u,h1,h2,by rw[h3,Vz,Q5 1 j]⟩
theorem yB (fs:List FV) (f:Nat):∀(l:List Doc) (k:Nat),(fF fs f k l).Pairwise λa b=>ltP a.2 b.2
 | [],_=>by simp[fF]
 |d::l,k=>by
  rw[fF,T1];refine⟨List.pairwise_map.2 ((tD fs f d.2).1.imp fun{a b} h=>.inr ⟨rfl,h⟩),yB fs f l (k+1),λa ha b c=>?_⟩;obtain⟨u,hu,rfl⟩:=Xw.1 ha;obtain⟨j,d',u',h1,h2,rfl⟩:=lZ c;exact .inl (by show k<k+1+j;omega)
theorem xL {n:Nat}{t:Tri}(h:t∈mw fs ds n):∃f j d u,f<n∧ds[j]? =some d∧u∈dB fs f d.2∧t=(cF (n7 f (dQ u.text)),j,u.pos):=by
 obtain⟨f,a,h⟩:=X7.1 h;obtain⟨j,d,u,h1,h2,h3⟩:=lZ h;exact⟨f,j,d,u,List.mem_range.1 a,h1,h2,by rw[h3,Vf]⟩
theorem B6 (fs:List FV) (ds:List Doc) (k:List Nat):∀n,n≤256→(ofK (mw fs ds n) k).Pairwise ltP
 | 0,_=>by simp[mw,ofK]
 |n+1,h=>by
  rw[qv,ID,T1];refine⟨B6 fs ds k n a8,?_,λa ha b g=>?_⟩
  ·exact List.pairwise_map.2 ((yB fs n ds 0).filter _)
  ·exfalso;obtain⟨f,j,d,u,h1,h2,h3,h4⟩:=xL (rH ha);obtain⟨j',d',e,h5,h6,i⟩:=lZ (rH g);have c:cF (n7 f (dQ u.text))=cF (n7 n (dQ e.text)):=((congrArg (λz:Tri=>z.1) h4).symm).trans (congrArg (λz:Tri=>z.1) i);simp only[vz]at c;have:=(List.cons.inj c).1;omega
theorem iU.goodT (h:iU fs ds):tY (eQ fs ds):=by
 have hf:=h.flen;refine⟨λk=>B6 fs ds k fs.length a8,by have:=h.toks;omega,λt a=>?_⟩;obtain⟨f,j,d,u,h1,h2,h3,rfl⟩:=xL a;have hs:=rk h3;have hp:=(tD fs f d.2).2 u h3;have hv:=pS (Yj h2);have hj:=(Yk.1 h2).1;have hz:=h.size;have hfew:=h.few;have hl:(cF (n7 f (dQ u.text))).length=1+u.text.length:=by rw[vz,Yb,cI,gG];omega
 refine⟨bG,bG,λx hx=>jQ _ x hx,bG,bG⟩
end
def lq (fs:List FV):Nat→List Nat→Option (List Val×Nat)
 | 0,_=>some ([],0)
 |n+1,l=>match fZ (fs.length-1) l with
  | .error _=>none
  | .ok (f,m)=>match k8 4096 (l.drop m)with
   | .error _=>none
   | .ok (q,c)=>match lq fs n (l.drop (m+c))with
        |none=>none
        |some (r,e)=>some ((((fs[f]?).map (·.name)).getD ByteArray.empty,dQ q)::r,m+c+e)
def kF (fs:List FV):List Int→List Nat→Option (List Doc×Nat)
 | [],_=>some ([],0)
 |d::r,l=>match fZ 64 l with
  | .error _=>none
  | .ok (n,m)=>match lq fs n (l.drop m)with
   |none=>none
   |some (vs,c)=>match kF fs r (l.drop (m+c))with
        |none=>none
        |some (ds,e)=>some ((d,vs)::ds,m+c+e)
def kS (fs:List FV) (ids body:List Nat):Option (List Doc):=match fe 4096 ids with
 | .error _=>none
 | .ok (l,m)=>if m<ids.length then none else match kF fs l body with
  |none=>none
  |some (ds,c)=>if c<body.length then none else some ds
def rj {α:Type}(zs:List α) (a:Nat):Option (List α×Nat)→Option (List α×Nat)
 |none=>none
 |some (r,e)=>some (zs++r,a+e)
theorem Bt {α:Type}(o:Option (List α×Nat)):rj [] 0 o=o:=by
 cases o with
 |none=>rfl
 |some p=>simp[rj]
structure DG where
 d:Int
 s:SV
 vs:List Val
def dgV (z:DG):Int×SV:=(z.d,z.s)
def dgD (z:DG):Doc:=(z.d,z.vs)
def dgH (z:DG):cG:= [Row z.s eVl z.vs]
theorem Jf {l:List DG}(z:DG) {H:cG}:cH (Row z.s eVl z.vs::Cl dgH l::H) (Cl dgH (l++ [z])::H):=pW (f:=dgH) z
theorem GD {H R:cG}{zs:List DG}(hr:mW H (Cl dgH zs) R):ew H (zs.map dgV) (zs.map dgD):=by
 refine⟨ak,λi p q hp a=>?_⟩;rw[Xd]at hp a;cases hi:zs[i]? with
 |none=>rw[hi]at hp;cases hp
 |some z=>
  rw[hi]at hp a;obtain rfl:=Xo hp;obtain rfl:=Xo a;exact⟨rfl,show Sl H z.s eVl z.vs from dj (gf hr (lg (f:=dgH) hi)) (inferInstanceAs (Sl (Row z.s eVl z.vs::_) z.s eVl z.vs))⟩
section
variable {fs:List FV}{α:Type}
theorem xg {β:Type}(l:List α) (m:List β) (g:α→β→Nat):(l.map λa=>(m.map (g a)).sum).sum=(m.map λb=>(l.map λa=>g a b).sum).sum:=by
 induction l with
 |nil=>simp only[Ul,List.sum_nil];induction m with
  |nil=>rfl
  |cons b m ih=>simp only[Xn,Vn,Vf];exact ih
 |cons a l ih=>
  simp only[Xn,Vn,ih];clear ih
  induction m with
  |nil=>rfl
  |cons b m ih=>simp only[Xn,Vn]at ih⊢;omega
theorem sG {l:List α}{f g:α→Nat}(h:∀x∈l,f x≤g x):(l.map f).sum≤(l.map g).sum:=by
 induction l with
 |nil=>exact Xj _
 |cons a l ih=>
  have h1:=h a ak;have h2:=ih λx hx=>h x (Xa _ hx);simp only[Xn,Vn];omega
def gv (fs:List FV) (f:Nat) (v:Val):Nat:=match fs[f]? with
 |some p=>if cF v.1=cF p.name then v.2.size+1 else 0
 |none=>0
theorem Bw (p:FV) (vs:List Val):∀i,(fk p vs i).2.length≤((vs.take i).map λv=>if cF v.1=cF p.name then v.2.size+1 else 0).sum
 | 0=>by simp[fk]
 |i+1=>by
  have a:=Bw p vs i;cases hv:vs[i]? with
  |none=>
   have e:fk p vs (i+1)=fk p vs i:=by rw[fk,hv]
   have:vs.take (i+1)=vs.take i:=by rw[Ua,hv];simp
   rw[e,this];exact a
  |some v=>
   rw[cL hv,Va,List.sum_append]
   by_cases hn:cF v.1=cF p.name
   ·have h4:=pa p (cF v.2);rw[cI]at h4;rw[rL (b:=(fk p vs i).1) (out:=(fk p vs i).2) rfl hv hn];simp only[Ya,Yh,Xn,Ul,Vn,List.sum_nil,if_pos hn];omega
   ·rw[wm (b:=(fk p vs i).1) (out:=(fk p vs i).2) rfl hv hn];simp only;omega
theorem D2 (fs:List FV) (f:Nat) (vs:List Val):(dB fs f vs).length≤(vs.map (gv fs f)).sum:=by
 unfold dB;cases hp:fs[f]? with
 |none=>simp
 |some p=>
  have h:=Bw p vs vs.length;rw[Xk]at h;simp only;have e:(λv:Val=>if cF v.1=cF p.name then v.2.size+1 else 0)=gv fs f:=by funext v;rw[gv,hp]
  rwa [e]at h
theorem Br {v:Val}:∀n,(∀j p,j<n→fs[j]? =some p→cF v.1≠cF p.name)→((List.range n).map λf=>gv fs f v).sum=0
 | 0,_=>rfl
 |n+1,h=>by
  rw[U6,Va,List.sum_append,Br n λj p hj=>h j p a8];simp only[Xn,Ul,Vn,List.sum_nil,gv];cases hp:fs[n]? with
  |none=>rfl
  |some p=>simp only;rw[if_neg (h n p a8 hp)];all_goals rfl
theorem G2 (hd:(fs.map λf=>cF f.name).Nodup) (v:Val):∀n,((List.range n).map λf=>gv fs f v).sum≤v.2.size+1
 | 0=>ak
 |n+1=>by
  have ih:=G2 hd v n;rw[U6,Va,List.sum_append];simp only[Xn,Ul,Vn,List.sum_nil,Ur]
  by_cases hg:gv fs n v=0
  ·omega
  ·obtain⟨p,hp,a⟩:∃p,fs[n]? =some p∧cF v.1=cF p.name:=by
    unfold gv at hg;cases hp:fs[n]? with
    |none=>rw[hp]at hg;exact absurd rfl hg
    |some p=>
     rw[hp]at hg
     by_cases h:cF v.1=cF p.name
     ·exact⟨p,rfl,h⟩
     ·exact absurd (by simp only;rw[if_neg h]) hg
   have hz:=Br (fs:=fs) (v:=v) n λj q hj b he=>by
    have h1:(fs.map λf=>cF f.name)[j]? =some (cF v.1):=by rw[Xd,b,he];all_goals rfl
    have h2:(fs.map λf=>cF f.name)[n]? =some (cF v.1):=by rw[Xd,hp,a];all_goals rfl
    have h3:=(Yk.1 h2).1;have:=(T4 a8 hd).1 (h1.trans h2.symm);omega
   have hb:gv fs n v≤v.2.size+1:=by rw[gv,hp];simp only;rw[if_pos a];exact Xj _
   omega
def tsz (ds:List Doc):Nat:=(ds.map λd=>(d.2.map λv=>v.2.size+1).sum).sum
theorem vp (fs:List FV) (f:Nat):∀(ds:List Doc) (k:Nat),(fF fs f k ds).length=(ds.map λd=>(dB fs f d.2).length).sum
 | [],_=>rfl
 |d::ds,k=>by
  rw[fF,Ya,vp fs f ds (k+1)];simp[na]
theorem GU (hc:fW fs=true) (ds:List Doc):(eQ fs ds).length≤tsz ds:=by
 have hd:=(oU fs [] (by simp only[fW,Xu]at hc;exact hc.2)).2;have h1:(eQ fs ds).length=((List.range fs.length).map λf=>(ds.map λd=>(dB fs f d.2).length).sum).sum:=by
  rw[eQ,List.length_flatMap];congr 1;exact T8 λf _=>vp fs f ds 0
 rw[h1,xg];refine sG λd _=>?_;have h2:((List.range fs.length).map λf=>(dB fs f d.2).length).sum≤((List.range fs.length).map λf=>(d.2.map (gv fs f)).sum).sum:=sG λf _=>D2 fs f d.2;rw[xg]at h2;exact Xi h2 (sG λv _=>G2 hd v _)
end
open Tryz
theorem Nr {G:cJ}{H:cG}{fv si sb:SV}{fs:List FV}{ids body:List Nat} [hg:Glb G H] [hf:Sl H fv eF fs] [hsi:Sl H si eB ids] [hsc:Sl H sb eB body] (hc:fW fs=true) (hn:ids.length≤100000000) (hm:body.length≤100000000) (N:∀x∈ids,x<256) (s:∀x∈body,x<256):
 SC G prog 95 [.agg #[fv.val],si.val,sb.val] H (λv H'=>(kS fs ids body=none∧∃M:SV,v=.tuple #[M.val,.bool false]∧H'=H)∨(∃(b:List DG) (M:SV),kS fs ids body=some (b.map dgD)∧v=.tuple #[M.val,.bool true]∧H'=Row M eD (b.map dgV)::Cl dgH b::H)):=by
 obtain⟨hc1,hc2⟩:=gq hc;refine sWk func95 ?_;refine gk (k:=bxx (k:=λS=>?_));refine go ?_;refine c1_ rfl (jB a8) ?_;rintro _ _ ⟨br,rfl,rfl⟩;refine go ?_;refine c2_ rfl (Ip (k:=0) (most:=4096) (Yl _) a8 N ae) ?_;rintro _ _ R;rw[Vi]at R;rcases R with⟨e,hr,rfl,rfl⟩|⟨l,m,U,hr,rfl,rfl⟩
 all_goals try rw[Vf]
 ·have E:kS fs ids body=none:=by rw[kS,hr]
  refine e_ mv (e_ exr (e_ exr (e_ asn (e_ asn (on_ (qn_ (ws_ (ws_ (wr_ (e_ mv ?_))))))))));refine e_ (de rfl) ?_;refine gk (k:=ift (k:=go ?_));refine gR ?_;exact⟨_,hsb,.inl ⟨E,SV.nil,rfl,rfl⟩⟩
 obtain⟨g1,g2,g3,g4,g5⟩:=uf N hr;have hll:l.length≤4096:=by
  rw[fe]at hr
  split at hr
  ·cases hr
  ·rename_i n0 m0 X
   split at hr
   ·cases hr
   ·rename_i r0 m1 V;obtain⟨r,_⟩:=(by simpa using hr:r0=l∧m0+m1=m);obtain⟨k1,_⟩:=jA N X;obtain⟨k2,_⟩:=oH _ _ _ _ _ (λx hx=>N x (Yp hx)) (Int.le_refl _) V;rw[←r];omega
 refine e_ mv (e_ exr (e_ exr (e_ asn (e_ asn (on_ (qn_ (ws_ (ws_ (wr_ (e_ mv ?_))))))))));refine e_ (cK rfl) (go ?_);refine sg_ (v1_ (pn g1)) (k:=?_);rintro _ _ ⟨rfl,(⟨Y,rfl⟩|⟨Y,rfl⟩)⟩
 ·have E:kS fs ids body=none:=by rw[kS,hr];simp only[];rw[if_pos a8]
  refine eg_ (de rfl) ?_;refine gk (k:=ift (k:=gR ?_));exact⟨_,hsb,.inl ⟨E,SV.nil,rfl,rfl⟩⟩
 have E:kS fs ids body=match kF fs l body with
  |none=>none
  |some (ds,c)=>if c<body.length then none else some ds:=by
  rw[kS,hr];simp only[];rw[if_neg a8];all_goals (cases kF fs l body <;> rfl)
 refine eg_ (cK rfl) ?_;refine gk (k:=iff_ (k:=go ?_));refine c1_ rfl (jB (xs:=body) a8) ?_;rintro _ _ ⟨bq,rfl,rfl⟩;refine e_ asn (on_ (qn_ (ws_ (wr_ (e_ asn (on_ (qn_ (ws_ (ws_ (wr_ ?_))))))))));refine eN (cH.nilRow (e:=eD) (ja (f:=dgH) cH.refl)) ?_;rw[show Row SV.nil eD ([]:List (Int×SV))=Row SV.nil eD (([]:List DG).map dgV)from rfl];refine gk (k:=wl2_ (Nat×SV×(List DG)×Nat) (λy=>y.1≤l.length∧y.2.2.2≤body.length∧y.2.2.1.length=y.1∧kF fs l body=rj (y.2.2.1.map dgD) y.2.2.2 (kF fs (l.drop y.1) (body.drop y.2.2.2))) (λy=>[(11,y.2.1.val),(40,iN y.1)]) [(3,_),(8,_),(38,_),(39,_)] (λy=>[Row y.2.1 eD (y.2.2.1.map dgV),Cl dgH y.2.2.1,Rd bq (body,y.2.2.2)]) (Row U eI l::Vr S [fv.val]::H) (λy=>l.length-y.1) ((0,SV.nil, [],0)) (h0:=?_) (k:=?_))
 ·try dsimp only
  exact⟨Yl _,Yl _,rfl,by rw[Vi,Vi];exact(Bt _).symm⟩
 rintro⟨i,u,b,a⟩ ⟨hi,ha,hzl,hI⟩
 try dsimp only[Yd,Ye]at*
 refine gW (λh1=>?_) λh1=>?_
 ·obtain⟨d,a2⟩:=gE l i;have hzm:(b.map dgV).length=b.length:=Yh ..;rw[fE a2,kF]at hI;refine wk_ (qn_ (ws_ (wb_ (ws_ (wr_ (e_ ixa (e_ lel (e_ asn (on_ (qn_ (ws_ (wr_ (e_ mv ?_)))))))))))));refine e_ (bld [(0,_)]) (alc (k:=λL=>?_));refine go ?_;refine c2_ rfl (xH (most:=64) ha a8 s ae) ?_;rintro _ _ (⟨e,r,rfl,rfl⟩|⟨n,t,r,rfl,rfl⟩)
  ·rw[r]at hI;refine e_ mv (e_ exr (e_ exr (e_ asn (e_ asn (on_ (qn_ (ws_ (ws_ (wr_ (e_ mv ?_))))))))));refine e_ (de rfl) ?_;refine gk (k:=ift (k:=go ?_));refine gR ?_;exact⟨_,hsb,.inl ⟨by rw[E,hI];all_goals rfl,SV.nil,rfl,rfl⟩⟩
  rw[r]at hI;simp only[]at hI;obtain⟨q1,q2,q3,q4⟩:=jA (λx hx=>s x (Yp hx)) r;rw[Yo]at q2;rw[Vm]at hI;refine e_ mv (e_ exr (e_ exr (e_ asn (e_ asn (on_ (qn_ (ws_ (ws_ (wr_ (e_ mv ?_))))))))));refine e_ (cK rfl) ?_;refine gk (k:=iff_ (k:=go ?_));refine gk (k:=wl2_ (SV×(List Val)×Nat×Nat) (λy=>y.2.2.2=y.2.1.length∧y.2.2.1≤body.length∧a+t≤y.2.2.1∧y.2.1.length≤n∧lq fs n (body.drop (a+t))=rj y.2.1 (y.2.2.1-(a+t)) (lq fs (n-y.2.1.length) (body.drop y.2.2.1))) (λy=>[(54,iN y.2.2.2)]) [(3,_),(8,_),(11,_),(14,_),(38,_),(39,_),(40,_),(53,_)] (λy=>[Vr L [.int .i64 d,y.1.val],Row y.1 eVl y.2.1,Rd bq (body,y.2.2.1)]) (Row u eD (b.map dgV)::Cl dgH b::Row U eI l::Vr S [fv.val]::H) (λy=>n-y.2.1.length) ((SV.nil, [],a+t,0)) (h0:=?_) (k:=?_))
  ·try dsimp only
   exact⟨rfl,a8,Xj _,Yl _,by rw[Vw,Yc,S0];exact(Bt _).symm⟩
  rintro⟨C,h,e,j⟩ ⟨hjv,he,hae,hvl,g⟩
  try dsimp only[Yd,Ye]at*
  refine gW (λh2=>?_) λh2=>?_
  ·obtain⟨k,hk⟩:∃k,n-h.length=k+1:=⟨n-h.length-1,a8⟩;rw[hk,lq]at g;refine wk_ (qn_ (ws_ (wb_ (ws_ (wr_ (e_ mv (e_ fla (e_ ldv (e_ lnn ?_)))))))));refine e_ (evq isb (congrArg (Value.int .i64) (by omega:(fs.length:Int)-1=((fs.length-1:Nat):Int)))) ?_;refine c2_ rfl (xH (most:=fs.length-1) he a8 s a8) ?_;rintro _ _ (⟨e9,z,rfl,rfl⟩|⟨f,K,z,rfl,rfl⟩)
   ·rw[z]at g;simp only[]at g;refine e_ mv (e_ exr (e_ exr (e_ asn (e_ asn (on_ (qn_ (ws_ (ws_ (wr_ (e_ mv ?_))))))))));refine e_ (de rfl) ?_;refine gk (k:=ift (k:=go ?_));refine gR ?_;exact⟨_,hsb,.inl ⟨by rw[E,hI,g];all_goals rfl,SV.nil,rfl,rfl⟩⟩
   rw[z]at g;simp only[]at g;obtain⟨p1,p2,p3,p4⟩:=jA (λx hx=>s x (Yp hx)) z;rw[Yo]at p2;rw[Vm]at g;refine e_ mv (e_ exr (e_ exr (e_ asn (e_ asn (on_ (qn_ (ws_ (ws_ (wr_ (e_ mv ?_))))))))));refine e_ (cK rfl) ?_;refine gk (k:=iff_ (k:=go ?_));refine c2_ rfl (JU (most:=4096) a8 a8 s ae) ?_;rintro _ _ (⟨e9,w,rfl,rfl⟩|⟨q,J,w,rfl,rfl⟩)
   ·rw[w]at g;simp only[]at g;refine e_ mv (e_ exr (e_ exr (e_ asn (e_ asn (on_ (qn_ (ws_ (ws_ (wr_ (e_ mv ?_))))))))));refine e_ (de rfl) ?_;refine gk (k:=ift (k:=go ?_));refine gR ?_;exact⟨_,hsb,.inl ⟨by rw[E,hI,g];all_goals rfl,SV.nil,rfl,rfl⟩⟩
   rw[w]at g;simp only[]at g;obtain⟨r1,r2,r3,r4⟩:=Ct (λx hx=>s x (Yp hx)) w;rw[Yo]at r1;obtain⟨fp,a1⟩:=gE fs f;rw[Vm,a1]at g;refine e_ mv (e_ exr (e_ exr (e_ asn (e_ asn (on_ (qn_ (ws_ (ws_ (wr_ (e_ mv ?_))))))))));refine e_ (cK rfl) ?_;refine gk (k:=iff_ (k:=go ?_));refine wD [10,11,13] (λk H=>(k=1→cY H L [.int .i64 d,C.val])∧(k=3→cY H S [fv.val])∧(k=5→Sl H fv eF fs)∧(k=6→Sl H fv eF fs)∧(k=7→Sl H fv eF fs)) (aF 0 (k:=?_));refine aN 1 rfl (λH hH=>aw) ?_;refine aF 2 (k:=?_);refine aN 3 rfl (λH hH=>aE) ?_;refine aF 4 (k:=?_);refine aN 5 rfl (λH hH=>by have hN:=hH.2.2.1 rfl;exact ixa) ?_;refine aN 6 rfl (λH hH=>by have hN:=hH.2.2.2.1 rfl;exact fle) ?_;refine aN 7 rfl (λH hH=>by have hN:=hH.2.2.2.2 rfl;exact lfl) ?_;refine aF 8 (k:=af_ 9 (q:=cU λH hH=>bld [(0,_),(1,_)]) (k:=?_));refine aS 10 rfl (eC eVl rfl rfl) ?_;rintro _ _ ⟨s84,rfl,rfl⟩;refine aS 11 rfl (fw rfl rfl rfl rfl af af) ?_;rintro _ _ ⟨T,rfl,rfl⟩;refine go ?_;refine aS 13 rfl (db rfl rfl rfl) ?_;rintro _ _ ⟨rfl,rfl⟩;refine aZ (go ?_);refine ln_ ((T,h++ [(fp.name,dQ q)],e+K+J,j+1)) (h2:=?_) (k:=?_)
   ·try dsimp only
    simp;omega
   try dsimp only
   refine⟨aH,a8,a8,aH,?_⟩;rw[g,show n-(h++ [(fp.name,dQ q)]).length=k from aH,show e+K+J-(a+t)=e-(a+t)+(K+J)from a8,Vz e K J];cases lq fs k (body.drop (e+(K+J)))with
   |none=>rfl
   |some p=>simp only[rj,Yf,Yd,Ye,Vd,U0,Vz]
  have Z:n-h.length=0:=a8;rw[Z,lq]at g;have a3:lq fs n (body.drop (a+t))=some (h,e-(a+t)):=by rw[g];simp[rj]
  rw[a3]at hI;simp only[]at hI;refine gk (k:=fX eD (k:=λs90=>?_));refine app (k:=λF=>?_);rw[show b.map dgV++ [(d,C)]=(b++ [(⟨d,C,h⟩:DG)]).map dgV from by simp[dgV]];refine eN (cH.trans (H':=Row C eVl h::Cl dgH b::Row F eD ((b++ [(⟨d,C,h⟩:DG)]).map dgV)::Rd bq (body,e)::Row U eI l::Vr S [fv.val]::H) hsb (Jf ⟨d,C,h⟩)) ?_;refine go ?_;refine lN ((i+1,F,b++ [⟨d,C,h⟩],e)) ?_
  try dsimp only
  refine⟨a8,he,aH,?_⟩;rw[hI,show(b++ [(⟨d,C,h⟩:DG)]).map dgD=b.map dgD++ [(d,h)]from by simp[dgD],Vm,show t+(e-(a+t))=e-a from a8,show a+(e-a)=e from a8];cases kF fs (l.drop (i+1)) (body.drop e)with
  |none=>rfl
  |some p=>simp only[rj,Yf,Yd,Ye,Option.some.injEq,Prod.mk.injEq,true_and];omega
 have a0:i=l.length:=a8;rw[a0,X4,kF]at hI;have B:kS fs ids body=if a<body.length then none else some (b.map dgD):=by rw[E,hI];simp[rj]
 refine go ?_;refine wD [4] (λ_ _=>True) (go ?_);refine aS 4 rfl (v1_ (pn ha)) ?_;rintro v _ ⟨rfl,R⟩;refine qa (λ_=>trivial) ?_;refine cO 5 rfl rfl aa rfl (df ((show Ev G _ _ _ _ (.bool (decide (a=body.length)))from by
  rcases R with⟨A,rfl⟩|⟨A,rfl⟩
  ·exact evq (kQ rfl) (congrArg Value.bool (Yr a8).symm)
  ·exact evq (iu rfl) (congrArg Value.bool (Ys a8).symm)))) ?_
 refine gR ?_
 by_cases A:a<body.length
 ·rw[if_pos A]at B;exact⟨_,hsb,.inl ⟨B,u,by rw[show decide (a=body.length)=false from Yr a8];all_goals rfl,rfl⟩⟩
 ·rw[if_neg A]at B;exact⟨_,hsb,.inr ⟨b,u,B,by rw[show decide (a=body.length)=true from Ys a8];all_goals rfl,rfl⟩⟩
end Go.Sx
