import Derived.Test.YtcokhbglfaakjaaGreatDoorQ18
import Derived.Test.YtcokhbglfaakjaaGreatDoorQ19
set_option linter.all false
set_option maxHeartbeats 0
namespace Go.Sx
open Go Go.Proofs
set_option maxRecDepth 100000
section
variable {fs:List FV}
theorem yX (c:fs.length≤16):∀(vs:List Val) (r:List Nat),(∀v∈vs,v.2.size≤4096∧∃k,ig fs (dC v.1)=some k)→oe fs vs.length (vs.flatMap (gD fs)++r)=some (vs,(vs.flatMap (gD fs)).length)
 | [],r,_=>rfl
 |v::vs,r,h=>by
  obtain⟨h1,k,hk⟩:=h v aq;have d:=yX c vs r λx hx=>h x (Xa _ hx);have hk2:=hk;unfold ig at hk2;rw[List.findIdx?_eq_some_iff_getElem]at hk2;obtain⟨b,hp,_⟩:=hk2;have hn:(((fs[k]?).map (·.name)).getD ByteArray.empty)=v.1:=by
   rw[Yi b];exact jy.1 (Yt hp)
  have a:=dI v.2;have e:(v::vs).flatMap (gD fs)++r=uv k++(uv (dC v.2).length++dC v.2++(vs.flatMap (gD fs)++r)):=by
   rw[Vx,gD,hk,V4,a];simp only[Yf]
  have f:((v::vs).flatMap (gD fs)).length=(uv k).length+((uv (dC v.2).length).length+(dC v.2).length)+(vs.flatMap (gD fs)).length:=by
   rw[Vx,gD,hk,V4,a];simp only[Ya,a];(try omega)
  rw[e,Yb,oe,gw _ a8 a8];simp only[];rw[Vg,zh _ a8 a8];simp only[];rw[←Vt,Vg,←Ya,Vg,d,jW,hn,f];simp only[Ya]
theorem zS (a:fs.length≤16):∀(ds:List Doc) (r:List Nat),(∀d∈ds,jv fs d.2=0)→nd fs (ds.map (·.1)) (gm fs ds++r)=some (ds,(gm fs ds).length)
 | [],r,_=>rfl
 |d::ds,r,h=>by
  obtain⟨h1,h2⟩:=np (h d aq);have b:=zS a ds r λx hx=>h x (Xa _ hx);have e:gm fs (d::ds)++r=uv d.2.length++(d.2.flatMap (gD fs)++(gm fs ds++r)):=by
   simp only[gm,Vx,tx,Yf]
  have c:(gm fs (d::ds)).length=(uv d.2.length).length+(d.2.flatMap (gD fs)).length+(gm fs ds).length:=by
   simp only[gm,Vx,tx,Ya]
  rw[e,Xs,nd,gw _ a8 a8];simp only[];rw[Vg,yX a _ _ h2];simp only[];rw[←Vt,Vg,Vg,b,c]
theorem Dt {ds:List Doc}(h:mg fs ds):nB fs (pU ds) (gm fs ds)=some ds:=by
 have a:=h.few;have h1:=Cu (l:=ds.map (·.1)) h.pos h.up (λx hx=>bU) bV;rw[Yh]at h1;have h2:gF 4096 (pU ds)=.ok (ds.map (·.1),(pU ds).length):=by
  unfold gF at h1⊢;unfold pU;rw[gw _ a8 (by have:=pK (ds.map (·.1)) (-1);rw[Yh]at this;simp only[Ya];omega)]at h1;rw[gw _ a8 a];exact h1
 have h3:=zS h.flen ds [] h.vals;rw[Ym]at h3;rw[nB,h2];simp only[];rw[if_neg a8,h3];simp only[];rw[if_neg a8]
end
open Tryz
section
variable {G:dJ}{H:dD}{fs:List FV}{lp:List (SV×SV)}
def nY (fs:List FV) (ds:List Doc):Bool:=decide (ds.length≤4096)&&decide (o6 fs (-1) ds=0)
abbrev km:=List Doc×List Int
def vn (fs:List FV) (ps:List km):Bool:=iK fs&&ps.all λp=>nY fs p.1
theorem H3 {ps:List km}(h:vn fs ps=true){p:km}(hp:p∈ps):sg fs p.1=0:=by
 rw[vn,Xu,X5]at h;have h2:=h.2 p hp;rw[nY,Xu,Xq,Xq]at h2;rw[sg,h.1,if_neg ae,if_neg a8];exact h2.2
def XB (H:dD) (p:SV×SV) (d:km):Prop:=(∃l,Sl H p.1 eD l∧gK H l d.1)∧Sl H p.2 eI d.2
def rm (H:dD) (lp:List (SV×SV)) (ps:List km):Prop:=lp.length=ps.length∧∀(i:Nat) (p:SV×SV) (d:km),lp[i]? =some p→ps[i]? =some d→XB H p d
theorem rm.get {ps:List km}(h:rm H lp ps){i:Nat}(hi:i<lp.length):∃p d l,lp[i]? =some p∧ps[i]? =some d∧Sl H p.1 eD l∧gK H l d.1∧Sl H p.2 eI d.2:=by
 have h1:lp[i]? =some lp[i]:=Yi hi;have h2:ps[i]? =some (ps[i]'(by have:=h.1;omega)):=Yi _;obtain⟨⟨l,h3,h4⟩,h5⟩:=h.2 i _ _ h1 h2;exact⟨_,_,l,h1,h2,h3,h4,h5⟩
theorem rm.less {H':dD}{ps:List km}(hs:dH H' H) (h:rm H lp ps):rm H' lp ps:=⟨h.1,λi p d hp hd=>by
 obtain⟨⟨l,h1,h2⟩,h3⟩:=h.2 i p d hp hd;exact⟨⟨l,ee hs h1,h2.less hs⟩,ee hs h3⟩⟩
structure SmD (fs:List FV) (ds:List Doc):Prop where
 fl:fs.length≤1000000
 fn:∀f∈fs,f.name.size≤1000000000
 n:ds.length≤1000000000
 q:∀d∈ds,d.2.length≤1000000000∧∀v∈d.2,v.2.size≤1000000000
theorem Sb {fv dv:SV}{l:List (Int×SV)}{ds:List Doc} [hf:Sl H fv eF fs] [hd:Sl H dv eD l] (f:gK H l ds) (hsm:SmD fs ds):SC G prog 45 [.agg #[fv.val],dv.val] H (λv r=>v=.bool (nY fs ds)∧r=H):=by
 have hll:=f.1;have hn:=hsm.n;refine sWk func45 ?_;refine gk (k:=bxx (k:=λb2=>?_));refine gW (λh1=>?_) λh1=>?_
 ·have hbad:nY fs ds=false:=by rw[nY,Yr ao,Vk]
  refine gR ?_;exact⟨_,hsb,cE,rfl⟩
 have b:nY fs ds=decide (o6 fs (-1) ds=0):=by rw[nY,Ys ao,Xv]
 refine go ?_;refine gk (k:=e8 (Nat×Int) (λy=>y.1≤ds.length∧ -1≤y.2∧(o6 fs (-1) ds=0↔o6 fs y.2 (ds.drop y.1)=0)) (λy=>[(5,.int .i64 y.2),(14,iN y.1)]) [(2,_),(12,_),(13,_)] (λy=>[]) _ (λy=>ds.length-y.1) ((0, -1)) (h0:=?_) (k:=?_))
 ·exact⟨Yl _,ae,Iff.rfl⟩
 rintro⟨i,n⟩ ⟨hi,hla,a⟩
 try dsimp only[Yd,Ye]at*
 refine gW (λh2=>?_) λh2=>?_
 ·obtain⟨d,sv,j,hl,e,hsv⟩:=f.get (i:=i) a8;have g:=hsm.q _ (Yj e);rw[eh e,o6]at a;simp only at a g;refine wk_ (qn_ (ws_ (wb_ (ws_ (wr_ (e_ ixa (e_ (gr (hy:=hl)) (alc (k:=λb7=>?_)))))))));refine gk (k:=ep 4 26 (k:=λh3=>gk (k:=edq)) (q:=go ?_));refine wi_ (k:=λh4=>?_) (m:=λh4=>?_)
  ·have hbad:nY fs ds=false:=by
    rw[b,Yr];intro h8;have c:=a.1 h8;have h9:=h4
    split at c
    ·cases c
    ·split at c
     ·cases c
     ·omega
   refine gR ?_;exact⟨_,hsb,cE,rfl⟩
  have hin:n<d∧d<1099511627776:=aJ;rw[if_neg a8,if_neg a8]at a;refine go ?_;refine d2_ rfl (WV hsm.fl hsm.fn g.1 g.2) (gW (λh5=>?_) (λh5=>?_))
  ·have hbad:nY fs ds=false:=by
    rw[b,Yr];intro h8;have c:=a.1 h8;have h9:=h5
    split at c
    ·rename_i h6;rw[h6]at h9;exact h9 rfl
    ·omega
   refine gR ?_;exact⟨_,hsb,cE,rfl⟩
  have p:jv fs j=0:=aW;rw[if_pos p]at a;refine go ?_;refine lN ((i+1,d)) ?_
  exact⟨a8,a8,a⟩
 obtain rfl:i=ds.length:=a8;rw[Vi,o6]at a;have h:nY fs ds=true:=by rw[b,Ys (a.2 rfl)]
 refine gR ?_;exact⟨_,hsb,by rw[h];all_goals rfl,rfl⟩
theorem Zp {fv pv:SV}{ps:List km} [hf:Sl H fv eF fs] [hd:Sl H pv eP lp] (b:rm H lp ps) (hpl:ps.length≤1000000000) (hsm:∀p∈ps,SmD fs p.1) (hfl:fs.length≤1000000) (h:∀f∈fs,f.name.size≤1000000000):SC G prog 18 [.agg #[fv.val,pv.val]] H (λv q=>v=.bool (vn fs ps)∧q=H):=by
 have hll:=b.1;refine sWk func18 ?_;refine gk (k:=bxx (k:=λb1=>?_));refine go ?_;refine c1_ rfl (zg (fs:=fs) a8 (λf hf=>by have:=h f hf;omega)) ?_;rintro _ _ ⟨c,rfl,hc,rfl⟩;refine gW (λh1=>?_) λh1=>?_
 ·have hbad:vn fs ps=false:=by
   have h9:=h1;rcases hc with⟨h8,_⟩|⟨_,h8⟩
   ·rw[vn,h8,Vk]
   ·exact absurd h8 h9
  refine gR ?_;exact⟨_,hsb,cE,rfl⟩
 have j:iK fs=true:=by
  have h9:=h1;rcases hc with⟨_,h8⟩|⟨h8,_⟩
  ·exact absurd h8 a8
  ·exact h8
 have g:vn fs ps=ps.all λp=>nY fs p.1:=by rw[vn,j,Xv]
 refine gk (k:=e8 Nat (λy=>y≤ps.length∧vn fs ps=(ps.drop y).all λp=>nY fs p.1) (λy=>[(14,iN y)]) [(1,_),(12,_),(13,_)] (λy=>[]) _ (λy=>ps.length-y) (0) (h0:=?_) (k:=?_))
 ·exact⟨Yl _,g⟩
 rintro i ⟨hi,a⟩
 try dsimp only[Yd,Ye]at*
 refine gW (λh2=>?_) λh2=>?_
 ·obtain⟨p,d,l,hp,e,g1,n,g3⟩:=b.get (i:=i) a8;have m:=hsm _ (Yj e);rw[eh e,List.all_cons]at a;refine wk_ (qn_ (ws_ (wb_ (ws_ (wr_ (e_ ixa (e_ (gr (hy:=hp)) (alc (k:=λb5=>?_)))))))));refine go ?_;refine d2_ rfl (Sb (ds:=d.1) (n.less hsb) m) (gW (λh3=>?_) (λh3=>?_))
  ·have hbad:vn fs ps=false:=by rw[a,show nY fs d.1=false from da,Vk]
   refine gR ?_;exact⟨_,hsb,cE,rfl⟩
  rw[show nY fs d.1=true from da,Xv]at a;refine go ?_;refine lN (i+1) ?_
  exact⟨a8,a⟩
 obtain rfl:i=ps.length:=a8;rw[Vi,List.all_nil]at a;refine gR ?_;exact⟨_,hsb,by rw[a];all_goals rfl,rfl⟩
end
end Go.Sx
