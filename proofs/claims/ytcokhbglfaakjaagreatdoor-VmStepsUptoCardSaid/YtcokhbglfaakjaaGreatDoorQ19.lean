import Derived.Test.YtcokhbglfaakjaaGreatDoorQ15
set_option linter.all false
set_option maxHeartbeats 0
namespace Go.Sx
open Go Go.Proofs Tryz
set_option maxRecDepth 100000
section
variable {G:dJ}{H:dD}{a:PrA}{all:Bool}{h i op:Nat}{p:PrG}{tb:Hs}
theorem OC {A B:Nat} [hp:il H a p] (hA:A<18446744073709551616) (hB:B<18446744073709551616) (hl:p.avgs.length≤1000000000∧p.curs.length≤1000000000∧p.nears.length≤1000000000):SC G prog 195 [.agg (prV a all).toArray,.agg #[iN op,uN A,uN B]] H (λv g=>v=.bool (ng p (op,A,B))∧g=H):=by
 obtain⟨hl1,hl2,hl3⟩:=hl;have hnl:=hp.nr.1;refine sWk func195 ?_;refine gk (k:=bxx (k:=λb2=>?_));refine bxx (k:=λb3=>?_);refine go ?_;refine gW (λh1=>?_) λh1=>?_
 ·have b:op=3:=by have h9:=h1;omega
  subst b;refine ws_ (wr_ (e_ fla (e_ ldv (e_ fla (e_ ldv (e_ lnn ?_))))));refine e_ (dW 18446744073709551616 rfl rfl rfl p.avgs.length rfl a8) ?_;refine gR ?_;exact⟨_,hsb,congrArg Value.bool (Vm.2 (show _↔A<p.avgs.length from a8)),rfl⟩
 have f:¬op=3:=ao;refine gW (λh2=>?_) λh2=>?_
 ·have b:op=4:=by have h9:=h2;omega
  subst b;refine ws_ (wr_ (e_ fla (e_ ldv (e_ fla (e_ ldv (e_ lnn ?_))))));refine e_ (dW 18446744073709551616 rfl rfl rfl p.curs.length rfl a8) ?_;refine gR ?_;exact⟨_,hsb,congrArg Value.bool (Vm.2 (show _↔A<p.curs.length from a8)),rfl⟩
 have e:¬op=4:=aw;refine gW (λh3=>?_) λh3=>?_
 ·have b:op=5:=by have h9:=h3;omega
  subst b;refine ws_ (wr_ (e_ fla (e_ ldv (e_ fla (e_ ldv (e_ lnn ?_))))));refine e_ (dW 18446744073709551616 rfl rfl rfl a.nz.length rfl a8) ?_;refine gR ?_;exact⟨_,hsb,congrArg Value.bool (Vm.2 (show _↔A<p.nears.length from a8)),rfl⟩
 have d:¬op=5:=aD;refine gW (λh4=>?_) λh4=>?_
 ·have b:op=14:=by have h9:=h4;omega
  subst b;refine gk (k:=dV 4 43 (k:=λh5=>gk (k:=edq)) (q:=gk (k:=dV 6 50 (k:=λh6=>gk (k:=edq)) (q:=go ?_))));refine gR ?_;exact⟨_,hsb,congrArg Value.bool (bq dp),rfl⟩
 have c:¬op=14:=aJ;refine gR ?_;exact⟨_,hsb,by rw[KU f e d c];all_goals rfl,rfl⟩
theorem OD {cs os:SV}{n:lI} [hp:il H a p] [hc:Sl H cs eI n.cs] [ho:Sl H os eI n.offs] (hnl:n.cs.length≤1000000000):SC G prog 193 [.agg (prV a all).toArray,.agg #[cs.val,os.val,.int .i64 n.slop]] H (λv w=>v=.bool (fQ p n)∧w=H):=by
 refine sWk func193 ?_;refine gk (k:=bxx (k:=λb2=>?_));refine bxx (k:=λb3=>?_);refine gk (k:=ep 8 19 (k:=λh1=>gk (k:=edq)) (q:=gk (k:=ep 4 24 (k:=λh2=>gk (k:=edq)) (q:=?_))));refine gk (k:=ep 4 29 (k:=λh3=>gk (k:=edq)) (q:=gW (λh4=>?_) (λh4=>?_)))
 ·have hno:fQ p n=false:=by
   have h9:=h4;unfold fQ
   by_cases c1:1≤n.cs.length
   ·by_cases c2:n.offs.length=n.cs.length
    ·rw[jQ a8];simp
    ·rw[Yr c2];simp
   ·rw[Yr c1];simp
  refine gR ?_;exact⟨_,hsb,cW,rfl⟩
 have hg1:1≤n.cs.length∧n.offs.length=n.cs.length∧0≤n.slop∧n.slop<2147483647:=aJ;obtain⟨hg1,hg2,hg3⟩:=hg1;have m:fQ p n=sF p n n.cs n.offs:=db;obtain⟨c,d⟩:=gE n.cs 0;have s:n.cs.headD 0=c:=by rw[Q3,List.head?_eq_getElem?,d];all_goals rfl
 refine gk (k:=e8 Nat (λy=>y≤n.cs.length∧fQ p n=sF p n (n.cs.drop y) (n.offs.drop y)∧(0<y→0≤c∧c<(p.curs.length:Int))) (λy=>[(5,iN y)]) [(2,_),(3,_)] (λy=>[]) _ (λy=>n.cs.length-y) (0) (h0:=?_) (k:=?_))
 ·try dsimp only
  exact⟨Yl _,by rw[m];all_goals rfl,a8⟩
 rintro i ⟨hi,b,h⟩
 try dsimp only[Yd,Ye]at*
 refine gW (λh5=>?_) λh5=>?_
 ·obtain⟨k,hk⟩:=gE n.cs i;obtain⟨o,e⟩:=gE n.offs i;rw[eh hk,eh e,xL,s]at b;refine wk_ (qn_ (ws_ (wb_ (ws_ (wr_ (e_ fla (e_ ldv (e_ mv (e_ ixa (e_ (lel (hy:=hk)) (e_ asn (on_ (qn_ ?_)))))))))))));refine ws_ (ws_ (wr_ (e_ mv (e_ ilt (e_ mv (ep 6 50 (k:=λh6=>gk (k:=edq)) (q:=e_ mv (ep 7 58 (k:=λh7=>eg_ fla (eg_ ldv (eg_ mv (eg_ ixa (eg_ (lel (hy:=e)) (gk (k:=edq))))))) (q:=e_ mv (ep 7 66 (k:=λh8=>eg_ fla (eg_ ldv (eg_ mv (eg_ ixa (eg_ (lel (hy:=e)) (gk (k:=edq))))))) (q:=gW (λh9=>?_) (λh9=>?_))))))))))))
  ·have hno:fQ p n=false:=by
    have h9:=h9;rw[b]
    by_cases c1:0≤k∧k<(p.curs.length:Int)
    ·rw[jQ (x:=o) a8];simp
    ·rw[jQ c1];simp
   refine gR ?_;exact⟨_,hsb,cW,rfl⟩
  have g:(0≤k∧k<(p.curs.length:Int))∧0≤o∧o<2147483647:=by have h9:=h9;omega
  have f:0≤c∧c<(p.curs.length:Int):=by
   rcases Un i with rfl|hi0
   ·rw[hk]at d;cases d;exact g.1
   ·exact h hi0
  rw[kE g.1,kE g.2]at b;obtain⟨x,hx⟩:=gE p.curs k.toNat;obtain⟨y,hy⟩:=gE p.curs c.toNat;have l:sG p k=x.1:=by unfold sG;rw[hx]
  have j:sG p c=y.1:=by unfold sG;rw[hy]
  have r:k=((k.toNat:Nat):Int):=a8;have u:c=((c.toNat:Nat):Int):=a8;refine go ?_;refine dX dN (as_ 0 (q:=fla) (k:=as_ 1 (q:=ldv) (k:=as_ 2 (q:=mv) (k:=as_ 3 (q:=ixa (i:=k.toNat) (hj:=r)) (k:=as_ 4 (q:=fle) (k:=as_ 5 (q:=lfl (hy:=hx)) (k:=as_ 6 (q:=fla) (k:=as_ 7 (q:=ldv) (k:=as_ 8 (q:=fla) (k:=as_ 9 (q:=ldv) (k:=as_ 10 (q:=ixa (i:=0)) (k:=as_ 11 (q:=lel (hy:=d)) (k:=as_ 12 (q:=ixa (i:=c.toNat) (hj:=u)) (k:=?_))))))))))))));refine as_ 13 (q:=fle) (k:=as_ 14 (q:=lfl (hy:=hy)) (k:=gW (λh10=>?_) (λh10=>?_)))
  ·have hno:fQ p n=false:=by
    have h9:=h10;rw[b,l,j,Yr h9];simp
   refine gR ?_;exact⟨_,hsb,cW,rfl⟩
  have t:x.1=y.1:=ck;rw[l,j,Ys t,Bool.and_true,Xv]at b;refine go ?_;refine lN (i+1) ?_
  try dsimp only
  exact⟨a8,by simpa using b,λ_=>f⟩
 obtain rfl:i=n.cs.length:=a8;rw[Vi]at b;refine gR ?_;exact⟨_,hsb,by rw[b];all_goals rfl,rfl⟩
theorem Dp {b:Option Int}{k:Int}{r:List Int}:jq p b (k::r)=(fw k p.curs.length&&(match b with|none=>true|some x=>decide (x<k))&&jq p (some k) r):=rfl
theorem I9 [hp:il H a p] (hs:Bz p):SC G prog 140 [.agg (prV a p.all).toArray] H (λv S=>v=.bool (iP p)∧S=H):=by
 have hs1:=hs.a;have hs2:=hs.c;have hs3:=hs.n;have hs4:=hs.d;have hnl:=hp.nr.1;have hdef:iP p=(decide (1≤p.avgs.length)&&decide (p.avgs.length≤16)&&p.avgs.all (λa=>decide (0≤a))&&p.curs.all (λc=>fw c.1 p.avgs.length&&decide (c.2.size≤64))&&p.nears.all (fQ p)&&!(p.all&&decide (0<p.drive.length))&&jq p none p.drive):=rfl;refine sWk func140 ?_;refine gk (k:=bxx (k:=λb1=>?_));refine gk (k:=ep 5 17 (k:=λh1=>gk (k:=edq)) (q:=go ?_));refine wi_ (k:=λh2=>?_) (m:=λh2=>?_)
 ·have hno:iP p=false:=by
   have h9:=h2;rw[hdef]
   by_cases c1:1≤p.avgs.length
   ·rw[Yr (p:=p.avgs.length≤16) a8];simp
   ·rw[Yr c1];simp
  refine gR ?_;exact⟨_,hsb,cW,rfl⟩
 have hg1:1≤p.avgs.length∧p.avgs.length≤16:=aw;rw[Ys hg1.1,Ys hg1.2,Xv,Xv]at hdef;refine gk (k:=e8 Nat (λy=>y≤p.avgs.length∧p.avgs.all (λa=>decide (0≤a))=(p.avgs.drop y).all (λa=>decide (0≤a))) (λy=>[(3,iN y)]) [(1,_)] (λy=>[]) _ (λy=>p.avgs.length-y) (0) (h0:=?_) (k:=?_))
 ·exact⟨Yl _,bC⟩
 rintro i ⟨hi,e⟩
 try dsimp only[Yd,Ye]at*
 refine gW (λh3=>?_) λh3=>?_
 ·obtain⟨x,hx⟩:=gE p.avgs i;rw[all_drop hx]at e;refine wk_ (qn_ (ws_ (wb_ (ws_ (wr_ (e_ fla (e_ ldv (e_ mv (e_ ixa (e_ (lel (hy:=hx)) (go ?_)))))))))));refine wi_ (k:=λh4=>?_) (m:=λh4=>?_)
  ·rw[Yr (by have h9:=h4;omega:¬0≤x),Vk]at e;rw[e]at hdef;refine gR ?_;exact⟨_,hsb,cQ,rfl⟩
  rw[Ys (by have h9:=h4;omega:0≤x),Xv]at e;refine go ?_;refine lN (i+1) ?_
  exact⟨a8,e⟩
 obtain rfl:i=p.avgs.length:=a8;rw[Vi,List.all_nil]at e;rw[e,Xv]at hdef;refine gk (k:=e8 Nat (λy=>y≤p.curs.length∧p.curs.all (λc=>fw c.1 p.avgs.length&&decide (c.2.size≤64))=(p.curs.drop y).all (λc=>fw c.1 p.avgs.length&&decide (c.2.size≤64))) (λy=>[(4,iN y)]) [(1,_)] (λy=>[]) _ (λy=>p.curs.length-y) (0) (h0:=?_) (k:=?_))
 ·exact⟨Yl _,bC⟩
 rintro j ⟨hj,d⟩
 try dsimp only[Yd,Ye]at*
 refine gW (λh5=>?_) λh5=>?_
 ·obtain⟨x,hx⟩:=gE p.curs j;have hxs:=hs.ct x (Yj hx);rw[all_drop hx]at d;refine wk_ (qn_ (ws_ (wb_ (ws_ (wr_ (e_ fla (e_ ldv (e_ mv (e_ ixa (e_ (gr (hy:=hx)) (alc (k:=λb5=>?_))))))))))));refine gk (k:=ep 7 53 (k:=λh6=>gk (k:=edq)) (q:=gk (k:=ep 5 59 (k:=λh7=>gk (k:=edq)) (q:=go ?_))));refine wi_ (k:=λh8=>?_) (m:=λh8=>?_)
  ·have hno:(fw x.1 p.avgs.length&&decide (x.2.size≤64))=false:=by
    have h9:=h8
    by_cases c1:0≤x.1∧x.1<(p.avgs.length:Int)
    ·rw[Yr a8,Bool.and_false]
    ·rw[jQ c1,Vk]
   rw[hno,Vk]at d;rw[d]at hdef;refine gR ?_;exact⟨_,hsb,cQ,rfl⟩
  have r:(fw x.1 p.avgs.length&&decide (x.2.size≤64))=true:=by
   have h9:=h8;rw[kE a8,Ys a8];all_goals rfl
  rw[r,Xv]at d;refine go ?_;refine lN (j+1) ?_
  exact⟨a8,d⟩
 obtain rfl:j=p.curs.length:=a8;rw[Vi,List.all_nil]at d;rw[d,Xv]at hdef;refine gk (k:=e8 Nat (λy=>y≤p.nears.length∧p.nears.all (fQ p)=(p.nears.drop y).all (fQ p)) (λy=>[(6,iN y)]) [(1,_)] (λy=>[]) _ (λy=>p.nears.length-y) (0) (h0:=?_) (k:=?_))
 ·exact⟨Yl _,bC⟩
 rintro C ⟨hk1,b⟩
 try dsimp only[Yd,Ye]at*
 refine gW (λh9=>?_) λh9=>?_
 ·obtain⟨⟨z1,z2,z3⟩,n,R,hn,A,z,u⟩:=hp.nr.get (i:=C) (by have h9:=h9;omega);dsimp only at A z u;subst u;haveI:=A;haveI:=z;have L:=hs.ns n (Yj hn);rw[all_drop hn]at b;refine go ?_;refine dX dN (as_ 0 (q:=lds) (k:=as_ 1 (q:=fla) (k:=as_ 2 (q:=ldv) (k:=as_ 3 (q:=mv) (k:=as_ 4 (q:=ixa) (k:=as_ 5 (q:=gr (hy:=R)) (k:=?_)))))));refine dS 6 rfl rfl aa rfl (iR (vs:= [_,_]) rfl (OD L)) ?_;refine gW (λh10=>?_) λh10=>?_
  ·rw[show fQ p n=false from ck,Vk]at b;rw[b]at hdef;refine gR ?_;exact⟨_,hsb,cQ,rfl⟩
  rw[show fQ p n=true from ck,Xv]at b;refine go ?_;refine lN (C+1) ?_
  exact⟨a8,b⟩
 obtain rfl:C=p.nears.length:=by have h9:=h9;omega
 rw[Vi,List.all_nil]at b;rw[b,Xv]at hdef;refine gk (k:=dV 5 82 (k:=λh11=>gk (k:=edq)) (q:=go ?_));refine wi_ (k:=λh12=>?_) (m:=λh12=>?_)
 ·have hno:(!(p.all&&decide (0<p.drive.length)))=false:=by
   have h9:=h12;rw[h9.1,Ys a8];all_goals rfl
  rw[hno,Vk]at hdef;refine gR ?_;exact⟨_,hsb,cQ,rfl⟩
 have r:(!(p.all&&decide (0<p.drive.length)))=true:=by
  have h9:=h12;cases hpa:p.all with
  |false=>rfl
  |true=>rw[Yr (by rcases h9 with c1|c1;rw[hpa]at c1;cases c1;omega)];all_goals rfl
 rw[r,Xv]at hdef;refine gk (k:=e8 Nat (λy=>y≤p.drive.length∧jq p none p.drive=jq p (sE p.drive y) (p.drive.drop y)) (λy=>[(7,iN y)]) [(1,_)] (λy=>[]) _ (λy=>p.drive.length-y) (0) (h0:=?_) (k:=?_))
 ·try dsimp only
  exact⟨Yl _,by rw[Va];all_goals rfl⟩
 rintro m ⟨hm,hdl⟩
 try dsimp only[Yd,Ye]at*
 refine gW (λM=>?_) λM=>?_
 ·obtain⟨x,hx⟩:=gE p.drive m;rw[eh hx,Dp]at hdl;have B:sE p.drive (m+1)=some x:=by unfold sE;rw[if_neg a8,X7,hx]
  obtain⟨w,N⟩:∃w:Int,0<m→p.drive[m-1]? =some w:=by
   rcases Un m with h9|h9
   ·exact⟨0,λh=>a8⟩
   ·exact⟨p.drive[m-1]'(a8),λ_=>Yi _⟩
  have K:(match sE p.drive m with|none=>true|some y=>decide (y<x))=(decide (m=0) ||decide (w<x)):=by
   rcases Un m with h9|h9
   ·subst h9;rfl
   ·unfold sE;rw[if_neg a8,N h9,Yr (by omega:¬m=0),Q8]
  rw[K]at hdl;refine go ?_;refine dX dN (as_ 0 (q:=fla) (k:=as_ 1 (q:=ldv) (k:=as_ 2 (q:=mv) (k:=as_ 3 (q:=ixa) (k:=as_ 4 (q:=lel (hy:=hx)) (k:=as_ 5 (q:=ilt) (k:=?_)))))));refine fH 6 rfl rfl aa rfl (ey mv) (λl=>?_) (λl=>?_)
  ·replace l:=nrm l;have F:=l;rw[jQ a8,Vk,Vk]at hdl;refine go ?_;refine gk (k:=ift (k:=go ?_));refine rT (k:=?_);exact⟨_,hsb,cU,rfl⟩
  replace l:=nrm l;have F:=l;refine at2 7 (q:=fla) (k:=at2 8 (q:=ldv) (k:=at2 9 (q:=mv) (k:=at2 10 (q:=ixa) (k:=at2 11 (q:=lel (hy:=hx)) (k:=at2 12 (q:=fla) (k:=at2 13 (q:=ldv) (k:=at2 14 (q:=lnn) (k:=at2 15 (q:=ige) (k:=as_ 16 (q:=pkf) (k:=?_))))))))));refine fH 17 rfl rfl aa rfl (ey mv) (λg=>?_) (λg=>?_)
  ·replace g:=nrm g;have E:=g;rw[jQ a8,Vk,Vk]at hdl;refine go ?_;refine gk (k:=ift (k:=go ?_));refine gR ?_;exact⟨_,hsb,cU,rfl⟩
  replace g:=nrm g;have E:=g;rw[kE a8,Xv]at hdl;refine at2 18 (q:=mv) (k:=at2 19 (q:=igt) (k:=?_));refine o9 20 rfl rfl rfl rfl aa rfl (ey mv) (λf=>?_) (λf=>?_)
  ·replace f:=nrm f;have s:0<m:=by have h9:=f;omega
   have J:=N s;rw[Yr (by omega:¬m=0),Q8]at hdl;refine at2 21 (q:=fla) (k:=at2 22 (q:=ldv) (k:=at2 23 (q:=mv) (k:=at2 24 (q:=ixa) (k:=at2 25 (q:=lel (hy:=hx)) (k:=at2 26 (q:=fla) (k:=at2 27 (q:=ldv) (k:=at2 28 (q:=mv) (k:=?_))))))));refine lH 29 rfl rfl rfl rfl aa rfl (ey (evq isb (congrArg (Value.int .i64) (show _=((m-1:Nat):Int)from a8)))) ?_;refine at2 30 (q:=ixa) (k:=at2 31 (q:=lel (hy:=J)) (k:=gW (λt=>?_) (λt=>?_)))
   ·rw[Yr (by have h9:=t;omega:¬w<x),Vk]at hdl;refine gR ?_;exact⟨_,hsb,cU,rfl⟩
   rw[Ys (by have h9:=t;omega:w<x),Xv,←B]at hdl;refine go ?_;refine lN (m+1) ?_
   exact⟨a8,hdl⟩
  replace f:=nrm f;have s:m=0:=by have h9:=f;omega
  rw[Ys s,Bool.true_or,Xv,←B]at hdl;refine go ?_;refine gk (k:=fM (k:=go ?_));refine lN (m+1) ?_
  exact⟨a8,hdl⟩
 obtain rfl:m=p.drive.length:=a8;rw[Vi]at hdl;refine gR ?_;exact⟨_,hsb,cU,rfl⟩
theorem OL {A B:Nat}(hh:h≤1000000000) (hA:A<18446744073709551616):SC G prog 194 [.agg #[iN op,uN A,uN B],iN h] H (λv i=>Qw (op,A,B) h v∧i=H):=by
 refine sWk func194 ?_;refine gk (k:=bxx (k:=λb2=>?_));refine go ?_;refine gW (λh1=>?_) λh1=>?_
 ·have a:op=0:=by have h9:=h1;omega
  subst a;refine gR ?_;exact⟨_,hsb,vw (p:=h=1) rfl (Vm.2 a8) (λ_=>rfl),rfl⟩
 have a:¬op=0:=ao;refine ld [(13,.bool (decide (1≤op∧op≤5)))] [13,14,15,16,17,18] ?_ ?_
 ·refine gW (λh2=>?_) λh2=>?_
  ·refine gk (k:=jne (hs:=.cons (by first|exact rfl|exact jb (by refine bq ?_;simp;omega)) (.nil)))
  refine gW (λh3=>?_) λh3=>?_
  ·refine gk (k:=jne (hs:=.cons (by first|exact rfl|exact jb (by refine bq ?_;simp;omega)) (.nil)))
  refine gW (λh4=>?_) λh4=>?_
  ·refine gk (k:=jne (hs:=.cons (by first|exact rfl|exact jb (by refine bq ?_;simp;omega)) (.nil)))
  refine gW (λh5=>?_) λh5=>?_
  ·refine gk (k:=jne (hs:=.cons (by first|exact rfl|exact jb (by refine bq ?_;simp;omega)) (.nil)))
  refine gk (k:=jne (hs:=.cons (by first|exact rfl|exact jb (by refine bq ?_;simp;omega)) (.nil)))
 refine wi_ (k:=λh6=>?_) (m:=λh6=>?_)
 ·have f:1≤op∧op≤5:=h6;refine gR ?_;exact⟨_,hsb,.inl ⟨h+1,MB f.1 f.2,rfl⟩,rfl⟩
 have f:¬(1≤op∧op≤5):=h6;refine ld [(21,.bool (decide (6≤op∧op≤10)))] [21,22,23,24,25,26] ?_ ?_
 ·refine gW (λg=>?_) λg=>?_
  ·refine gk (k:=jne (hs:=.cons (by first|exact rfl|exact jb (by refine bq ?_;simp;omega)) (.nil)))
  refine gW (λh8=>?_) λh8=>?_
  ·refine gk (k:=jne (hs:=.cons (by first|exact rfl|exact jb (by refine bq ?_;simp;omega)) (.nil)))
  refine gW (λh9=>?_) λh9=>?_
  ·refine gk (k:=jne (hs:=.cons (by first|exact rfl|exact jb (by refine bq ?_;simp;omega)) (.nil)))
  refine gW (λh10=>?_) λh10=>?_
  ·refine gk (k:=jne (hs:=.cons (by first|exact rfl|exact jb (by refine bq ?_;simp;omega)) (.nil)))
  refine gk (k:=jne (hs:=.cons (by first|exact rfl|exact jb (by refine bq ?_;simp;omega)) (.nil)))
 refine wi_ (k:=λh11=>?_) (m:=λh11=>?_)
 ·have c:6≤op∧op≤10:=h11;refine gR ?_;exact⟨_,hsb,vw (Fv c.1 c.2) (Vm.2 a8) (λ_=>a8),rfl⟩
 have c:¬(6≤op∧op≤10):=h11;refine gW (λh12=>?_) λh12=>?_
 ·have b:op=14:=by have h9:=h12;omega
  subst b;refine ws_ (ws_ (wr_ (e_ fla (e_ ldv (e_ mv ?_)))));refine e_ (dW 18446744073709551616 rfl rfl rfl h rfl a8) ?_;refine gW (λe=>?_) λe=>?_
  ·have d:h<A:=by have h9:=e;omega
   refine gR ?_;exact⟨_,hsb,.inr ⟨by show(if h<A then none else some (h-A+1))=none;rw[if_pos d],0,rfl⟩,rfl⟩
  refine wk_ (qn_ (ws_ (wr_ (e_ mv (e_ fla (e_ ldv ?_))))));refine e_ (ew rfl a8) ?_;refine gR ?_;exact⟨_,hsb,.inl ⟨h-A+1,by show(if h<A then none else some (h-A+1))=_;rw[if_neg a8],congrArg (λk:Int=>Value.tuple #[.int .i64 k,.bool true]) a8⟩,rfl⟩
 have b:¬op=14:=dm;refine gR ?_;exact⟨_,hsb,vw (UH a a8 b) (Vm.2 a8) (λ_=>rfl),rfl⟩
theorem KF {A B:Nat}(hh:h≤1000000000) (hA:A<18446744073709551616):SC G prog 194 [.agg #[iN op,uN A,uN B],iN h] H (λv c=>(∃(k:Int) (b:Bool),(b=true→∃a:Nat,jw (op,A,B) h=some a∧k=(a:Int))∧(b=false→jw (op,A,B) h=none)∧v=.tuple #[.int .i64 k,.bool b])∧c=H):=
 (OL hh hA).mono (λ_ _ h=>⟨Hc h.1,h.2⟩)
theorem ve {n:Nat}(hn:i<n):(decide (((op:Nat):Int)=0) !=decide (((i:Nat):Int)=(n:Int)-1))= !decide (decide (i+1=n)=decide (op=0)):=by
 rw[←xP hn];cases decide (((op:Nat):Int)=0) <;> cases decide (((i:Nat):Int)=(n:Int)-1) <;> rfl
theorem CR (hi:i<tb.length) (a:∀k,tb.getD i none=some k→k=h):kD tb i h=some (tb.set i (some h)):=by
 unfold kD;cases hc:tb.getD i none with
 |none=>rfl
 |some k=>
  obtain rfl:=a k hc;dsimp only;rw[if_pos rfl];congr 1;apply Vz;intro j;rw[Vf]
  by_cases hj:i=j
  ·subst hj;rw[if_pos rfl,if_pos hi];rw[Xj,Yi hi]at hc;rw[Yi hi];exact congrArg some hc
  ·rw[if_neg hj]
theorem CS {k:Nat}(a:tb.getD i none=some k) (hk:k≠h):kD tb i h=none:=by
 unfold kD;rw[a];dsimp only;rw[if_neg hk]
theorem KW (o:Option Nat):(o=none∧ohI o= -1)∨∃k:Nat,o=some k∧ohI o=(k:Int):=by
 cases o with
 |none=>exact .inl ⟨rfl,rfl⟩
 |some k=>exact .inr ⟨k,rfl,rfl⟩
theorem WK {s:SV}{b:List Ins} [hp:il H a p] [hs:Sl H s l7 b] (z:Bz p) (U:0<b.length) (hcl:b.length≤100000000) (hlt:∀x∈b,x.2.1<18446744073709551616∧x.2.2<18446744073709551616):SC G prog 141 [.agg (prV a p.all).toArray,s.val] H (λv H'=>(jr p b b.length 0 (hs0 b.length)=none∧v=.tuple #[.slice none 0 0,.bool false]∧H'=H)∨(∃(tb:Hs) (sl:SV),jr p b b.length 0 (hs0 b.length)=some tb∧tb.length=b.length∧v=.tuple #[sl.val,.bool true]∧H'=Row sl eI (hsI tb)::H)):=by
 have a3:=z.a;have a2:=z.c;have a1:=z.n;have hrp:(List.replicate b.length (0:Int)).length=b.length:=Xe;refine sWk func141 ?_;refine gk (k:=bxx (k:=λb2=>?_));refine go ?_;refine s_ (gn eI 0 rfl rfl _ _ rfl rfl rfl a8 a8 a8) ?_;rintro _ _ ⟨f,rfl,hs17n,hs17c,rfl⟩;refine gk (k:=e8 (Nat×(List Int)) (λy=>y.1≤b.length∧y.2.length=b.length∧∀j,j<y.1→y.2[j]? =some (-1)) (λy=>[(8,iN y.1)]) [(1,_),(2,_),(6,_),(7,_)] (λy=>[Row f eI y.2]) _ (λy=>b.length-y.1) ((0,List.replicate b.length 0)) (h0:=?_) (k:=?_))
 ·exact⟨Yl _,Xe,λj hj=>absurd hj (Up j)⟩
 rintro⟨i,ys⟩ ⟨hi,N,R⟩
 try dsimp only[Yd,Ye]at*
 refine gW (λh1=>?_) λh1=>?_
 ·refine go ?_;refine s_ (et (a:=(-1:Int)) rfl rfl bH a8) ?_;rintro _ _ ⟨rfl,rfl⟩;refine go ?_;refine lN ((i+1,ys.set i (-1))) ?_
  try dsimp only
  exact⟨a8,by rw[Ub];exact N,λj hj=>by
   rw[Vf]
   by_cases hij:i=j
   ·subst hij;rw[if_pos rfl,if_pos a8]
   ·rw[if_neg hij];exact R j a8⟩
 obtain rfl:ys=hsI (List.replicate b.length none):=FN N (λj hj=>R j ao);refine we_ (qe_ (le_ (bh_ (qn_ (ws_ (wr_ (e_ mv (e_ (ixa (i:=0)) ?_))))))));refine s_ (et (i:=0) (a:=(0:Int)) rfl rfl bH a8) ?_;rintro _ _ ⟨rfl,rfl⟩;rw[GQ];refine gk (k:=e8 (Nat×Hs×Nat) (λy=>y.1<b.length∧y.2.1.length=b.length∧jr p b b.length 0 (hs0 b.length)=jr p b (b.length-y.1) y.1 y.2.1∧y.2.1.getD y.1 none=some y.2.2∧∀j k,y.2.1.getD j none=some k→k≤y.1) (λy=>[(9,iN y.1)]) [(1,_),(2,_),(6,_),(7,_)] (λy=>[Row f eI (hsI y.2.1)]) _ (λy=>b.length-y.1) ((0,hs0 b.length,0)) (h0:=?_) (k:=?_))
 ·try dsimp only
  exact⟨U,by rw[hs0,Ub,Xe],by rw[R8],by rw[hs0];exact uc (by rw[Xe];exact U),λj k hk=>by rw[GR hk];exact Xl _⟩
 rintro⟨i,tb,h0⟩ ⟨L,S,a9,M,hkb⟩
 try dsimp only[Yd,Ye]at*
 refine gW (λh2=>?_) λh2=>?_
 ·obtain⟨x,hx⟩:=gE b i;have a0:=hlt x (Yj hx);have a6:b.getD i (0,0,0)=x:=by rw[Xj,hx];all_goals rfl
  obtain⟨op,A,B⟩:=x;obtain⟨hA,hB⟩:=a0;simp only at hA hB;have hh0i:=hkb i h0 M;have u:(hsI tb)[i]? =some (h0:Int):=(pV a8).trans (by rw[M,ohI]);have c:=a9;rw[show b.length-i=(b.length-(i+1))+1 from a8,YK a6 M]at c;have hrl:(hsI tb).length=b.length:=by rw[Yh];exact S
  refine wk_ (qn_ (ws_ (wb_ (ws_ (wr_ (e_ mv (e_ mv (e_ ixa (e_ (gr (hy:=hx)) (alc (k:=λb3=>?_)))))))))));refine go ?_;refine wD [5] (λk H=>(k=0→dQ H b3 [iN op,uN A,uN B])∧(k=3→Sl H f eI (hsI tb))∧(k=4→Sl H f eI (hsI tb))) ?_;dsimp only;refine aN 0 rfl (λH hH=>aX) ?_;refine aF 1 (k:=aF 2 (k:=?_));refine aN 3 rfl (λH hH=>bZ) ?_;refine aN 4 rfl (λH hH=>by have hN:=hH.2.2 rfl;exact lel (hy:=u)) ?_;refine aS 5 rfl (lU (vs:= [_,_]) rfl (KF (op:=op) (A:=A) (B:=B) (h:=h0) a8 hA)) ?_;rintro _ _ ⟨⟨kk,bb,V,b0,rfl⟩,rfl⟩;refine aF 6 (k:=aF 7 (k:=aF 8 (k:=aF 9 (k:=aF 10 (k:=aZ (qn_ (ws_ (ws_ (wr_ (e_ mv (e_ mN (e_ mv (ep 6 54 (k:=λh3=>eg_ mv (eg_ mv (eg_ ixa (eg_ (lel (hy:=u)) (gk (k:=edq)))))) (q:=?_))))))))))))));refine gk (k:=ep 5 60 (k:=λh4=>gk (k:=iU (vs:=[_,_]) (hc:=(OC (p:=p) hA hB ⟨a3,a2,a1⟩)) (k:=gk (k:=edq)))) (q:=gk (k:=ep 9 70 (k:=λh5=>gk (k:=eg_ (vZ rfl rfl) (gk (k:=edq)))) (q:=gW (λh6=>?_) (λh6=>?_)))))
  ·have hno:jr p b b.length 0 (hs0 b.length)=none:=by
    have h9:=h6;cases hb9:bb with
    |false=>rw[b0 hb9]at c;exact c
    |true=>
     obtain⟨r,he,rfl⟩:=V hb9;rw[he]at c;simp only at c;rw[if_neg]at c
     ·exact c
     ·rintro⟨c1,c2⟩;rw[ve L,Ys c1,c2,hb9]at h9;rcases h9 with(h9|h9)|h9
      ·rcases h9 with h9|h9
       ·exact absurd h9 ae
       ·omega
      ·exact absurd h9 ae
      ·exact absurd h9 ae
   refine gR ?_;exact⟨_,hsb,.inl ⟨hno,rfl,rfl⟩⟩
  have T:=h6;obtain rfl:bb=true:=by
   cases hb9:bb with
   |false=>rw[hb9]at T;exact absurd T.1.1.1 ae
   |true=>rfl
  obtain⟨r,he,rfl⟩:=V rfl;have hle:=Hb he;rw[he]at c;simp only at c;rw[if_pos ⟨by have h9:=T.2;rw[ve L]at h9;simpa using h9,T.1.2⟩]at c;have d:decide (i+1=b.length)=decide (op=0):=by have h9:=T.2;rw[ve L]at h9;simpa using h9
  refine gW (λh7=>?_) λh7=>?_
  ·have J:i+1=b.length:=by
    have h8:op=0:=by have h9:=h7;omega
    rw[Ys h8]at d;exact Yt d
   rw[if_pos J]at c;refine go ?_;refine rT (k:=?_);exact⟨_,hsb,.inr ⟨tb,f,c,S,rfl,rfl⟩⟩
  have a4:¬i+1=b.length:=by
   have h8:¬op=0:=by have h9:=h7;omega
   rw[Yr h8]at d;exact of_decide_eq_false d
  rw[if_neg a4]at c;obtain⟨Z,E⟩:∃o,tb.getD (i+1) none=o:=⟨_,rfl⟩;have l:(hsI tb)[i+1]? =some (ohI Z):=by rw[←E];exact pV a8
  refine wk_ (qn_ (ws_ (ws_ (wr_ (e_ mv (e_ mv ?_))))));refine e_ (evq iad (congrArg (Value.int .i64) (show _=((i+1:Nat):Int)from a8))) ?_;refine e_ ixa (e_ (lel (hy:=l)) (e_ ige (e_ mv (dV 8 89 (k:=λh8=>eg_ mv (eg_ mv (eg_ (evq iad (congrArg (Value.int .i64) (show _=((i+1:Nat):Int)from a8))) (eg_ ixa (eg_ (lel (hy:=l)) (gk (k:=edq))))))) (q:=gW (λh9=>?_) (λh9=>?_))))))
  ·obtain⟨w,rfl,K⟩:∃w:Nat,Z=some w∧ohI Z=(w:Int):=by
    have h9:=h9;rcases KW Z with⟨_,h8⟩|h8
    ·rw[h8]at h9;omega
    ·exact h8
   rw[CS E (by have h9:=h9;rw[K]at h9;omega)]at c;refine gR ?_;exact⟨_,hsb,.inl ⟨c,rfl,rfl⟩⟩
  have b1:∀k,tb.getD (i+1) none=some k→k=r:=λk hk=>by
   have h9:=h9;rw[E]at hk;subst hk;rw[show ohI (some k)=((k:Nat):Int)from rfl]at h9;omega
  have F:=CR a8 b1;rw[F]at c;simp only at c;have a5:=tU F;obtain⟨hg1,hg2⟩:=tV F a8;obtain⟨e,t⟩:=ex (tb.set (i+1) (some r));rw[←t]at c a5 hg1 hg2;refine wk_ (qn_ (ws_ (wr_ (e_ mv (e_ mv ?_)))));refine e_ (evq iad (congrArg (Value.int .i64) (show _=((i+1:Nat):Int)from a8))) (go ?_);refine s_ (et (i:=i+1) (a:=(r:Int)) rfl rfl bH a8) ?_;rintro _ _ ⟨rfl,rfl⟩;rw[wy,←t];refine gk (k:=ep 4 102 (k:=λh10=>gk (k:=edq)) (q:=gW (λh11=>?_) (λh11=>?_)))
  ·rw[if_pos (ET bE)]at c;have hrl1:(hsI e).length=b.length:=bV;refine ws_ (ws_ (wr_ (e_ fla (e_ ldv (e_ mv (e_ mv (e_ isb (e_ isb ?_))))))));refine e_ (dW 18446744073709551616 rfl rfl rfl (b.length-1-i) a8 a8) ?_;refine gW (λh12=>?_) λh12=>?_
   ·rw[if_pos dm]at c;refine gR ?_;exact⟨_,hsb,.inl ⟨c,rfl,rfl⟩⟩
   have hsm:¬b.length-2-i<A:=dm;rw[if_neg hsm]at c;obtain⟨Y,C⟩:∃o,e.getD (i+1+A) none=o:=⟨_,rfl⟩;have g:(hsI e)[i+1+A]? =some (ohI Y):=by rw[←C];exact pV a8
   refine wk_ (qn_ (ws_ (wr_ (e_ mv ?_))));refine e_ (evq iad (congrArg (Value.int .i64) (show _=((i+1:Nat):Int)from a8))) ?_;refine e_ fla (e_ ldv ?_);refine e_ (ew rfl a8) ?_;refine e_ (evq iad (congrArg (Value.int .i64) (show _=((i+1+A:Nat):Int)from a8))) ?_;refine e_ asn (on_ (qn_ (ws_ (ws_ (wr_ (e_ mv (e_ mv (e_ ixa (e_ (lel (hy:=g)) (e_ ige (e_ mv (dV 7 129 (k:=λh13=>eg_ mv (eg_ mv (eg_ ixa (eg_ (lel (hy:=g)) (gk (k:=edq)))))) (q:=go ?_)))))))))))));refine gW (λn=>?_) λn=>?_
   ·obtain⟨w,rfl,K⟩:∃w:Nat,Y=some w∧ohI Y=(w:Int):=by
     have h9:=n;rcases KW Y with⟨_,h8⟩|h8
     ·rw[h8]at h9;omega
     ·exact h8
    rw[CS C (by have h9:=n;rw[K]at h9;omega)]at c;refine gR ?_;exact⟨_,hsb,.inl ⟨c,rfl,rfl⟩⟩
   have X:∀k,e.getD (i+1+A) none=some k→k=r:=λk hk=>by
    have h9:=n;rw[C]at hk;subst hk;rw[show ohI (some k)=((k:Nat):Int)from rfl]at h9;omega
   have m:=CR a8 X;rw[m]at c;simp only at c;have hl2:=tU m;obtain⟨hg3,hg4⟩:=tV m a8;have a7:=zt m hg1;refine go ?_;refine s_ (et (i:=i+1+A) (a:=(r:Int)) rfl rfl bH a8) ?_;rintro _ _ ⟨rfl,rfl⟩;rw[wy];refine go ?_;refine lN ((i+1,e.set (i+1+A) (some r),r)) ?_
   exact⟨a8,a8,c,a7,λj k hk=>cH⟩
  rw[if_neg (by rw[Lz bE];decide)]at c;refine go ?_;refine lN ((i+1,e,r)) ?_
  try dsimp only
  exact⟨a8,a8,c,hg1,λj k hk=>by rcases hg2 j k hk with h9|h9;omega;have:=hkb j k h9;omega⟩
 exact absurd h2 a8
theorem KA [hp:il H a p] [hpc:pk H a p] (c:Bz p):SC G prog 91 [.agg (prV a p.all).toArray] H (λv m=>(gA p=none∧v=.tuple #[.slice none 0 0,.int .i64 21]∧m=H)∨(∃(tb:Hs) (g:SV),gA p=some tb∧tb.length≤100000000∧v=.tuple #[g.val,.int .i64 0]∧m=Row g eI (hsI tb)::H)):=by
 refine sWk func91 ?_;refine gk (k:=bxx (k:=λb1=>?_));refine go ?_;refine c1_ rfl (zi c.k c.cb) ?_;rintro _ _ (⟨l,rfl,rfl⟩|⟨sc,b,e,rfl,rfl⟩)
 ·have hno:gA p=none:=by rw[gA,lu,l]
  refine go ?_;refine gk (k:=ift (k:=go ?_));refine gR ?_;exact⟨_,hsb,.inl ⟨hno,rfl,rfl⟩⟩
 obtain⟨j,hcl⟩:=wG _ _ _ c.cb e;have f:gA p=if b.length=0∨iP p=false then none else jr p b b.length 0 (hs0 b.length):=by rw[gA,lu,e]
 have hk9:=c.k;refine e_ mv (e_ exr (e_ exr (e_ asn (e_ asn (on_ (qn_ (ws_ (ws_ (wr_ (e_ mv (e_ ine (e_ mv (eg_ mv ?_)))))))))))));refine gk (k:=ep 4 25 (k:=λh1=>gk (k:=iU (vs:=[_]) (hc:=(I9 c)) (k:=gk (k:=edq)))) (q:=gW (λh2=>?_) (λh2=>?_)))
 ·have hno:gA p=none:=by rw[f,if_pos aO]
  refine gR ?_;exact⟨_,hsb,.inl ⟨hno,rfl,rfl⟩⟩
 have d:gA p=jr p b b.length 0 (hs0 b.length):=by rw[f,if_neg aO]
 have i:0<b.length:=aw;refine go ?_;refine c2_ rfl (WK (p:=p) c i a8 j) ?_;rintro _ _ (⟨h,rfl,rfl⟩|⟨tb,g,h,htl,rfl,rfl⟩)
 ·refine go ?_;refine ift (k:=gR ?_);exact⟨_,hsb,.inl ⟨by rw[d,h],rfl,rfl⟩⟩
 refine go ?_;refine fM (k:=gR ?_);exact⟨_,hsb,.inr ⟨tb,g,by rw[d,h],a8,rfl,rfl⟩⟩
theorem KC [hp:il H a p] [hpc:pk H a p] (e:Bz p):SC G prog 32 [.agg (prV a p.all).toArray] H (λv h=>((gA p=none∧v=.tuple #[.agg #[.int .i64 0,.int .i64 0],.int .i64 21])∨(∃(tb:Hs) (n b:Int),gA p=some tb∧v=.tuple #[.agg #[.int .i64 n,.int .i64 b],.int .i64 0]))∧h=H):=by
 refine sWk func32 ?_;refine gk (k:=bxx (k:=λb1=>?_));refine alc (k:=λb2=>?_);refine go ?_;refine c1_ rfl (KA e) ?_;rintro _ _ (⟨hno,rfl,rfl⟩|⟨tb,sl,f,d,rfl,rfl⟩)
 ·refine go ?_;refine ift (k:=ws_ (wr_ (e_ (bld []) (gR ?_))));exact⟨_,hsb,.inl ⟨hno,rfl⟩,rfl⟩
 have hhl:(hsI tb).length≤100000000:=by rw[Yh];exact d
 refine go ?_;refine fM (k:=go ?_);refine gk (k:=e8 (Nat×Int) (λy=>y.1≤(hsI tb).length) (λy=>[(6,.int .i64 y.2),(7,iN y.1)]) [(2,_),(4,_)] (λy=>[]) _ (λy=>(hsI tb).length-y.1) ((0,0)) (h0:=?_) (k:=?_))
 ·exact Yl _
 rintro⟨i,b⟩ hi
 try dsimp only[Yd,Ye]at*
 refine gW (λh1=>?_) λh1=>?_
 ·obtain⟨g,c⟩:∃x,(hsI tb)[i]? =some x:=⟨_,Yi ao⟩;refine wk_ (qn_ (ws_ (wb_ (ws_ (wr_ (e_ mv (e_ mv (e_ ixa (e_ (lel (hy:=c)) (go ?_))))))))));refine wi_ (k:=λh2=>?_) (m:=λh2=>?_)
  ·refine wr_ (e_ mv (e_ mv (e_ ixa (e_ (lel (hy:=c)) (go ?_)))));refine lN ((i+1,g)) ?_
   try dsimp only
   omega
  refine go ?_;refine lN ((i+1,b)) ?_
  try dsimp only
  omega
 refine we_ (qe_ (le_ (bh_ (qn_ (ws_ (wr_ (e_ mv (e_ lnn (e_ mv (e_ (bld [(0,_),(1,_)]) (go ?_)))))))))));refine gR ?_;exact⟨_,hsb,.inr ⟨tb,_,_,f,rfl⟩,rfl⟩
end
end Go.Sx
