import Derived.Test.YtcokhbglfaakjaaGreatDoorQ4
set_option linter.all false
set_option maxHeartbeats 0
namespace Go.Sx
open Go Go.Proofs Tryz
set_option maxRecDepth 100000
section
variable {G:dJ}{H:dD}{q:ByteArray}
theorem td {e:ByteArray}(h:dZ (dC q) (dC e)=true):dC (kT q e)=(dC q).take (q.size-e.size)∧(kT q e).size≤q.size:=by
 rw[kT,h];refine⟨ij q _,?_⟩;have:=dI (q.extract 0 (q.size-e.size));rw[ij,Yg,dI]at this;simp only[cond_true];omega
theorem A3 (q e:ByteArray):(kT q e).size≤q.size:=by
 cases h:dZ (dC q) (dC e)with
 |true=>exact(td h).2
 |false=>rw[kT,h];exact Xl _
theorem NG (hq:q.size≤10000000):SC G prog 343 [.string q] H (λv d=>∃r,v=.string r∧dC r=kM (dC q)∧d=H):=by
 have hle:=A3 q ⟨#[121]⟩;have a:dZ (dC q) [121]=true→dC (kT q ⟨#[121]⟩)=eA (dC q):=λh=>by
  rw[(td (e:=⟨#[121]⟩) h).1,eA,dI];rfl
 refine sWk func343 ?_;refine go ?_;refine d2_ rfl (A1 a8 ae) (gk (k:=dV 3 14 (k:=λh1=>gk (k:=iU (vs:=[_]) (hc:=(QK a8)) (k:=gk (k:=edq)))) (q:=go ?_)));refine gW (λh2=>?_) λh2=>?_
 ·obtain⟨b,g2⟩:=h2;have c:=a b;rw[c]at g2;refine ws_ (wr_ (e_ mv ?_));refine e_ (jn rfl rfl (by show(kT q ⟨#[121]⟩).size+1≤_;omega)) ?_;refine gR ?_;refine⟨_,hsb,kT q ⟨#[121]⟩++⟨#[105]⟩,rfl,?_,rfl⟩;rw[fG,c,kM,show dZ (dC q) [121]=true from b,g2];rfl
 have h1:=h2;refine gR ?_;refine⟨_,hsb,q,rfl,?_,rfl⟩;rw[kM];have:(dZ (dC q) [121]&&sY (eA (dC q)))=false:=by
  cases b:dZ (dC q) [121]with
  |false=>rfl
  |true=>
   rcases h1 with g2|g2
   ·rw[show dZ (dC q) (dC ⟨#[121]⟩)=true from b]at g2;cases g2
   ·rw[a b]at g2;rw[g2];rfl
 rw[this];rfl
theorem RB (hq:q.size≤10000000):SC G prog 339 [.string q] H (λv j=>∃r,v=.string r∧dC r=qJ (dC q)∧j=H):=by
 have c:=A3 q ⟨#[101]⟩;have b:dZ (dC q) [101]=true→dC (kT q ⟨#[101]⟩)=eA (dC q):=λh=>by
  rw[(td (e:=⟨#[101]⟩) h).1,eA,dI];rfl
 obtain⟨u,a⟩:∃u:ByteArray,u=bif dZ (dC q) [101]&&(decide (1<iT (eA (dC q))) ||decide (iT (eA (dC q))=1)&&!iX (eA (dC q)))then kT q ⟨#[101]⟩else q:=⟨_,rfl⟩;have hub:dC u=jk (dC q):=by
  rw[a,jk];cases h:(dZ (dC q) [101]&&(decide (1<iT (eA (dC q))) ||decide (iT (eA (dC q))=1)&&!iX (eA (dC q))))with
  |false=>rfl
  |true=>rw[Xu]at h;exact b h.1
 have hul:u.size≤q.size:=by
  rw[a];cases(dZ (dC q) [101]&&(decide (1<iT (eA (dC q))) ||decide (iT (eA (dC q))=1)&&!iX (eA (dC q))))with
  |false=>exact Xl _
  |true=>exact c
 refine sWk func339 ?_;refine ws_ (wr_ (e_ asn (on_ (qn_ (ld [(0,.string u)] [0,3,4,5,6,7,8,9,10,11,12,13,14,15,16,17,18,19,20,21,22,23,24,25] ?_ ?_)))))
 ·refine go ?_;refine d2_ rfl (A1 a8 ae) (gW (λh1=>?_) (λh1=>?_))
  ·have d:=b h1;have f:dZ (dC q) [101]=true:=h1;rw[f,Xv]at a;refine go ?_;refine d1_ rfl (BX a8) ?_;rw[d];refine gk (k:=ep 8 24 (k:=λh2=>gk (k:=dV 4 23 (k:=λh3=>gk (k:=iU (vs:=[_]) (hc:=(JL a8)) (k:=gk (k:=edq)))) (q:=gk (k:=edq)))) (q:=gW (λh4=>?_) (λh4=>?_)))
   ·rw[d]at h4;rw[show(decide (1<iT (eA (dC q))) ||decide (iT (eA (dC q))=1)&&!iX (eA (dC q)))=true by
     rcases h4 with h|⟨h,h'⟩
     ·rw[Ys a8];rfl
     ·rw[Ys (show iT (eA (dC q))=1 from a8),h'];simp]at a
    obtain rfl:u=kT q ⟨#[101]⟩:=a;refine gk (k:=jne)
   rw[d]at h4;rw[show(decide (1<iT (eA (dC q))) ||decide (iT (eA (dC q))=1)&&!iX (eA (dC q)))=false by
    obtain⟨h,h'⟩:=h4;rw[Yr a8];rcases h' with h'|h'
    ·rw[Yr a8];rfl
    ·rw[h'];simp]at a
   obtain rfl:u=q:=a;refine gk (k:=jne)
  have f:dZ (dC q) [101]=false:=h1;rw[f,Vk]at a;obtain rfl:u=q:=a;refine gk (k:=jne)
 refine go ?_;refine d2_ rfl (mS a8 ae) (gk (k:=dV 4 32 (k:=λh5=>gk (k:=iU (vs:=[_]) (hc:=(BX a8)) (k:=gk (k:=edq)))) (q:=gW (λh6=>?_) (λh6=>?_))))
 ·obtain⟨g,k2⟩:=h6;have i:=nA g;simp only[dI]at i;have k4:(⟨#[108,108]⟩:ByteArray).size=2:=rfl;refine gk (k:=e_ tE (go ?_));refine gR ?_;refine⟨_,hsb,u.extract 0 (u.size-1),rfl,?_,rfl⟩;rw[jS,qJ,←hub,show dZ (dC u) [108,108]=true from g,Ys a8];rfl
 have hN:(dZ (jk (dC q)) [108,108]&&decide (1<iT (jk (dC q))))=false:=by
  rw[←hub];rcases h6 with k|k
  ·rw[show dZ (dC u) [108,108]=false from k];rfl
  ·rw[Yr a8];simp
 refine gR ?_;exact⟨_,hsb,u,rfl,by rw[qJ,hN,hub];rfl,rfl⟩
theorem NH (hq:q.size≤10000000):SC G prog 344 [.string q] H (λv C=>∃r,v=.string r∧dC r=iW (dC q)∧C=H):=by
 refine sWk func344 ?_;refine ws_ (wr_ (e_ asn (on_ (qn_ (ws_ (wr_ (e_ mv ?_)))))));refine s_ (ek eS ((jH lg).map eG) bH rfl ax) ?_;rintro _ _ ⟨s9,rfl,rfl⟩;refine c2_ rfl (tv WD a8 ae ae) ?_;rintro _ _ ⟨r,a,rfl,hL,rfl⟩;refine e_ mv (e_ exr (e_ exr (e_ asn (e_ asn (on_ (qn_ (ws_ (wb_ (ws_ (wr_ (e_ mv (e_ ilt (e_ asn ?_)))))))))))));refine on_ (qn_ (wi_ (k:=λh1=>?_) (m:=λh1=>?_)))
 ·obtain⟨rfl,hN⟩:=pQ hL h1;refine ws_ (wr_ (e_ mv (e_ asn (on_ (qn_ (wt_ (br_ (qr_ (rT (k:=?_))))))))));exact⟨_,hsb,r,rfl,by rw[iW,hN],rfl⟩
 obtain⟨R,k,s,rfl,g3,A,g5,z⟩:=pP hL h1;have hk:k<3:=(Yk.1 s).1;have g:iW (dC q)=bif decide (R.1= [101,101,100])then(bif decide (0<iT (dC r))then dC r++R.2 else dC q)else bif sY (dC r)then mD (dC r)else dC q:=by rw[iW,z,A]
 refine ws_ (wr_ (e_ mv (e_ ieq (e_ asn (on_ (qn_ (wi_ (k:=λh2=>?_) (m:=λh2=>?_))))))))
 ·obtain rfl:k=0:=by omega
  cases s;have hS':iW (dC q)=bif decide (0<iT (dC r))then dC r++ [101,101]else dC q:=g;have hrq:r.size≤q.size:=a8;refine ws_ (ws_ (wr_ (e_ mv ?_)));refine d1_ rfl (BX a8) (e_ igt (on_ (qn_ (wi_ (k:=λh3=>?_) (m:=λh3=>?_)))))
  ·have hm:=h3;refine ws_ (wr_ (e_ mv ?_));refine e_ (jn rfl rfl (by show r.size+2≤_;omega)) ?_;refine e_ asn (on_ (qn_ (wt_ (qr_ (br_ (qr_ (rT (k:=?_))))))));exact⟨_,hsb,r++⟨#[101,101]⟩,rfl,by rw[hS',fG,Ys a8];rfl,rfl⟩
  have hm:=h3;refine wk_ (qn_ (ws_ (wr_ (e_ mv (e_ asn (on_ (qn_ (wt_ (br_ (qr_ (rT (k:=?_))))))))))));exact⟨_,hsb,q,rfl,by rw[hS',Yr (show ¬0<iT (dC r)from a8)];rfl,rfl⟩
 have n:¬R.1= [101,101,100]:=by
  rcases(show k=1∨k=2 from a8)with rfl|rfl <;> cases s <;> decide
 rw[Yr n]at g;refine ws_ (wr_ (e_ mv ?_));refine d1_ rfl (QK a8) (e_ mN (e_ asn (on_ (qn_ (wi_ (k:=λh4=>?_) (m:=λh4=>?_))))))
 ·have hv:=h4;refine ws_ (wr_ (e_ mv (e_ asn (on_ (qn_ (wt_ (br_ (qr_ (rT (k:=?_))))))))));exact⟨_,hsb,q,rfl,by rw[g,hv];rfl,rfl⟩
 have l:iW (dC q)=mD (dC r):=by rw[g,h4];rfl
 refine wk_ (bn_ (qn_ (ws_ (ws_ (wr_ ?_)))));refine s_ (ek eS [⟨#[97,116]⟩,⟨#[98,108]⟩,⟨#[105,122]⟩] bH rfl ax) ?_;rintro _ _ ⟨s31,rfl,rfl⟩;refine e_ lnn (e_ mv (on_ (qn_ (wb_ (e8 Nat (λy=>y≤3∧∀j e,j<y→([⟨#[97,116]⟩,⟨#[98,108]⟩,⟨#[105,122]⟩]:List ByteArray)[j]? =some e→dZ (dC r) (dC e)=false) (λy=>[(33,iN y)]) [(3,_),(31,_),(32,_)] (λy=>[]) _ (λy=>3-y) (0) (h0:=?_) (k:=?_))))))
 ·exact⟨Yl _,λj e hj=>absurd hj (Up _)⟩
 rintro i ⟨hi,b⟩
 try dsimp only[Yd,Ye]at*
 refine ws_ (wr_ (e_ ilt (on_ (qn_ (ws_ (wi_ (k:=λh5=>?_) (m:=λh5=>?_)))))))
 ·have p:i<3:=by have:=h5;simp at this;omega
  obtain⟨e,he,hes⟩:∃e,([⟨#[97,116]⟩,⟨#[98,108]⟩,⟨#[105,122]⟩]:List ByteArray)[i]? =some e∧e.size=2:=by
   rcases(show i=0∨i=1∨i=2 from a8)with rfl|rfl|rfl <;> exact⟨_,rfl,rfl⟩
  refine wk_ (qn_ (ws_ (wb_ (ws_ (wr_ (e_ ixa (e_ lel (e_ asn (on_ (qn_ (ws_ (wr_ (e_ mv ?_)))))))))))));refine e_ mv ?_;refine d2_ rfl (mS a8 a8) (on_ (qn_ (wi_ (k:=λh6=>?_) (m:=λh6=>?_))))
  ·have x:mD (dC r)=dC r++ [101]:=by
    have:(dZ (dC r) [97,116] ||dZ (dC r) [98,108] ||dZ (dC r) [105,122])=true:=by
     have p:i<3:=(Yk.1 he).1;rcases(show i=0∨i=1∨i=2 from a8)with rfl|rfl|rfl <;> cases he
     ·rw[show dZ (dC r) [97,116]=true from h6];rfl
     ·rw[show dZ (dC r) [98,108]=true from h6];simp
     ·rw[show dZ (dC r) [105,122]=true from h6];simp
    rw[mD,this];rfl
   refine ws_ (wr_ (e_ mv ?_));refine e_ (jn rfl rfl (by show r.size+1≤_;omega)) ?_;refine e_ asn (on_ (qn_ (wt_ (br_ (qr_ (lr_ (br_ (qr_ (rT (k:=?_))))))))));exact⟨_,hsb,r++⟨#[101]⟩,rfl,by rw[l,x,fG];rfl,rfl⟩
  have hno:=h6;refine wk_ (bn_ (qn_ (wr_ (e_ iad (e_ mv (on_ ?_))))));refine lN (i+1) ?_
  try dsimp only
  refine⟨by have:=(Yk.1 he).1;simp at this;omega,λj B hj c=>?_⟩
  by_cases e:j=i
  ·subst e;rw[he]at c;cases c;exact hno
  ·exact b j B a8 c
 obtain rfl:i=3:=by simp at h5;omega
 have hx:(dZ (dC r) [97,116] ||dZ (dC r) [98,108] ||dZ (dC r) [105,122])=false:=by
  rw[show dZ (dC r) [97,116]=false from b 0 _ a8 rfl,show dZ (dC r) [98,108]=false from b 1 _ a8 rfl,show dZ (dC r) [105,122]=false from b 2 _ a8 rfl];rfl
 have f:=dI r;refine we_ (qe_ (le_ (bh_ (qn_ (ws_ (ws_ (wr_ (e_ mv ?_))))))));refine d1_ rfl (NS a8) (e_ mv (dV 8 53 (k:=λh7=>eg_ mv (eg_ mv (eg_ xO (eg_ isb (eg_ (ixs (hj:=Ic (by have:=uo ‹om (dC r)=true›;omega)) (hlt:=by have:=uo ‹om (dC r)=true›;omega)) (iU (vs:=[_,_]) (hc:=(indexByte _)) (k:=eg_ ilt (e_ pkt (on_ edq))))))))) (q:=on_ (qn_ (wi_ (k:=λh8=>?_) (m:=λh8=>?_))))))
 ·obtain⟨u,d2⟩:=h8;have d3:=uo u;refine ws_ (wr_ (e_ mv (e_ mv (e_ xO (e_ isb (e_ tE (e_ asn (on_ (qn_ (wt_ (qr_ (rT (k:=?_)))))))))))));refine⟨_,hsb,r.extract 0 (r.size-1),rfl,?_,rfl⟩;have hn:¬at0 (dC r) (r.size-1)∈dC ⟨#[108,115,122]⟩:=λh=>by have:=(pS (tj _)).2 h;omega
  rw[show dC ⟨#[108,115,122]⟩= [108,115,122]from rfl]at hn;rw[l,mD,hx,u,f,jS];simp at hn;simp[hn]
 have t:(om (dC r)&&!(decide (at0 (dC r) ((dC r).length-1)=108) ||decide (at0 (dC r) ((dC r).length-1)=115) ||decide (at0 (dC r) ((dC r).length-1)=122)))=false:=by
  rcases h8 with d|d
  ·rw[d];rfl
  ·have hm:=(pS (q:=⟨#[108,115,122]⟩) (tj (q:=r) (r.size-1))).1 a8;rw[show dC ⟨#[108,115,122]⟩= [108,115,122]from rfl]at hm;rw[f];simp at hm;rcases hm with h|h|h <;> simp[h]
 refine wk_ (qn_ (ws_ (ws_ (wr_ (e_ mv ?_)))));refine d1_ rfl (BX a8) (e_ ieq (e_ mv (dV 3 65 (k:=λh9=>eg_ mv (iU (vs:=[_]) (hc:=(JL a8)) (k:=e_ pkt (on_ edq)))) (q:=on_ (qn_ (wi_ (k:=λh10=>?_) (m:=λh10=>?_)))))))
 ·obtain⟨m1,w⟩:=h10;refine ws_ (wr_ (e_ mv ?_));refine e_ (jn rfl rfl (by show r.size+1≤_;omega)) ?_;refine e_ asn (on_ (qn_ (wt_ (qr_ (rT (k:=?_))))));exact⟨_,hsb,r++⟨#[101]⟩,rfl,by rw[l,mD,hx,t,Ys (show iT (dC r)=1 from a8),w,fG];rfl,rfl⟩
 have hm:(decide (iT (dC r)=1)&&iX (dC r))=false:=by
  rcases h10 with d|d
  ·rw[Yr a8];rfl
  ·rw[d];simp
 refine wk_ (qn_ (ws_ (wr_ (e_ mv (e_ asn (on_ (qn_ (wt_ (rT (k:=?_))))))))));exact⟨_,hsb,r,rfl,by rw[l,mD,hx,t,hm];rfl,rfl⟩
end
theorem W0 {G:dJ}{H:dD}{q:ByteArray}(hq:q.size≤5000000):SC G prog 337 [.string q] H (λv z=>∃r,v=.string r∧dC r=jM (dC q)∧z=H):=by
 have hl:=dI q;obtain⟨u,b⟩:∃u:ByteArray,u=bif decide (2<q.size)&&dZ (dC q) [39,115]then q.extract 0 (q.size-2)else q:=⟨_,rfl⟩;have hub:dC u=m7 (dC q):=by
  rw[b,m7,hl];cases(decide (2<q.size)&&dZ (dC q) [39,115])with
  |false=>rfl
  |true=>exact ij q _
 have hul:=dI u;have huq:u.size≤q.size:=by
  rw[b];cases(decide (2<q.size)&&dZ (dC q) [39,115])with
  |false=>exact Xl _
  |true=>
   have:=dI (q.extract 0 (q.size-2));rw[ij,Yg,hl]at this;simp only[cond_true];omega
 refine sWk func337 ?_;refine ws_ (wr_ (e_ asn (on_ (qn_ (ws_ (wr_ (e_ mv (e_ asn (on_ (qn_ (ld [(3,.string u)] [3,6,7,8,9,10,11,12,13,14,15,16,17] ?_ ?_)))))))))))
 ·refine gk (k:=dV 3 12 (k:=λh1=>gk (k:=iU (vs:=[_,_]) (hc:=(mS a8 ae)) (k:=gk (k:=edq)))) (q:=gW (λh2=>?_) (λh2=>?_)))
  ·obtain⟨c1,x⟩:=h2;rw[Ys (show 2<q.size from a8),show dZ (dC q) [39,115]=true from x]at b;obtain rfl:u=q.extract 0 (q.size-2):=b;refine gk (k:=e_ tE (gk (k:=jne)))
  have hc:(decide (2<q.size)&&dZ (dC q) [39,115])=false:=by
   rcases h2 with c|c
   ·rw[Yr a8];rfl
   ·rw[show dZ (dC q) [39,115]=false from c];simp
  rw[hc]at b;obtain rfl:u=q:=b;refine gk (k:=jne)
 refine gW (λh3=>?_) λh3=>?_
 ·have s:jM (dC q)=dC u:=by rw[jM,←hub,vK,Ys a8];rfl
  refine gR ?_;exact⟨_,hsb,u,rfl,s.symm,rfl⟩
 refine gk (k:=e8 Nat (λy=>y≤u.size∧∀j,j<y→qX (at0 (dC u) j)=true) (λy=>[(4,iN y)]) [(3,_)] (λy=>[]) _ (λy=>u.size-y) (0) (h0:=?_) (k:=?_))
 ·exact⟨Yl _,λj hj=>absurd hj (Up _)⟩
 rintro i ⟨hi,a⟩
 try dsimp only[Yd,Ye]at*
 refine gW (λh4=>?_) λh4=>?_
 ·refine gk (k:=ep 5 37 (k:=λh5=>gk (k:=edq)) (q:=go ?_));refine wi_ (k:=λh6=>?_) (m:=λh6=>?_)
  ·have hn:qX (at0 (dC u) i)=false:=by simp only[qX,Ua,Xy];omega
   have s:jM (dC q)=dC u:=by rw[jM,←hub,vK,Hv a8 hn];simp
   refine gR ?_;exact⟨_,hsb,u,rfl,s.symm,rfl⟩
  have hy:qX (at0 (dC u) i)=true:=by simp only[qX,Xu,Xq];omega
  refine go ?_;refine lN (i+1) ?_
  try dsimp only
  refine⟨a8,λj hj=>?_⟩
  by_cases e:j=i
  ·subst e;exact hy
  ·exact a j a8
 have hA:=all_take a a8;have s:jM (dC q)=qJ (mZ (gQ kr 0 (gQ jC 0 (kM (iW (ja (dC u))))))):=cL;refine go ?_;refine c1_ rfl (NI a8) ?_;rintro _ _ ⟨r1,rfl,p,rfl⟩;have z1:=uO p (pE _);refine c1_ rfl (NH a8) ?_;rintro _ _ ⟨r2,rfl,n,rfl⟩;have z2:=uO n (pD _);refine c1_ rfl (NG a8) ?_;rintro _ _ ⟨r3,rfl,l,rfl⟩;have z3:=uO l (sP _);refine c1_ rfl (RE a8) ?_;rintro _ _ ⟨r4,rfl,h,rfl⟩;have z4:=uO h (jY (k:=10) ae _);refine c1_ rfl (RD a8) ?_;rintro _ _ ⟨r5,rfl,g,rfl⟩;have z5:=uO g (jY (k:=10) ae _);refine c1_ rfl (RC a8) ?_;rintro _ _ ⟨r6,rfl,f,rfl⟩;have z6:=uO f (uK _);refine c1_ rfl (RB a8) ?_;rintro _ _ ⟨t,rfl,d,rfl⟩;have w:dC t=jM (dC q):=by
  rw[f,g,h,l,n,p]at d;exact d.trans s.symm
 refine gR ?_;exact⟨_,hsb,t,rfl,w,rfl⟩
section
variable {G:dJ}{H:dD}{q:ByteArray}
theorem Gp (hq:q.size≤1000000000):SC G prog 297 [.string q] H (λv j=>v=.string (oR q)∧j=H):=by
 have hl:=dI q;have hfl:=mJ (dC q);refine sWk func297 ?_;refine go ?_;refine s_ (fk eB rfl) ?_;rintro _ _ ⟨g,rfl,rfl⟩;refine gk (k:=e8 (SV×Nat) (λy=>y.2≤q.size) (λy=>[(3,y.1.val),(4,iN y.2)]) [(0,_)] (λy=>[Row y.1 eB ((oS (dC q)).take y.2)]) _ (λy=>q.size-y.2) ((g,0)) (h0:=?_) (k:=?_))
 ·exact Yl _
 rintro⟨s,i⟩ hi
 try dsimp only[Yd,Ye]at*
 refine gW (λh1=>?_) λh1=>?_
 ·have d:i<(dC q).length:=by omega
  have htk:((oS (dC q)).take i).length=i:=az;refine wk_ (qn_ (ws_ (wb_ (ws_ (wr_ (e_ asn (on_ (qn_ (ws_ (ws_ (wr_ (e_ mv (e_ mv ?_)))))))))))));refine e_ ixs (on_ (qn_ (wb_ (ld [(16,.bool (isV (at0 (dC q) i)))] [16,17,18,19,20,21] ?_ ?_))))
  ·refine gW (λh2=>?_) λh2=>?_
   ·refine gk (k:=jne (hs:=.cons (by first|exact rfl|exact jb (by refine bq ?_;simp[isV];omega)) (.nil)))
   refine gW (λh3=>?_) λh3=>?_
   ·refine gk (k:=jne (hs:=.cons (by first|exact rfl|exact jb (by refine bq ?_;simp[isV];omega)) (.nil)))
   refine gW (λh4=>?_) λh4=>?_
   ·refine gk (k:=jne (hs:=.cons (by first|exact rfl|exact jb (by refine bq ?_;simp[isV];omega)) (.nil)))
   refine gW (λh5=>?_) λh5=>?_
   ·refine gk (k:=jne (hs:=.cons (by first|exact rfl|exact jb (by refine bq ?_;simp[isV];omega)) (.nil)))
   refine gk (k:=jne (hs:=.cons (by first|exact rfl|exact jb (by refine bq ?_;simp[isV];omega)) (.nil)))
  refine wi_ (k:=λh6=>?_) (m:=λh6=>?_)
  ·have hk:=pY d (b:=true) (by rw[vAt,h6];rfl);refine gk (k:=fS eB (k:=λe=>?_));refine app (k:=λa=>?_)
   first
   |rw[show(118:Nat)=vc true from rfl,←hk]
   |rw[show(99:Nat)=vc false from rfl,←hk]
   refine go ?_;refine lN ((a,i+1)) ?_
   try dsimp only
   omega
  have f:=h6;refine gW (λh=>?_) λh=>?_
  ·refine ws_ (wr_ (e_ mv (e_ igt (e_ mv (dV 7 33 (k:=λh8=>eg_ mv (eg_ mv (eg_ isb (eg_ ixa (eg_ (lel (hy:=Fk a8 a8)) (gk (k:=edq))))))) (q:=gW (λh9=>?_) (λh9=>?_)))))))
   ·obtain⟨c1,c2⟩:=h9;have hk:=pY d (b:=true) (by rw[vAt,f,Ys (show at0 (dC q) i=121 from a8),Ys (show 0<i from a8),Rw.1 (by omega:vc ((vow (dC q)).getD (i-1) false)=99)];rfl);refine gk (k:=fS eB (k:=λe=>?_));refine app (k:=λa=>?_)
    first
    |rw[show(118:Nat)=vc true from rfl,←hk]
    |rw[show(99:Nat)=vc false from rfl,←hk]
    refine go ?_;refine lN ((a,i+1)) ?_
    try dsimp only
    omega
   have hk:=pY d (b:=false) (by
    rw[vAt,f];rcases h9 with c|c
    ·rw[Yr (show ¬0<i from a8)];simp
    ·have:(vow (dC q)).getD (i-1) false=true:=by
      cases hb:(vow (dC q)).getD (i-1) false with
      |true=>rfl
      |false=>exact absurd (by rw[Rw.2 hb];rfl) c
     rw[this];simp)
   refine gk (k:=fS eB (k:=λe=>?_));refine app (k:=λa=>?_)
   first
   |rw[show(118:Nat)=vc true from rfl,←hk]
   |rw[show(99:Nat)=vc false from rfl,←hk]
   refine go ?_;refine lN ((a,i+1)) ?_
   try dsimp only
   omega
  have hk:=pY d (b:=false) (by rw[vAt,f,Yr (show ¬at0 (dC q) i=121 from a8)];rfl);refine gk (k:=fS eB (k:=λe=>?_));refine app (k:=λa=>?_)
  first
  |rw[show(118:Nat)=vc true from rfl,←hk]
  |rw[show(99:Nat)=vc false from rfl,←hk]
  refine go ?_;refine lN ((a,i+1)) ?_
  try dsimp only
  omega
 obtain rfl:i=q.size:=a8;refine we_ (qe_ (le_ (bh_ (qn_ (ws_ (wr_ (e_ mv ?_)))))));refine e_ (fx rfl) ?_;refine gR ?_;refine⟨_,hsb,?_,rfl⟩;rw[←hl,Xr a8];rfl
theorem Cx (g:q.size≤1000000000):SC G prog 271 [.string q] H (λv h=>v=.int .i64 (iT (dC q):Nat)∧h=H):=by
 have hl:=dI q;have hfl:=dI (oR q);have hfs:=nt q;refine sWk func271 ?_;refine go ?_;refine d1_ rfl (Gp g) (go ?_);refine gk (k:=e8 (Nat×Nat) (λy=>1≤y.1∧(y.1≤q.size∨y.1=1)∧y.2=nV (vow (dC q)) y.1) (λy=>[(4,iN y.2),(5,iN y.1)]) [(3,_)] (λy=>[]) _ (λy=>q.size-y.1) ((1,0)) (h0:=?_) (k:=?_))
 ·exact⟨Xl _,.inr rfl,(rG _).symm⟩
 rintro⟨i,m⟩ ⟨h1i,hi,b⟩
 try dsimp only[Yd,Ye]at*
 have hm:=xM (vow (dC q)) i;refine gW (λh1=>?_) λh1=>?_
 ·have hlt:i<q.size:=by omega
  have a:nV (vow (dC q)) (i+1)=nV (vow (dC q)) i+(bif (vow (dC q)).getD (i-1) false&&!((vow (dC q)).getD i false)then 1 else 0):=by rw[nV,Ys (show 0<i from a8),Xv]
  have e:=uf (q:=q) (i:=i-1) a8;have d:=uf (q:=q) (i:=i) a8;refine gk (k:=dV 5 24 (k:=λh2=>gk (k:=edq)) (q:=go ?_));refine gW (λh3=>?_) λh3=>?_
  ·obtain⟨c1,c2⟩:=h3;rw[VT.1 (by omega:vc ((vow (dC q)).getD (i-1) false)=118),Rw.1 (by omega:vc ((vow (dC q)).getD i false)=99)]at a;refine go ?_;refine lN ((i+1,m+1)) ?_
   try dsimp only
   refine⟨a8,a8,?_⟩;rw[a,b];rfl
  have f:((vow (dC q)).getD (i-1) false&&!((vow (dC q)).getD i false))=false:=by
   rcases h3 with c|c
   ·cases hb:(vow (dC q)).getD (i-1) false with
    |false=>rfl
    |true=>rw[hb]at e;exact absurd (by rw[e];rfl) c
   ·cases hb:(vow (dC q)).getD i false with
    |true=>simp
    |false=>rw[hb]at d;exact absurd (by rw[d];rfl) c
  rw[f]at a;refine go ?_;refine lN ((i+1,m)) ?_
  try dsimp only
  refine⟨a8,a8,?_⟩;rw[a,b];rfl
 refine gR ?_;refine⟨_,hsb,?_,rfl⟩;rw[iT,b];rcases Un q.size with h0|h0
 ·obtain rfl:i=1:=by omega
  rw[hl,h0,rG];rfl
 ·obtain rfl:i=q.size:=by omega
  rw[hl];rfl
theorem QU (d:q.size≤1000000000):SC G prog 272 [.string q] H (λv g=>v=.bool (sY (dC q))∧g=H):=by
 have hv:=fZ (dC q);have hl:=dI q;have hfl:=dI (oR q);have hfs:=nt q;refine sWk func272 ?_;refine go ?_;refine d1_ rfl (Gp d) (gk (k:=e8 Nat (λy=>y≤q.size∧∀j,j<y→(vow (dC q))[j]? =some false) (λy=>[(4,iN y)]) [(3,_)] (λy=>[]) _ (λy=>q.size-y) (0) (h0:=?_) (k:=?_)))
 ·exact⟨Yl _,λj hj=>absurd hj (Up _)⟩
 rintro i ⟨hi,a⟩
 try dsimp only[Yd,Ye]at*
 refine gW (λh1=>?_) λh1=>?_
 ·have c:=uf (q:=q) (i:=i) a8;have b:=jL (w:=dC q) (i:=i) a8;refine gW (λh2=>?_) λh2=>?_
  ·rw[VT.1 (by omega:vc ((vow (dC q)).getD i false)=118)]at b;refine gR ?_;exact⟨_,hsb,by rw[sY,DO b];rfl,rfl⟩
  have f:(vow (dC q)).getD i false=false:=by
   cases hb:(vow (dC q)).getD i false with
   |false=>rfl
   |true=>rw[hb]at c;exact absurd (by rw[c];rfl) h2
  rw[f]at b;refine go ?_;refine lN (i+1) ?_
  try dsimp only
  refine⟨a8,λj hj=>?_⟩
  by_cases e:j=i
  ·subst e;exact b
  ·exact a j a8
 refine gR ?_;exact⟨_,hsb,by rw[sY,Ac (λj hj=>a j a8)];rfl,rfl⟩
theorem OK (b:q.size≤1000000000):SC G prog 298 [.string q] H (λv f=>v=.bool (om (dC q))∧f=H):=by
 have hv:=fZ (dC q);have hl:=dI q;have hfl:=dI (oR q);have hfs:=nt q;refine sWk func298 ?_;refine go ?_;refine dX dN (as_ 0 (q:=mv) (k:=as_ 1 (q:=igt) (k:=?_)));refine fH 2 rfl rfl aa rfl (ey mv) (λh1=>?_) (λh1=>?_)
 ·replace h1:=nrm h1;have d:decide (2≤(dC q).length)=true:=Ys a8;refine at2 3 (q:=mv) (k:=at2 4 (q:=mv) (k:=at2 5 (q:=isb) (k:=at2 6 (q:=ixs) (k:=at2 7 (q:=mv) (k:=at2 8 (q:=mv) (k:=at2 9 (q:=isb) (k:=at2 10 (q:=ixs) (k:=at2 11 (q:=ieq) (k:=as_ 12 (q:=pkt) (k:=?_))))))))));refine fH 13 rfl rfl aa rfl (ey mv) (λh2=>?_) (λh2=>?_)
  ·replace h2:=nrm h2;have c:decide (at0 (dC q) ((dC q).length-1)=at0 (dC q) ((dC q).length-2))=true:=Ys cP;have e:=uf (q:=q) (i:=q.size-1) a8;refine go ?_;refine lH 15 rfl rfl rfl rfl aa rfl (iR (vs:= [_]) rfl (Gp b)) ?_;refine gR ?_;refine⟨_,hsb,?_,rfl⟩;rw[om,d,c,hl,e];cases(vow (dC q)).getD (q.size-1) false <;> rfl
  replace h2:=nrm h2;have a:om (dC q)=false:=by rw[om,Yr (show ¬at0 (dC q) ((dC q).length-1)=at0 (dC q) ((dC q).length-2)from cP)];simp
  refine gR ?_;exact⟨_,hsb,by rw[a];rfl,rfl⟩
 replace h1:=nrm h1;have a:om (dC q)=false:=by rw[om,Yr a8];rfl
 refine go ?_;refine gR ?_;exact⟨_,hsb,by rw[a];rfl,rfl⟩
theorem Kx (a:q.size≤1000000000):SC G prog 275 [.string q] H (λv e=>v=.bool (iX (dC q))∧e=H):=by
 have hl:=dI q;have hfl:=dI (oR q);have hfs:=nt q;refine sWk func275 ?_;refine go ?_;refine gk (k:=ep 6 14 (k:=λh1=>gk (k:=edq)) (q:=gk (k:=ep 6 21 (k:=λh2=>gk (k:=edq)) (q:=gk (k:=ep 6 28 (k:=λh3=>gk (k:=edq)) (q:=gW (λh4=>?_) (λh4=>?_)))))))
 ·have b:iX (dC q)=false:=by
   rw[iX];rcases h4 with((c|c)|c)|c
   ·rw[Yr (show ¬3≤(dC q).length from a8)];rfl
   ·rw[Ys (show at0 (dC q) ((dC q).length-1)=119 from cP)];simp
   ·rw[Ys (show at0 (dC q) ((dC q).length-1)=120 from cP)];simp
   ·rw[Ys (show at0 (dC q) ((dC q).length-1)=121 from cP)];simp
  refine gR ?_;exact⟨_,hsb,by rw[b];rfl,rfl⟩
 have d:decide (3≤(dC q).length)=true:=Ys a8;have hn:(decide (at0 (dC q) ((dC q).length-1)=119) ||decide (at0 (dC q) ((dC q).length-1)=120) ||decide (at0 (dC q) ((dC q).length-1)=121))=false:=by
  rw[hl];simp;omega
 refine go ?_;refine d1_ rfl (Gp a) (gk (k:=e_ I0 (e_ tH (gR ?_))));refine⟨_,hsb,?_,rfl⟩;rw[iX,d,hn,hl,←IC a8];rfl
end
section
variable {G:dJ}{H:dD}{f:Bool}{k:Nat}{ps:List (ByteArray×ByteArray)}{q:ByteArray}{rs:List ik}{s:SV}
def eR:Enc (ByteArray×ByteArray):=⟨λp=>[.string p.1,.string p.2],2,true,λ_=>rfl,λp v h=>by simp at h;rcases h with rfl|rfl <;> rfl,ae,λh=>aK,ae⟩
instance {a b:ByteArray}:gP eR (.agg [.string a,.string b].toArray) (a,b):=⟨rfl⟩
instance {a b:ByteArray}:kV eR (a,b) (.agg [.string a,.string b].toArray):=⟨rfl⟩
def lS (ps:List (ByteArray×ByteArray)) (rs:List ik):Prop:=ps.map (λp=>(dC p.1,dC p.2))=rs
theorem lS.length (h:lS ps rs):ps.length=rs.length:=by
 rw[←show ps.map (λp=>(dC p.1,dC p.2))=rs from h,Yh]
theorem lS.get (h:lS ps rs) (hk:k<rs.length):∃a b,ps[k]? =some (a,b)∧rs[k]? =some (dC a,dC b):=by
 subst h;rw[Yh]at hk;exact⟨(ps[k]).1,(ps[k]).2,Yi hk,by rw[Xd,Yi hk];rfl⟩
def jB (rs:List ik):List (ByteArray×ByteArray):=rs.map λr=>(eG r.1,eG r.2)
theorem oD (h:(rs.all λr=>(r.1.all λx=>decide (x<256))&&(r.2.all λx=>decide (x<256)))=true):lS (jB rs) rs:=by
 rw[lS,jB,Uo]
 conv=>rhs;rw[←P0 rs]
 apply T1;intro r hr;have h1:=X5.1 h r hr;rw[Xu]at h1;simp only[Function.comp,id];rw[fD λx hx=>Yt (X5.1 h1.1 x hx),fD λx hx=>Yt (X5.1 h1.2 x hx)]
def ob (rs:List ik) (q r e t:ByteArray) (f:Bool):Prop:=match fq rs (dC q)with
 |none=>f=false∧r=q∧e.size=0∧t.size=0
 |some R=>f=true∧dC e=R.1∧dC t=R.2∧dZ (dC q) R.1=true∧dC r=mM (dC q) R.1∧r.size+e.size=q.size
theorem tN [hs:Sl H s eR ps] (hr:lS ps rs) (hq:q.size≤1000000000) (hn:rs.length≤1000) (l:∀r∈rs,r.1.length≤1000∧r.2.length≤1000):SC G prog 270 [.string q,s.val] H (λv K=>∃r e t f,v=.tuple #[.string r,.agg #[.string e,.string t],.bool f]∧ob rs q r e t f∧K=H):=by
 have hl:=dI q;have hsl:=hr.length;refine sWk func270 ?_;refine gk (k:=alc (k:=λb5=>?_));refine e_ asn (on_ (qn_ (ws_ (wr_ (e_ (bld []) (alc (k:=λB=>?_)))))));refine go ?_;refine gk (k:=e8 (Nat×ByteArray×ByteArray×Bool) (λy=>y.1≤rs.length∧(rs.take y.1).foldl (oJ (dC q)) none=(bif y.2.2.2 then some (dC y.2.1,dC y.2.2.1)else none)∧(y.2.2.2=false→y.2.1.size=0∧y.2.2.1.size=0)∧(y.2.2.2=true→dZ (dC q) (dC y.2.1)=true)∧y.2.1.size≤1000) (λy=>[(8,.bool y.2.2.2),(14,iN y.1)]) [(0,_),(5,_),(7,_),(12,_),(13,_)] (λy=>[Vr B [.string y.2.1,.string y.2.2.1]]) _ (λy=>rs.length-y.1) ((0,ByteArray.empty,ByteArray.empty,false)) (h0:=?_) (k:=?_))
 ·try dsimp only
  refine⟨Yl _,rfl,?_,?_,ae⟩ <;> simp
 rintro⟨n,e,t,f⟩ ⟨hnl,p,i,g,u⟩
 try dsimp only[Yd,Ye]at*
 refine gW (λh1=>?_) λh1=>?_
 ·obtain⟨a,b,hab,E⟩:=hr.get (k:=n) a8;obtain⟨z,x⟩:=l _ (Yj E);have hal:=dI a;have j:=dI e;have d:=tW (w:=dC q) E;rw[p]at d;simp only at z x;refine gk (k:=alc (k:=λb10=>?_));refine go ?_;refine d2_ rfl (jZ a8 a8) (gk (k:=dV 12 34 (k:=λh2=>gk (k:=ep 8 33 (k:=λh3=>gk (k:=edq)) (q:=gk (k:=edq)))) (q:=gW (λh4=>?_) (λh4=>?_))))
  ·obtain⟨A,F⟩:=h4;have hc:lsC (dC q) (bif f then some (dC e,dC t)else none) (dC a,dC b)=true:=by
    cases f with
    |false=>simp only[lsC,cond_false,A,Xv]
    |true=>
     rcases F with c|c
     ·cases c
     ·simp only[lsC,cond_true,A,Xv];exact Ys a8
   rw[oJ,hc]at d;refine go ?_;refine lN ((n+1,a,b,true)) ?_
   try dsimp only
   exact⟨a8,d,λh=>by(cases h),λ_=>A,a8⟩
  have hc:lsC (dC q) (bif f then some (dC e,dC t)else none) (dC a,dC b)=false:=by
   rcases h4 with c|⟨c,F⟩
   ·simp only[lsC,c,Vk]
   ·have:f=true:=by simpa using c
    subst this;simp only[lsC,cond_true];rw[Yr a8];simp
  rw[oJ,hc]at d;refine go ?_;refine lN ((n+1,e,t,f)) ?_
  exact⟨a8,d,i,g,u⟩
 obtain rfl:n=rs.length:=a8;rw[Xr (Xl _)]at p;have j:=dI e;have hle:e.size≤q.size:=by
  cases f with
  |false=>have:=(i rfl).1;omega
  |true=>have:=nA (g rfl);omega
 refine go ?_;refine wD [11] (λk H=>(k=4→dQ H B [.string e,.string t])∧(k=8→dQ H B [.string e,.string t])) (aF 0 (k:=aF 1 (k:=aF 2 (k:=aF 3 (k:=?_)))));refine aN 4 rfl (λH hH=>ah) ?_;refine aF 5 (k:=aF 6 (k:=af_ 7 (q:=ea λH hH=>tE) (k:=?_)));refine aN 8 rfl (λH hH=>by have hN:=hH.2 rfl;exact lds) (go ?_);refine aS 11 rfl (ej rfl rfl rfl) ?_;rintro _ _ ⟨rfl,rfl⟩;refine aF 12 (k:=aZ (qn_ (wt_ (rT (k:=?_)))));refine⟨_,hsb,q.extract 0 (q.size-e.size),e,t,f,rfl,?_,rfl⟩;have m:=dI (q.extract 0 (q.size-e.size));rw[ij,Yg]at m;rw[ob,fq,p];cases f with
 |false=>
  obtain⟨C,J⟩:=i rfl;refine⟨rfl,?_,C,J⟩;rw[←jy,ij,C,R8,Xr a8]
 |true=>exact⟨rfl,rfl,rfl,g rfl,by rw[ij,mM,hl,j],a8⟩
theorem tX {r e t:ByteArray}(h:ob rs q r e t f):r.size≤q.size:=by
 rw[ob]at h;cases hl:fq rs (dC q)with
 |none=>rw[hl]at h;rw[h.2.1];exact Xl _
 |some R=>rw[hl]at h;have:=h.2.2.2.2.2;omega
theorem AR {r e t:ByteArray}(h:ob rs q r e t f) (hk:∀r∈rs,r.2.length≤k):t.size≤k:=by
 have a:=dI t;rw[ob]at h;cases hl:fq rs (dC q)with
 |none=>rw[hl]at h;have:=h.2.2.2;omega
 |some R=>rw[hl]at h;have:=hk R (nW hl).1;rw[h.2.2.1]at a;omega
theorem uR {most:Nat} [hs:Sl H s eR ps] (hr:lS ps rs) (hq:q.size≤100000000) (hn:rs.length≤1000) (a:∀r∈rs,r.1.length≤1000∧r.2.length≤1000):SC G prog 274 [.string q,s.val,iN most] H (λv l=>∃r,v=.string r∧dC r=gQ rs most (dC q)∧l=H):=by
 have hl:=dI q;refine sWk func274 ?_;refine go ?_;refine c2_ rfl (tN hr a8 hn a) ?_;rintro _ _ ⟨r,e,t,f,rfl,hL,rfl⟩;have hrq:=tX hL;have htk:=AR hL (λr h=>(a r h).2);refine gk (k:=alc (k:=λb8=>?_));refine gk (k:=dV 5 23 (k:=λh1=>gk (k:=iU (vs:=[_]) (hc:=(Cx a8)) (k:=gk (k:=edq)))) (q:=gW (λh2=>?_) (λh2=>?_)))
 ·obtain⟨rfl,c⟩:=h2;have b:gQ rs most (dC q)=dC r++dC t:=by
   rw[ob]at hL;rw[gQ];cases hl:fq rs (dC q)with
   |none=>rw[hl]at hL;cases hL.1
   |some R=>
    rw[hl]at hL;obtain⟨_,i,g,_,d,_⟩:=hL;simp only;rw[←d,←g,Ys a8];rfl
  refine gk (k:=e_ I4 (gR ?_));exact⟨_,hsb,r++t,rfl,by rw[b,fG],rfl⟩
 have b:gQ rs most (dC q)=dC q:=by
  rw[ob]at hL;rw[gQ];cases hl:fq rs (dC q)with
  |none=>rfl
  |some R=>
   rw[hl]at hL;obtain⟨j,i,g,_,d,_⟩:=hL;subst j;rcases h2 with c|c
   ·cases c
   ·simp only;rw[←d,Yr a8];rfl
 refine gR ?_;exact⟨_,hsb,q,rfl,b.symm,rfl⟩
theorem OG (hq:q.size≤100000000):SC G prog 273 [.string q] H (λv t=>∃r,v=.string r∧dC r=mD (dC q)∧t=H):=by
 have hl:=dI q;refine sWk func273 ?_;refine ws_ (wr_ (e_ asn (on_ (qn_ (ws_ (wb_ (ld [(3,.bool (dZ (dC q) (dC ⟨#[97,116]⟩) ||dZ (dC q) (dC ⟨#[98,108]⟩) ||dZ (dC q) (dC ⟨#[105,122]⟩)))] [3,4,5,6,7,8,9] ?_ ?_)))))))
 ·refine go ?_;refine d2_ rfl (jZ a8 ae) (gW (λh1=>?_) (λh1=>?_))
  ·refine gk (k:=jne (hs:=.cons dg (.nil)))
  refine go ?_;refine d2_ rfl (jZ a8 ae) (gW (λh2=>?_) (λh2=>?_))
  ·refine gk (k:=jne (hs:=.cons dg (.nil)))
  refine go ?_;refine d2_ rfl (jZ a8 ae) (gk (k:=jne (hs:=.cons dg (.nil))))
 refine wi_ (k:=λh3=>?_) (m:=λh3=>?_)
 ·have a:(dZ (dC q) [97,116] ||dZ (dC q) [98,108] ||dZ (dC q) [105,122])=true:=by simp only[Uh];exact h3
  refine ws_ (wr_ (e_ mv ?_));refine e_ (jn rfl rfl (by show q.size+1≤_;omega)) ?_;refine gR ?_;exact⟨_,hsb,q++⟨#[101]⟩,rfl,by rw[mD,a,fG];rfl,rfl⟩
 have a:(dZ (dC q) [97,116] ||dZ (dC q) [98,108] ||dZ (dC q) [105,122])=false:=by simp only[Ut];exact h3
 refine go ?_;refine d1_ rfl (OK a8) (gk (k:=dV 4 19 (k:=λh4=>gk (k:=iU (vs:=[_,_]) (hc:=(jZ a8 ae)) (k:=gk (k:=edq)))) (q:=gk (k:=dV 4 24 (k:=λh5=>gk (k:=iU (vs:=[_,_]) (hc:=(jZ a8 ae)) (k:=gk (k:=edq)))) (q:=gk (k:=dV 4 29 (k:=λh6=>gk (k:=iU (vs:=[_,_]) (hc:=(jZ a8 ae)) (k:=gk (k:=edq)))) (q:=gW (λf=>?_) (λf=>?_))))))))
 ·obtain⟨⟨⟨h,p⟩,n⟩,l⟩:=f;have s:=uo h;have hN:=(rI (w:=dC q) a8 108).symm.trans p;have e:=(rI (w:=dC q) a8 115).symm.trans n;have b:=(rI (w:=dC q) a8 122).symm.trans l;refine gk (k:=e_ tE (gR ?_));exact⟨_,hsb,q.extract 0 (q.size-1),rfl,by rw[jS,mD,a,h,hN,e,b];rfl,rfl⟩
 have g:(om (dC q)&&!(decide (at0 (dC q) ((dC q).length-1)=108) ||decide (at0 (dC q) ((dC q).length-1)=115) ||decide (at0 (dC q) ((dC q).length-1)=122)))=false:=by
  cases hd:om (dC q)with
  |false=>rfl
  |true=>
   have s:=uo hd;rcases f with((c|c)|c)|c
   ·rw[hd]at c;cases c
   ·rw[(rI (w:=dC q) a8 108).symm.trans c];rfl
   ·rw[(rI (w:=dC q) a8 115).symm.trans c];simp
   ·rw[(rI (w:=dC q) a8 122).symm.trans c];simp
 refine go ?_;refine d1_ rfl (Cx a8) (gk (k:=dV 3 42 (k:=λh8=>gk (k:=iU (vs:=[_]) (hc:=(Kx a8)) (k:=gk (k:=edq)))) (q:=gW (λh9=>?_) (λh9=>?_))))
 ·obtain⟨m1,i⟩:=h9;refine ws_ (wr_ (e_ mv ?_));refine e_ (jn rfl rfl (by show q.size+1≤_;omega)) ?_;refine gR ?_;exact⟨_,hsb,q++⟨#[101]⟩,rfl,by rw[mD,a,g,Ys (show iT (dC q)=1 from a8),i,fG];rfl,rfl⟩
 have j:(decide (iT (dC q)=1)&&iX (dC q))=false:=by
  rcases h9 with d|d
  ·rw[Yr a8];rfl
  ·rw[d];simp
 refine gR ?_;exact⟨_,hsb,q,rfl,by rw[mD,a,g,j];rfl,rfl⟩
end
section
variable {G:dJ}{H:dD}{f:Bool}{q r:ByteArray}
theorem uP {l:List Nat}{k:Nat}(h:dC r=l) (hl:l.length≤(dC q).length+k):r.size≤q.size+k:=by
 rw[←dI r,←dI q,h];exact hl
theorem Zy:lS (jB jl) jl:=oD ax
theorem Zx:lS (jB lg) lg:=oD ax
theorem rp2:lS (jB jC) jC:=oD ax
theorem rp3:lS (jB kr) kr:=oD ax
theorem rp4:lS (jB gq) gq:=oD ax
theorem Ln {e t:ByteArray}(h:ob jl q r e t f):ja (dC q)=bif f then dC r++dC t else dC q:=by
 rw[ob]at h;rw[ja];cases hl:fq jl (dC q)with
 |none=>rw[hl]at h;obtain⟨rfl,_⟩:=h;rfl
 |some R=>rw[hl]at h;obtain⟨rfl,_,b,_,a,_⟩:=h;simp only;rw[←a,←b];rfl
theorem Lm {e t:ByteArray}(h:ob lg q r e t f):iW (dC q)=bif f&&decide (dC e= [101,101,100])then(bif decide (0<iT (dC r))then dC r++dC t else dC q)else bif f&&sY (dC r)then mD (dC r)else dC q:=by
 rw[ob]at h;rw[iW];cases hl:fq lg (dC q)with
 |none=>rw[hl]at h;obtain⟨rfl,_⟩:=h;rfl
 |some R=>rw[hl]at h;obtain⟨rfl,c,b,_,a,_⟩:=h;simp only;rw[←a,←b,←c,Xv,Xv]
theorem SS (hq:q.size≤10000000):SC G prog 237 [.string q] H (λv x=>∃r,v=.string r∧dC r=kM (iW (ja (dC q)))∧x=H):=by
 refine sWk func237 ?_;refine ws_ (wr_ (e_ asn (on_ (qn_ (ws_ (wr_ (e_ mv (e_ (bld [(0,_),(1,_)]) (e_ (bld [(0,_),(1,_)]) (e_ (bld [(0,_),(1,_)]) (e_ (bld [(0,_),(1,_)]) ?_)))))))))));refine s_ (ek eR (jB jl) bH rfl ax) ?_;rintro _ _ ⟨s12,rfl,rfl⟩;refine c2_ rfl (tN Zy a8 ae ae) ?_;rintro _ _ ⟨r1,e1,t1,f1,rfl,f,rfl⟩;have d:=Ln f;have z1:=tX f;have y1:=AR (k:=10) f ae;refine e_ mv (e_ exr (e_ exr (e_ exr (alc (k:=λb4=>?_)))));refine e_ asn (sto (k:=e_ asn (on_ (qn_ (iu ByteArray (λy=>dC y=ja (dC q)) (λy=>[(0,.string y)]) [0,17,18,19,20,21] ?_ ?_)))))
 ·refine ws_ (wr_ (e_ mv (on_ (qn_ (wi_ (k:=λh1=>?_) (m:=λh1=>?_))))))
  ·rw[h1]at d;refine wr_ (e_ mv (e_ fla (e_ ldv (e_ I4 (e_ asn (on_ (jnE _ (q:=?_))))))));rw[d,fG];rfl
  rw[h1]at d;refine wk_ (jnE _ (q:=?_));exact d.symm
 rintro u i
 try dsimp only[Yd,Ye]at*
 have z2:=uP i (pE _);refine ws_ (wr_ (e_ mv (e_ (bld [(0,_),(1,_)]) (e_ (bld [(0,_),(1,_)]) (e_ (bld [(0,_),(1,_)]) ?_)))));refine s_ (ek eR (jB lg) bH rfl ax) ?_;rintro _ _ ⟨s27,rfl,rfl⟩;refine c2_ rfl (tN Zx a8 ae ae) ?_;rintro _ _ ⟨n,t,t2,w,rfl,e,rfl⟩;have a:=Lm e;have z3:=tX e;have y2:=AR (k:=10) e ae;refine e_ mv (e_ exr (e_ exr (e_ exr (e_ asn (sto (k:=e_ asn (on_ (qn_ (iu ByteArray (λy=>dC y=iW (dC u)) (λy=>[(0,.string y)]) [0,32,33,34,35,36,37,38,39,40,41,42,43,44,45,46,47,48,49,50,51] ?_ ?_)))))))))
 ·refine ws_ (wr_ (e_ mv (e_ mv (dV 4 37 (k:=λh2=>eg_ fla (eg_ ldv (eg_ tH (e_ pkt (on_ edq))))) (q:=on_ (qn_ (wi_ (k:=λh3=>?_) (m:=λh3=>?_))))))))
  ·obtain⟨l,j⟩:=h3;rw[l,Xv,Ys (show dC t= [101,101,100]from j)]at a;refine ws_ (wr_ (e_ mv ?_));refine d1_ rfl (Cx a8) (e_ igt (on_ (qn_ (wi_ (k:=λh4=>?_) (m:=λh4=>?_)))))
   ·rw[Ys (show 0<iT (dC n)from a8)]at a;refine wr_ (e_ mv (e_ fla (e_ ldv (e_ I4 (e_ asn (on_ (jnE _ (q:=?_))))))));rw[a,fG];rfl
   rw[Yr (show ¬0<iT (dC n)from a8)]at a;refine wk_ (jnE _ (q:=?_));exact a.symm
  have hc:(w&&decide (dC t= [101,101,100]))=false:=by
   rcases h3 with c|c
   ·rw[c];rfl
   ·rw[Yr (show ¬dC t= [101,101,100]from c)];simp
  rw[hc,cond_false]at a;refine ws_ (wr_ (e_ mv (e_ mv (dV 3 49 (k:=λh5=>eg_ mv (iU (vs:=[_]) (hc:=(QU a8)) (k:=e_ pkt (on_ edq)))) (q:=on_ (qn_ (wi_ (k:=λh6=>?_) (m:=λh6=>?_))))))))
  ·obtain⟨l,j⟩:=h6;rw[l,j]at a;refine wr_ (e_ mv ?_);refine c1_ rfl (OG a8) ?_;rintro _ _ ⟨r3,rfl,p,rfl⟩;refine e_ asn (on_ (jnE _ (q:=?_)));rw[p,a];rfl
  have s:(w&&sY (dC n))=false:=by
   rcases h6 with c|c
   ·rw[c];rfl
   ·rw[c];simp
  rw[s]at a;refine wk_ (jnE _ (q:=?_));exact a.symm
 rintro b g
 try dsimp only[Yd,Ye]at*
 have z4:=uP g (pD _);have hul:=dI b;have hxz:=Fo b (b.size-1);refine ws_ (ws_ (wr_ (e_ mv ?_)));refine d2_ rfl (jZ a8 ae) (e_ mv (dV 7 61 (k:=λh7=>eg_ mv (eg_ mv (eg_ xO (eg_ (isb (h:=by omega)) (eg_ (tE (hj:=Ic (by have:=nA ‹dZ (dC b) (dC ⟨#[121]⟩)=true›;have h2:(dC ⟨#[121]⟩).length=1:=rfl;omega))) (iU (vs:=[_]) (hc:=(QU a8)) (k:=e_ pkt (on_ edq)))))))) (q:=on_ (qn_ (wi_ (k:=λh8=>?_) (m:=λh8=>?_))))))
 ·obtain⟨l,j⟩:=h8;have k3:=nA l;have k4:(dC ⟨#[121]⟩).length=1:=rfl;rw[jS]at j;refine wr_ (e_ mv (e_ mv (e_ xO (e_ isb (e_ tE ?_)))));refine e_ (jn rfl rfl (by show(b.extract 0 (b.size-1)).size+1≤_;omega)) ?_;refine e_ asn (on_ (qn_ (ws_ (wr_ (e_ mv (e_ asn (on_ (qn_ (wt_ (rT (k:=?_)))))))))));exact⟨_,hsb,b.extract 0 (b.size-1)++⟨#[105]⟩,rfl,by rw[←i,←g,kM,show dZ (dC b) [121]=true from l,j,fG,jS];rfl,rfl⟩
 have hc:(dZ (dC b) [121]&&sY (eA (dC b)))=false:=by
  rcases h8 with c|c
  ·rw[show dZ (dC b) [121]=false from c];rfl
  ·rw[jS]at c;rw[c];simp
 refine wk_ (qn_ (ws_ (wr_ (e_ mv (e_ asn (on_ (qn_ (wt_ (rT (k:=?_))))))))));exact⟨_,hsb,b,rfl,by rw[←i,←g,kM,hc];rfl,rfl⟩
theorem WU (hq:q.size≤10000000):SC G prog 239 [.string q] H (λv h=>∃r,v=.string r∧dC r=qJ (dC q)∧h=H):=by
 have b:=Fo q (q.size-1);refine sWk func239 ?_;refine ws_ (wr_ (e_ asn (on_ (qn_ (iu ByteArray (λy=>dC y=jk (dC q)∧y.size≤q.size) (λy=>[(0,.string y)]) [0,3,4,5,6,7,8,9,10,11,12,13,14,15,16,17,18,19,20,21,22,23,24,25] ?_ ?_)))))
 ·refine go ?_;refine d2_ rfl (jZ a8 ae) (gW (λh1=>?_) (λh1=>?_))
  ·have a:dZ (dC q) [101]=true:=h1;have g:=nA h1;have f:(dC ⟨#[101]⟩).length=1:=rfl;have k5:=dI q;refine gk (k:=e_ tE (go ?_));refine d1_ rfl (Cx a8) ?_;rw[jS];refine gk (k:=ep 8 24 (k:=λh2=>gk (k:=dV 4 23 (k:=λh3=>gk (k:=iU (vs:=[_]) (hc:=(Kx a8)) (k:=gk (k:=edq)))) (q:=gk (k:=edq)))) (q:=gW (λh4=>?_) (λh4=>?_)))
   ·rw[jS]at h4;have hc:(decide (1<iT (eA (dC q))) ||decide (iT (eA (dC q))=1)&&!iX (eA (dC q)))=true:=by
     rcases h4 with c|⟨c,c'⟩
     ·rw[Ys a8];rfl
     ·rw[Ys (show iT (eA (dC q))=1 from a8),c'];simp
    refine gk (k:=jnE _ (q:=?_));exact⟨by rw[jk,a,hc,jS];rfl,b⟩
   rw[jS]at h4;have hc:(decide (1<iT (eA (dC q))) ||decide (iT (eA (dC q))=1)&&!iX (eA (dC q)))=false:=by
    obtain⟨c,c'⟩:=h4;rw[Yr a8];rcases c' with c'|c'
    ·rw[Yr a8];rfl
    ·rw[c'];simp
   refine gk (k:=jnE _ (q:=?_));exact⟨by rw[jk,a,hc];rfl,Xl _⟩
  have a:dZ (dC q) [101]=false:=h1;refine gk (k:=jnE _ (q:=?_));exact⟨by rw[jk,a];rfl,Xl _⟩
 rintro u ⟨d,hJz⟩
 try dsimp only[Yd,Ye]at*
 have hul:=dI u;refine go ?_;refine d2_ rfl (jZ a8 ae) (gk (k:=dV 4 32 (k:=λh5=>gk (k:=iU (vs:=[_]) (hc:=(Cx a8)) (k:=gk (k:=edq)))) (q:=gW (λh6=>?_) (λh6=>?_))))
 ·obtain⟨e,c2⟩:=h6;have g:=nA e;have f:(dC ⟨#[108,108]⟩).length=2:=rfl;refine gk (k:=e_ tE (go ?_));refine gR ?_;exact⟨_,hsb,u.extract 0 (u.size-1),rfl,by rw[jS,qJ,←d,show dZ (dC u) [108,108]=true from e,Ys a8];rfl,rfl⟩
 have hN:(dZ (jk (dC q)) [108,108]&&decide (1<iT (jk (dC q))))=false:=by
  rw[←d];rcases h6 with k|k
  ·rw[show dZ (dC u) [108,108]=false from k];rfl
  ·rw[Yr a8];simp
 refine gR ?_;exact⟨_,hsb,u,rfl,by rw[qJ,hN,d];rfl,rfl⟩
end
section
variable {G:dJ}{H:dD}{q:ByteArray}
theorem Md {n:Nat}(h:n<19):∃a,(gq.map λr=>eG r.1)[n]? =some a∧(jB gq).take (n+1)=(jB gq).take n++ [(a,⟨#[]⟩)]∧a.size≤10:=by
 have hn:n<gq.length:=h;have h2:∀r∈gq,r.2= []∧r.1.length≤10:=ae;obtain⟨h3,h4⟩:=h2 _ (List.getElem_mem hn);refine⟨eG (gq[n]).1,by rw[Xd,Yi hn];rfl,?_,by rw[j9];exact h4⟩;rw[Um,jB,Xd,Yi hn];simp only[Vs,R4,h3];rfl
theorem Pj {r e t:ByteArray}{f:Bool}(h:ob gq q r e t f):mZ (dC q)=bif f&&decide (dC e= [105,111,110])&&!dZ (dC r) [115]&&!dZ (dC r) [116]then dC q else gQ gq 1 (dC q):=by
 rw[ob]at h;rw[mZ];cases hl:fq gq (dC q)with
 |none=>rw[hl]at h;obtain⟨rfl,_⟩:=h;simp only[Vk,cond_false];rw[gQ,hl]
 |some R=>rw[hl]at h;obtain⟨rfl,b,g2,_,a,_⟩:=h;simp only;rw[←a,←b,Xv]
theorem OF (hq:q.size≤10000000):SC G prog 238 [.string q] H (λv B=>∃r,v=.string r∧dC r=mZ (gQ kr 0 (gQ jC 0 (dC q)))∧B=H):=by
 refine sWk func238 ?_;refine ws_ (wr_ (e_ asn (on_ (qn_ (ws_ (wr_ (e_ mv (e_ (bld [(0,_),(1,_)]) (e_ (bld [(0,_),(1,_)]) (e_ (bld [(0,_),(1,_)]) (e_ (bld [(0,_),(1,_)]) (e_ (bld [(0,_),(1,_)]) (e_ (bld [(0,_),(1,_)]) ?_)))))))))))));refine e_ (bld [(0,_),(1,_)]) (e_ (bld [(0,_),(1,_)]) (e_ (bld [(0,_),(1,_)]) (e_ (bld [(0,_),(1,_)]) (e_ (bld [(0,_),(1,_)]) (e_ (bld [(0,_),(1,_)]) (e_ (bld [(0,_),(1,_)]) (e_ (bld [(0,_),(1,_)]) (e_ (bld [(0,_),(1,_)]) (e_ (bld [(0,_),(1,_)]) (e_ (bld [(0,_),(1,_)]) (e_ (bld [(0,_),(1,_)]) (e_ (bld [(0,_),(1,_)]) (e_ (bld [(0,_),(1,_)]) ?_)))))))))))));refine s_ (ek eR (jB jC) bH rfl ax) ?_;rintro _ _ ⟨s30,rfl,rfl⟩;refine c3_ rfl (uR (most:=0) rp2 a8 ae ae) ?_;rintro _ _ ⟨r1,rfl,d,rfl⟩;have z1:=uP d (jY (k:=10) ae _);refine e_ asn (on_ (qn_ (ws_ (wr_ (e_ mv (e_ (bld [(0,_),(1,_)]) (e_ (bld [(0,_),(1,_)]) (e_ (bld [(0,_),(1,_)]) (e_ (bld [(0,_),(1,_)]) (e_ (bld [(0,_),(1,_)]) (e_ (bld [(0,_),(1,_)]) (e_ (bld [(0,_),(1,_)]) ?_))))))))))));refine s_ (ek eR (jB kr) bH rfl ax) ?_;rintro _ _ ⟨s40,rfl,rfl⟩;refine c3_ rfl (uR (most:=0) rp3 a8 ae ae) ?_;rintro _ _ ⟨t,rfl,b,rfl⟩;have z2:=uP b (jY (k:=10) ae _);refine go ?_;refine s_ (fk eR rfl) ?_;rintro _ _ ⟨i,rfl,rfl⟩;refine go ?_;refine s_ (ek eS (gq.map λr=>eG r.1) bH rfl ax) ?_;rintro _ _ ⟨s43,rfl,rfl⟩;refine gk (k:=e8 (SV×Nat) (λy=>y.2≤19) (λy=>[(3,y.1.val),(45,iN y.2)]) [(0,_),(43,_),(44,_)] (λy=>[Row y.1 eR ((jB gq).take y.2)]) _ (λy=>19-y.2) ((i,0)) (h0:=?_) (k:=?_))
 ·exact Yl _
 rintro⟨s,n⟩ hn
 try dsimp only[Yd,Ye]at*
 refine gW (λh1=>?_) λh1=>?_
 ·have l:n<19:=by have h:=h1;rw[show(gq.map λr=>eG r.1).length=19 from rfl]at h;omega
  obtain⟨a,ha,hk,haz⟩:=Md l;have hl4:((jB gq).take n).length≤19:=by rw[Yg];exact Xi (Nat.min_le_left _ _) hn
  refine wk_ (qn_ (ws_ (wb_ (ws_ (wr_ (e_ ixa (e_ lel (e_ asn (on_ (qn_ (wr_ (e_ mv (e_ mv ?_)))))))))))));refine e_ (bld [(0,_),(1,_)]) (fS eR (k:=λs52=>?_));refine app (k:=λg=>?_);rw[←hk];refine go ?_;refine lN ((g,n+1)) ?_
  try dsimp only
  omega
 obtain rfl:n=19:=by have h:=h1;rw[show(gq.map λr=>eG r.1).length=19 from rfl]at h;omega
 have h4:(jB gq).take 19=jB gq:=rfl;rw[h4];refine go ?_;refine c2_ rfl (tN rp4 a8 ae ae) ?_;rintro _ _ ⟨e,m,t3,u,rfl,hL,rfl⟩;have f:=Pj hL;have z3:=tX hL;refine gk (k:=alc (k:=λb7=>?_));refine gk (k:=dV 4 67 (k:=λh2=>gk (k:=eg_ tH (gk (k:=edq)))) (q:=gk (k:=dV 4 72 (k:=λh3=>gk (k:=iU (vs:=[_,_]) (hc:=(jZ a8 ae)) (k:=gk (k:=edq)))) (q:=go ?_))));refine dV 4 77 (k:=λh4=>gk (k:=iU (vs:=[_,_]) (hc:=(jZ a8 ae)) (k:=gk (k:=edq)))) (q:=gW (λh5=>?_) (λh5=>?_))
 ·obtain⟨⟨⟨A,z⟩,x⟩,w⟩:=h5;rw[A,Ys (show dC m= [105,111,110]from z),show dZ (dC e) [115]=false from x,show dZ (dC e) [116]=false from w]at f;refine gR ?_;exact⟨_,hsb,t,rfl,by rw[←d,←b,f];rfl,rfl⟩
 have hc:(u&&decide (dC m= [105,111,110])&&!dZ (dC e) [115]&&!dZ (dC e) [116])=false:=by
  rcases h5 with((c|c)|c)|c
  ·rw[c];rfl
  ·rw[Yr (show ¬dC m= [105,111,110]from c)];simp
  ·rw[show dZ (dC e) [115]=true from c];simp
  ·rw[show dZ (dC e) [116]=true from c];simp
 rw[hc]at f;refine go ?_;refine c3_ rfl (uR (most:=1) rp4 a8 ae ae) ?_;rintro _ _ ⟨p,rfl,j,rfl⟩;refine gR ?_;exact⟨_,hsb,p,rfl,by rw[j,←d,←b,f];rfl,rfl⟩
theorem QS (hq:q.size≤5000000):SC G prog 198 [.string q] H (λv t=>∃r,v=.string r∧dC r=jM (dC q)∧t=H):=by
 have hl:=dI q;have l:=Fo q (q.size-2);refine sWk func198 ?_;refine ws_ (wr_ (e_ asn (on_ (qn_ (iu ByteArray (λy=>dC y=m7 (dC q)∧y.size≤q.size) (λy=>[(0,.string y)]) [0,4,5,6,7,8,9,10,11,12,13,14,15] ?_ ?_)))))
 ·refine gk (k:=dV 3 10 (k:=λh1=>gk (k:=iU (vs:=[_,_]) (hc:=(jZ a8 ae)) (k:=gk (k:=edq)))) (q:=gW (λh2=>?_) (λh2=>?_)))
  ·obtain⟨c1,s⟩:=h2;refine gk (k:=e_ tE (gk (k:=jnE _ (q:=?_))));exact⟨by rw[ij,m7,Ys a8,show dZ (dC q) [39,115]=true from s,hl];rfl,l⟩
  have hc:(decide (2<(dC q).length)&&dZ (dC q) [39,115])=false:=by
   rcases h2 with c|c
   ·rw[Yr a8];rfl
   ·rw[show dZ (dC q) [39,115]=false from c];simp
  refine gk (k:=jnE _ (q:=?_));exact⟨by rw[m7,hc];rfl,Xl _⟩
 rintro u ⟨hub,hJz⟩
 try dsimp only[Yd,Ye]at*
 have hul:=dI u;refine gW (λh3=>?_) λh3=>?_
 ·have g:jM (dC q)=dC u:=by rw[jM,←hub,vK,Ys a8];rfl
  refine gR ?_;exact⟨_,hsb,u,rfl,g.symm,rfl⟩
 refine gk (k:=e8 Nat (λy=>y≤u.size∧∀j,j<y→qX (at0 (dC u) j)=true) (λy=>[(3,iN y)]) [(0,_)] (λy=>[]) _ (λy=>u.size-y) (0) (h0:=?_) (k:=?_))
 ·exact⟨Yl _,λj hj=>absurd hj (Up _)⟩
 rintro i ⟨hi,a⟩
 try dsimp only[Yd,Ye]at*
 refine gW (λh4=>?_) λh4=>?_
 ·refine gk (k:=ep 5 35 (k:=λh5=>gk (k:=edq)) (q:=go ?_));refine wi_ (k:=λh6=>?_) (m:=λh6=>?_)
  ·have hn:qX (at0 (dC u) i)=false:=by simp only[qX,Ua,Xy];omega
   have g:jM (dC q)=dC u:=by rw[jM,←hub,vK,Hv a8 hn];simp
   refine gR ?_;exact⟨_,hsb,u,rfl,g.symm,rfl⟩
  have hy:qX (at0 (dC u) i)=true:=by simp only[qX,Xu,Xq];omega
  refine go ?_;refine lN (i+1) ?_
  try dsimp only
  refine⟨a8,λj hj=>?_⟩
  by_cases e:j=i
  ·subst e;exact hy
  ·exact a j a8
 have hA:=all_take a a8;have g:jM (dC q)=qJ (mZ (gQ kr 0 (gQ jC 0 (kM (iW (ja (dC u))))))):=cL;refine go ?_;refine c1_ rfl (SS a8) ?_;rintro _ _ ⟨h,rfl,f,rfl⟩;have z1:=uP (q:=u) (k:=40) f (by have a1:=pE (dC u);have a2:=pD (ja (dC u));have a3:=sP (iW (ja (dC u)));omega);refine go ?_;refine c1_ rfl (OF a8) ?_;rintro _ _ ⟨r2,rfl,d,rfl⟩;have z2:=uP (q:=h) (k:=30) d (by have a4:=jY (rs:=jC) (most:=0) (k:=10) ae (dC h);have a5:=jY (rs:=kr) (most:=0) (k:=10) ae (gQ jC 0 (dC h));have a6:=uK (gQ kr 0 (gQ jC 0 (dC h)));omega);refine go ?_;refine c1_ rfl (WU a8) ?_;rintro _ _ ⟨n,rfl,b,rfl⟩;have p:dC n=jM (dC q):=by
  rw[d,f]at b;exact b.trans g.symm
 refine gR ?_;exact⟨_,hsb,n,rfl,p,rfl⟩
end
section
variable {G:dJ}{H:dD}{q:ByteArray}
theorem Wg (hq:q.size≤1000000000):SC G prog 332 [.string q] H (λv d=>v=.string (eG (kF (dC q)))∧d=H):=by
 have hl:=dI q;refine sWk func332 ?_;refine go ?_;refine s_ (Wm rfl) ?_;rintro _ _ ⟨a,rfl,rfl⟩;have b:dH (Row a eB (dC q)::H) (Row a eB (lE (dC q) 0)::H):=by rw[Fl];exact dH.refl
 refine gk (k:=e8 Nat (λy=>y≤q.size) (λy=>[(10,iN y)]) [(0,_),(3,_),(8,_),(9,_)] (λy=>[Row a eB (lE (dC q) y)]) H (λy=>q.size-y) (0) (hh:=?_) (h0:=?_) (k:=?_))
 ·exact b
 ·exact Yl _
 rintro i hi
 try dsimp only[Yd,Ye]at*
 have hp:=ug (w:=dC q) (i:=i) a8;refine gW (λh1=>?_) λh1=>?_
 ·have c:=zI (w:=dC q) (i:=i) a8;refine wk_ (qn_ (ws_ (wb_ (ws_ (wr_ (e_ mv ?_))))));refine e_ (er rfl rfl i rfl a8) ?_;refine e_ (gT rfl bH bH _ c) ?_;refine gk (k:=dV 3 20 (k:=λh2=>gk (k:=edq)) (q:=gk (k:=ep 22 43 (k:=λh3=>gk (k:=dV 6 30 (k:=λh4=>gk (k:=edq)) (q:=gk (k:=dV 3 34 (k:=λh5=>gk (k:=edq)) (q:=gk (k:=dV 3 38 (k:=λh6=>gk (k:=edq)) (q:=gk (k:=dV 3 42 (k:=λh7=>gk (k:=edq)) (q:=gk (k:=edq)))))))))) (q:=go ?_))));refine ir_ (k:=λh8=>?_) (m:=λh8=>?_)
  ·have hc:lF (dC q) i=true:=by rw[←h8];exact bq (by simp[lF] <;> omega)
   have hx:at0 (dC q) i≤158:=by simp only[lF,Uh,Xu,Xq]at hc;omega
   refine wr_ (e_ mv (e_ mv (e_ mv ?_)));refine e_ (jo 256 rfl rfl rfl rfl _ 32 rfl rfl a8) ?_;refine e_ (er rfl rfl i rfl a8) ?_;refine s_ (et rfl rfl rfl a8) ?_;rintro _ _ ⟨rfl,rfl⟩;rw[ID a8 hc];refine go ?_;refine lN (i+1) ?_
   try dsimp only
   omega
  have hc:lF (dC q) i=false:=by rw[←h8];exact bq (by simp[lF] <;> omega)
  rw[Mg a8 hc];refine go ?_;refine lN (i+1) ?_
  try dsimp only
  omega
 obtain rfl:i=q.size:=a8;refine we_ (qe_ (le_ (bh_ (qn_ (ws_ (wr_ (e_ mv ?_)))))));refine e_ (fx rfl) ?_;refine gR ?_;refine⟨_,hsb,?_,rfl⟩;rw[←hl,IE];rfl
theorem WW (hq:q.size≤1000000000):SC G prog 196 [.string q] H (λv g=>v=.string (eG (kF (dC q)))∧g=H):=by
 have hl:=dI q;refine sWk func196 ?_;refine go ?_;refine s_ (fk eB rfl) ?_;rintro _ _ ⟨f,rfl,rfl⟩;refine gk (k:=e8 (SV×Nat) (λy=>y.2≤q.size) (λy=>[(3,y.1.val),(4,iN y.2)]) [(0,_)] (λy=>[Row y.1 eB ((kF (dC q)).take y.2)]) _ (λy=>q.size-y.2) ((f,0)) (h0:=?_) (k:=?_))
 ·exact Yl _
 rintro⟨s,i⟩ hi
 try dsimp only[Yd,Ye]at*
 refine gW (λh1=>?_) λh1=>?_
 ·have c:=yc (w:=dC q) (i:=i) a8;have hll:=hU (dC q);have b:lF (dC q) i=true→mr (dC q) i=at0 (dC q) i+32:=λhc=>by rw[mr,hc];rfl
  have hno:lF (dC q) i=false→mr (dC q) i=at0 (dC q) i:=λhc=>by rw[mr,hc];rfl
  refine go ?_;refine gk (k:=dV 3 21 (k:=λh2=>gk (k:=edq)) (q:=gW (λh3=>?_) (λh3=>?_)))
  ·rw[b (by simp[lF];omega)]at c;refine wr_ (e_ mv ?_);refine e_ (jo 256 rfl rfl rfl rfl _ 32 rfl rfl a8) ?_;refine gk (k:=dV 6 32 (k:=λh4=>gk (k:=edq)) (q:=gk (k:=dV 3 36 (k:=λh5=>gk (k:=edq)) (q:=gk (k:=dV 3 40 (k:=λh6=>gk (k:=edq)) (q:=?_))))));refine gk (k:=dV 3 44 (k:=λh7=>gk (k:=edq)) (q:=gW (λh8=>?_) (λh8=>?_)))
   ·exfalso;omega
   try rw[hno (by cases hc:lF (dC q) i with
    |false=>rfl
    |true=>exfalso;simp[lF]at*;omega)]at c
   refine gk (k:=fS eB (k:=λd=>?_));refine app (k:=λa=>?_);rw[←c];refine go ?_;refine lN ((a,i+1)) ?_
   try dsimp only
   omega
  refine gk (k:=dV 6 32 (k:=λh9=>gk (k:=edq)) (q:=gk (k:=dV 3 36 (k:=λh10=>gk (k:=edq)) (q:=gk (k:=dV 3 40 (k:=λh11=>gk (k:=edq)) (q:=go ?_))))));refine dV 3 44 (k:=λh12=>gk (k:=edq)) (q:=gW (λe=>?_) (λe=>?_))
  ·rw[b (by simp[lF]at*;omega)]at c;refine wr_ (e_ mv ?_);refine e_ (jo 256 rfl rfl rfl rfl _ 32 rfl rfl a8) ?_;refine gk (k:=fS eB (k:=λd=>?_));refine app (k:=λa=>?_);rw[←c];refine go ?_;refine lN ((a,i+1)) ?_
   try dsimp only
   omega
  try rw[hno (by cases hc:lF (dC q) i with
   |false=>rfl
   |true=>exfalso;simp[lF]at*;omega)]at c
  refine gk (k:=fS eB (k:=λd=>?_));refine app (k:=λa=>?_);rw[←c];refine go ?_;refine lN ((a,i+1)) ?_
  try dsimp only
  omega
 obtain rfl:i=q.size:=a8;refine we_ (qe_ (le_ (bh_ (qn_ (ws_ (wr_ (e_ mv ?_)))))));refine e_ (fx rfl) ?_;refine gR ?_;refine⟨_,hsb,?_,rfl⟩;rw[←hl,Xr (by rw[hU];exact Xl _)];rfl
end
section
variable {G:dJ}{H:dD}{xs:List Nat}
theorem wI {s p:SV} [Sl H s eB xs] [Sl H p eSV [s]] (hn:xs.length≤1000000000000):SC G prog 136 [p.val] H (λv h=>∃f:SV,v=f.val∧h=Row f eB xs::H):=by
 refine sWk func136 ?_;refine go ?_;refine gk (k:=wl_ (Nat×Nat) (λy=>y.1≤1∧y.2=y.1*xs.length) (λy=>[(0,p.val),(3,iN y.2),(10,p.val),(11,.int .i64 1),(12,iN y.1)]) (λ_=>H) (λy=>1-y.1) ((0,0)) (h0:=?_) (k:=?_))
 ·exact⟨a8,aq⟩
 rintro⟨i,n⟩ ⟨hi,d⟩
 try dsimp only at*
 refine gW (λh1=>?_) λh1=>?_
 ·obtain rfl:i=0:=by omega
  obtain rfl:n=0:=a8;refine wk_ (qn_ (ws_ (wb_ (ws_ (wr_ ?_)))));refine e_ (er rfl rfl 0 rfl aq) (go ?_);refine lN ((1,0+xs.length)) ?_
  exact⟨a8,a8⟩
 obtain rfl:i=1:=a8;obtain rfl:n=xs.length:=a8;refine go ?_;refine s_ (gn eB 0 rfl rfl _ _ rfl rfl rfl a8 a8 a8) ?_;rintro _ _ ⟨c,rfl,hs1n,hs1c,rfl⟩;refine go ?_;refine gk (k:=wl_ (Nat×Nat×List Nat) (λy=>y.1≤1∧y.2.1=y.1*xs.length∧y.2.2=if y.1=0 then List.replicate xs.length 0 else xs) (λy=>[(6,c.val),(7,iN y.2.1),(23,p.val),(24,.int .i64 1),(25,iN y.1)]) (λy=>Row c eB y.2.2::H) (λy=>1-y.1) ((0,0,List.replicate xs.length 0)) (h0:=?_) (k:=?_))
 ·exact⟨a8,aq,rfl⟩
 rintro⟨i,n,zs⟩ ⟨hi,d,g⟩
 try dsimp only at*
 refine gW (λh2=>?_) λh2=>?_
 ·obtain rfl:i=0:=by omega
  obtain rfl:n=0:=a8;obtain rfl:zs=List.replicate xs.length 0:=g;refine wk_ (qn_ (ws_ (wb_ (ws_ (wr_ ?_)))));refine e_ (er rfl rfl 0 rfl aq) ?_;refine e_ lel (e_ asn (on_ (qn_ (wr_ (e_ mv (e_ mv (e_ mv ?_)))))));refine e_ (fV rfl bH 0 xs.length ⟨_,_,rfl,rfl⟩ aq a8 aq) (go ?_);refine s_ (Gd (a:=0) (b:=xs.length) rfl rfl bH a8 aq xs.length aq) ?_;rintro _ _ ⟨rfl,rfl⟩;refine go ?_;refine ln_ ((1,0+xs.length,xs)) (h4:=?_) (k:=?_)
  ·try dsimp only
   have e:List.take 0 (List.replicate xs.length 0)++List.take xs.length xs++List.drop (0+xs.length) (List.replicate xs.length 0)=xs:=aq;rw[e];exact hsb
  exact⟨a8,a8,rfl⟩
 obtain rfl:i=1:=a8;obtain rfl:zs=xs:=g;refine gR ?_;exact⟨_,hsb,c,rfl,rfl⟩
theorem kK {R:dD}{b:Nat} [hr:Rem H Wr b xs R] (hn:xs.length≤1000000000000):SC G prog 165 [pA b] H (λv d=>∃a:SV,v=a.val∧d=Row a eB xs::Wr b xs::R):=by
 refine xi hr λs=>?_;refine sWk func165 ?_;refine gk (k:=fS eSV (k:=λs1=>?_));refine c1_ rfl (wI hn) ?_;rintro _ _ ⟨c,rfl,rfl⟩;refine gR ?_;exact⟨_,hsb,c,rfl,rfl⟩
theorem l3 {s:SV} [Sl H s eB xs] (hn:xs.length≤1000000000000):SC G prog 81 [s.val] H (λv a=>∃b,v=pA b∧a=Rd b (xs,0)::H):=by
 refine sWk func81 ?_;refine ws_ (wr_ (e_ asn (on_ (qn_ (ws_ (wr_ (e_ mv (e_ lnn (e_ (bld [(1,_)]) (gk (k:=fS eSV (k:=λs1=>?_))))))))))));refine c1_ rfl (wI hn) ?_;rintro _ _ ⟨s2,rfl,rfl⟩;refine e_ (bld [(0,_),(1,_)]) (bxx (k:=λb1=>?_));refine gR ?_;exact⟨_,hsb,_,rfl,rfl⟩
end
section
variable {G:dJ}{H R:dD}{b n:Nat}{xs:List Nat}
def uv (n:Nat):List Nat:=if n<128 then [n]else(n%128+128)::uv (n/128)
theorem oz (h:n<128):uv n= [n]:=by unfold uv;rw[if_pos h]
theorem uI (h:¬n<128):uv n=(n%128+128)::uv (n/128):=by rw[uv,if_neg h]
theorem Jv:∀(k n:Nat),n<128^k→0<k→(uv n).length≤k:=by
 intro k
 induction k with
 |zero=>intro n _ h;omega
 |succ k ih=>
  intro n hn _
  by_cases h:n<128
  ·rw[oz h];simp
  ·rw[uI h,Yb];have hk:0<k:=by
    rcases Un k with rfl|hk
    ·simp at hn;omega
    ·exact hk
   have:=ih (n/128) (by rw[Nat.pow_succ]at hn;omega) hk;omega
theorem iw (h:n<18446744073709551616):(uv n).length≤10:=Jv 10 n a8 ae
theorem sM (n:Nat):0<(uv n).length:=by
 by_cases h:n<128
 ·rw[oz h];simp
 ·rw[uI h];simp
theorem Ii:∀m:Fin 256,m.val ||| 128=m.val%128+128:=ax
theorem XF (n:Nat):(n%256) ||| 128=n%128+128:=by
 have:=Ii ⟨n%256,a8⟩;simp only at this;rw[this];omega
theorem iM:SC G prog 163 [] H (λv a=>∃b,v=pA b∧a=Wr b []::H):=by
 refine sWk func163 ?_;refine ws_ (wr_ (e_ asn (on_ (qn_ (ws_ (wr_ (e_ (bld []) (bxx (k:=λb1=>?_)))))))));refine gR ?_;exact⟨_,hsb,_,rfl,rfl⟩
theorem qA [hr:Rem H Wr b xs R] (x:Nat) (hn:xs.length≤1000000000000):SC G prog 214 [pA b,.int .u8 (x:Int)] H (λv a=>v=.tuple #[]∧a=Wr b (xs++ [x])::R):=by
 refine xi hr λs=>?_;refine sWk func214 ?_;refine gk (k:=fS eB (k:=λs1=>?_));refine app (k:=λs2=>?_);exact gZ
theorem Eb {s2:SV}{ys:List Nat} [hr:Rem H Wr b xs R] [Sl R s2 eB ys] (hn:xs.length≤1000000000000) (hm:ys.length≤1000000000000):SC G prog 218 [pA b,s2.val] H (λv a=>v=.tuple #[]∧a=Wr b (xs++ys)::R):=by
 refine xi hr λs=>?_;refine sWk func218 ?_;refine gk (k:=app (k:=λs1=>?_));exact gZ
theorem gl [hr:Rem H Wr b xs R] (x:Nat) (hx:x<18446744073709551616) (hn:xs.length≤1000000000000):SC G prog 212 [pA b,uN x] H (λv d=>v=.tuple #[]∧d=Wr b (xs++uv x)::R):=by
 refine xi hr λs=>?_;have hl:=iw hx;refine sWk func212 ?_;refine gk (k:=wl_ (SV×Nat×List Nat) (λy=>y.2.2++uv y.2.1=xs++uv x∧y.2.1<18446744073709551616) (λy=>[(0,pA b),(1,uN y.2.1)]) (λy=>Vr b [y.1.val]::Row y.1 eB y.2.2::R) (λy=>y.2.1) ((s,x,xs)) (h0:=?_) (k:=?_))
 ·exact⟨rfl,hx⟩
 rintro⟨s,n,zs⟩ ⟨hI,hnb⟩
 try dsimp only at*
 have a:=congrArg List.length hI;have hpos:=sM n;simp only[Ya]at a;refine gW (λh1=>?_) λh1=>?_
 ·refine wk_ (qn_ (wb_ (ws_ (wr_ (e_ mv (e_ mv (e_ nck (e_ fla (e_ ldv (e_ mv ?_))))))))));refine e_ ((bj)) ?_;refine e_ (ku 256 rfl rfl rfl rfl _ 128 rfl rfl ak ak) ?_;refine fS eB (k:=λs1=>?_);refine app (k:=λc=>?_);refine e_ nck (e_ fla (sto (k:=on_ (qn_ (wr_ (e_ mv ?_))))));refine e_ (hX rfl rfl _ 7 rfl rfl aV) (go ?_);refine lN ((c,n/2^7,zs++ [n%256 ||| 128])) ?_
  try dsimp only
  refine⟨?_,a8⟩;rw[←hI,XF,uI (n:=n) a8];simp
 have e:zs++ [n]=xs++uv x:=by rw[←hI,oz a8]
 refine we_ (qe_ (le_ (bh_ (qn_ (wr_ (e_ mv (e_ mv (e_ nck (e_ fla (e_ ldv (e_ mv ?_)))))))))));refine e_ ((bj)) ?_;refine fS eB (k:=λs3=>?_);refine app (k:=λs4=>?_);refine gR ?_;exact⟨_,by rw[e];exact hsb,rfl,rfl⟩
end
section
variable {G:dJ}{i:Nat}{l:List Int}{s:SV}
def o8 (l:List Int):Bool:=l.any λx=>decide (x<0)
def rise:List Int→Bool
 |x::y::r=>decide (x<y)&&rise (y::r)
 |_=>true
def iQ (last:Int):List Int→List Nat
 | []=>[]
 |x::xs=>uv (x-last-1).toNat++iQ x xs
theorem tL:∀l:List Int,rise l=true↔∀(i:Nat) (x y:Int),l[i]? =some x→l[i+1]? =some y→x<y
 | []=>by simp[rise]
 | [x]=>by simp[rise]
 |x::y::r=>by
  simp only[rise,Xu,Xq,tL (y::r)]
  constructor
  ·rintro⟨h1,h2⟩ i a b ha c;cases i with
   |zero=>simp at ha c;subst ha;subst c;exact h1
   |succ i=>simp only[Xc]at ha c;exact h2 i a b ha (by simpa using c)
  ·intro h;exact⟨h 0 x y aq aq,λi a b ha c=>h (i+1) a b (by simpa using ha) (by simpa using c)⟩
theorem mX (l:List Int):o8 l=false↔∀(i:Nat) (x:Int),l[i]? =some x→0≤x:=by
 simp only[o8,List.any_eq_false,Xq,Int.not_lt];exact⟨λh i x hx=>h x (Yj hx),λh x hx=>let ⟨i,hi⟩:=Vh.1 hx;h i x hi⟩
theorem yz {x:Int}(h:l[i]? =some x) (hx:x<0):o8 l=true:=by
 simp only[o8,S8,Xq];exact⟨x,Yj h,hx⟩
theorem eh {α:Type}{l:List α}{x:α}(h:l[i]? =some x):l.drop i=x::l.drop (i+1):=by
 have a:=(Yk.1 h).1;rw[List.drop_eq_getElem_cons a];congr 1;exact(Yk.1 h).2
theorem sC:∀(l:List Int) (last:Int), -1≤last→(∀x∈l,x≤9223372036854775807)→(iQ last l).length≤10*l.length∨∃x∈l,x<0
 | [],_,_,_=>by simp[iQ]
 |x::l,last,h,hl=>by
  by_cases hx:x<0
  ·exact .inr ⟨x,aq,hx⟩
  ·have h1:=hl x aq;rcases sC l x a8 (λy hy=>hl y (by simp[hy]))with h2|⟨y,hy,h3⟩
   ·left;have:=iw (n:=(x-last-1).toNat) a8;rw[iQ];simp only[Ya,Yb];omega
   ·exact .inr ⟨y,by simp[hy],h3⟩
theorem rB (a:o8 l=false) (hl:∀x∈l,x≤9223372036854775807):(iQ (-1) l).length≤10*l.length:=by
 rcases sC l (-1) a8 hl with h|⟨x,hx,h⟩
 ·exact h
 ·obtain⟨i,hi⟩:=Vh.1 hx;rw[yz hi h]at a;cases a
theorem DP {H:dD} [Sl H s eI l] (hn:l.length≤1000000000000):SC G prog 220 [s.val] H (λv b=>v=.bool (o8 l)∧b=H):=by
 refine sWk func220 ?_;refine go ?_;refine wl_ Nat (λi=>i≤l.length∧∀j x,j<i→l[j]? =some x→0≤x) (λi=>[(5,s.val),(6,iN l.length),(7,iN i)]) (λ_=>H) (λi=>l.length-i) (0) (h0:=?_) (k:=?_)
 ·exact⟨Yl _,λj x h=>absurd h (Up _)⟩
 rintro i ⟨hi,a⟩
 try dsimp only at*
 refine gW (λh1=>?_) λh1=>?_
 ·obtain⟨x,hx⟩:=gE l i;refine go ?_;refine gW (λh2=>?_) λh2=>?_
  ·refine gR ?_;exact⟨_,dH.refl,by rw[yz hx h2];rfl,rfl⟩
  refine go ?_;refine lN (i+1) ?_
  try dsimp only
  refine⟨a8,λj y hj hy=>?_⟩;rcases Uq (V9 hj)with h|rfl
  ·exact a j y h hy
  ·rw[hx]at hy;cases hy;omega
 refine gR ?_;exact⟨_,dH.refl,by rw[(mX l).2 λj x hx=>a j x (by have:=(Yk.1 hx).1;omega) hx];rfl,rfl⟩
theorem Nq {H R:dD}{b:Nat}{xs:List Nat} [hg:Glb G R] [hr:Rem H Wr b xs R] [Sl R s eI l] (hn:xs.length≤100000000000) (hm:l.length≤10000000000) (hl:∀x∈l,x≤9223372036854775807):SC G prog 164 [pA b,s.val] H (λv u=>
 (o8 l=true∧v=G.err 1∧u=Wr b xs::R)∨(o8 l=false∧rise l=false∧v=G.err 5∧u=Wr b xs::R)∨(o8 l=false∧rise l=true∧v=.nilIface∧u=Wr b (xs++(uv l.length++iQ (-1) l))::R)):=by
 refine SC.rem (h:=hr) ?_;refine sWk func164 ?_;refine go ?_;refine d1_ rfl (DP a8) (gW (λh1=>?_) (λh1=>?_))
 ·refine gR ?_;exact⟨_,dH.refl,.inl ⟨h1,rfl,rfl⟩⟩
 have A:=(mX l).1 h1;refine gk (k:=wl_ Nat (λi=>1≤i∧(1<i→i≤l.length)∧∀j x y,j+1<i→l[j]? =some x→l[j+1]? =some y→x<y) (λi=>[(0,pA b),(1,s.val),(5,iN i)]) (λ_=>Wr b xs::R) (λi=>l.length-i) (1) (h0:=?_) (k:=?_))
 ·exact⟨Xl _,λh=>absurd h (Nat.lt_irrefl _),λj x y h=>a8⟩
 rintro i ⟨t,hi2,f⟩
 try dsimp only at*
 refine ws_ (ws_ (wr_ (e_ mv (e_ mv (e_ lnn (e_ ilt (on_ (qn_ (wi_ (k:=λh2=>?_) (m:=λh2=>?_))))))))))
 ·obtain⟨x,hx⟩:=gE l (i-1);obtain⟨y,hy⟩:=gE l i;refine wk_ (qn_ (ws_ (wb_ (ws_ ?_))));refine dX dN (as_ 0 (q:=mv) (k:=as_ 1 (q:=mv) (k:=as_ 2 (q:=ixa) (k:=as_ 3 (q:=lel) (k:=as_ 4 (q:=mv) (k:=as_ 5 (q:=mv) (k:=as_ 6 (q:=isb) (k:=?_))))))));refine dS 7 rfl rfl aa rfl (ey (er rfl rfl (i-1) a8 a8)) ?_;refine gW (λh3=>?_) λh3=>?_
  ·refine gR ?_;refine⟨Wr b xs::R,by exact dH.refl,.inr (.inl ⟨h1,?_,rfl,rfl⟩)⟩;rw[←Bool.not_eq_true,tL];intro f;have:=f (i-1) x y hx (by rw[Q7 t];exact hy);omega
  refine go ?_;refine lN (i+1) ?_
  try dsimp only
  refine⟨a8,λ_=>a8,λj a c hj ha hc=>?_⟩;rcases Uq (V9 hj)with h|h
  ·exact f j a c h ha hc
  ·obtain rfl:j=i-1:=by omega
   rw[hx]at ha;rw[Q7 t,hy]at hc;cases ha;cases hc;omega
 have r:rise l=true:=(tL l).2 λj x y hx hy=>f j x y (by have:=(Yk.1 hy).1;omega) hx hy;have hul:=iw (n:=l.length) a8;refine we_ (qe_ (le_ (bh_ (qn_ (ws_ (wr_ (e_ mv (e_ mv (e_ lnn ?_)))))))));refine e_ ((ad)) ?_;refine d2_ rfl (gl l.length a8 a8) (go ?_);refine gk (k:=wl_ (Nat×Int×List Nat) (λy=>y.1≤l.length∧y.2.2++iQ y.2.1 (l.drop y.1)=xs++(uv l.length++iQ (-1) l)∧y.2.2.length≤xs.length+10+10*y.1∧ -1≤y.2.1∧(y.1=0→y.2.1= -1)∧∀x,0<y.1→l[y.1-1]? =some x→x=y.2.1) (λy=>[(0,pA b),(6,.int .i64 y.2.1),(34,s.val),(35,iN l.length),(36,iN y.1)]) (λy=>Wr b y.2.2::R) (λy=>l.length-y.1) ((0, -1,xs++uv l.length)) (h0:=?_) (k:=?_))
 ·try dsimp only
  refine⟨Yl _,aq,aQ,T8 _,λ_=>rfl,λx h=>absurd h (Nat.lt_irrefl _)⟩
 rintro⟨k,d,zs⟩ ⟨hk,hI,hlen,hlast,z,g⟩
 try dsimp only at*
 refine gW (λh4=>?_) λh4=>?_
 ·obtain⟨x,hx⟩:=gE l k;have hx0:=A k x hx;have hxm:=hl x (Yj hx);have hgt:d<x:=by
   rcases Un k with h0|h0
   ·have:=z h0;omega
   ·obtain⟨w,p⟩:=gE l (k-1);have h3:=g w h0 p;have h4:=(tL l).1 r (k-1) w x p (by rw[Q7 h0];exact hx);omega
  refine wk_ (qn_ (ws_ (wb_ (ws_ (wr_ (e_ ixa (e_ lel (e_ asn (on_ (qn_ (ws_ (wr_ (e_ mv ?_)))))))))))));refine e_ mv (e_ mv ?_);refine e_ (H5 rfl rfl _ rfl) ?_;refine e_ (H5 rfl rfl (x-d-1) cV) ?_;refine e_ (dW 18446744073709551616 rfl rfl rfl (x-d-1).toNat a8 a8) ?_;refine d2_ rfl (gl (x-d-1).toNat a8 a8) (go ?_);refine lN ((k+1,x,zs++uv (x-d-1).toNat)) ?_
  try dsimp only
  have hul2:=iw (n:=(x-d-1).toNat) a8;refine⟨a8,?_,aj,a8,λh=>a8,λw _ p=>?_⟩
  ·rw[←hI,eh hx,iQ,Yf]
  ·rw[X7]at p;rw[hx]at p;cases p;rfl
 obtain rfl:k=l.length:=a8;have e:zs=xs++(uv l.length++iQ (-1) l):=by rw[←hI];simp[iQ]
 refine gR ?_;exact⟨_,dH.refl,.inr (.inr ⟨h1,r,rfl,by rw[e]⟩)⟩
end
section
variable {G:dJ}{H R:dD}{b i k:Nat}{xs:List Nat}
def iz:Nat→List Nat→Except Nat (Nat×Nat)
 |_, []=>.error 2
 |i,x::r=>if i=9∧1<x then .error 3 else if 128≤x then
  (match iz (i+1) r with
  | .ok (v,n)=>.ok (x%128+128*v,n+1)
  | .error e=>.error e)
  else if x=0∧0<i then .error 3 else .ok (x,1)
theorem xw:∀i:Fin 9,2^(64-7*i.val)=128*2^(64-7*(i.val+1)):=ae
theorem k7:∀(l:List Nat) (i v n:Nat),(∀x∈l,x<256)→i≤9→iz i l=.ok (v,n)→
 v<2^(64-7*i)∧1≤n∧n+i≤10∧n≤l.length∧l.take n=uv v∧(0<i→0<v)
 | [],i,v,n,_,_,h=>bx
 |x::r,i,v,n,hb,hi,h=>by
  have hx:=hb x aq;rw[iz]at h
  split at h
  ·cases h
  ·rename_i h9
   split at h
   ·rename_i a;have hi9:i≤8:=a8
    split at h
    ·rename_i b c hr;obtain⟨h1,h2,h3,h4,h5,h6⟩:=k7 r (i+1) b c (λy hy=>hb y (by simp[hy])) a8 hr;have h7:=h6 a8;have h8:=xw ⟨i,a8⟩;simp only at h8;simp only[Except.ok.injEq,Prod.mk.injEq]at h;obtain⟨rfl,rfl⟩:=h;refine⟨a8,a8,a8,aQ,?_,λ_=>a8⟩;rw[uI (n:=x%128+128*b) a8,Vq,h5];congr 1
     ·omega
     ·congr 1;omega
    ·cases h
   ·split at h
    ·cases h
    ·rename_i a hx0;simp only[Except.ok.injEq,Prod.mk.injEq]at h;obtain⟨rfl,rfl⟩:=h;refine⟨?_,a8,a8,aq,?_,λ_=>a8⟩
     ·rcases Uq hi with h8|rfl
      ·have h8:=xw ⟨i,a8⟩;simp only at h8;have:0<2^(64-7*(i+1)):=U3 _;omega
      ·simp;omega
     ·rw[oz a8];simp
theorem Gk:∀(v i:Nat) (r:List Nat),i≤9→v<2^(64-7*i)→(0<i→0<v)→iz i (uv v++r)=.ok (v,(uv v).length):=by
 intro v
 induction v using Nat.strongRecOn with
 |_ v ih=>
  intro i r hi hv h0
  by_cases h:v<128
  ·rw[oz h];rw[List.singleton_append,iz,if_neg (by rintro⟨rfl,h1⟩;simp at hv;omega),if_neg a8,if_neg (by rintro⟨rfl,h2⟩;exact absurd (h0 h2) (Nat.lt_irrefl 0))];rfl
  ·have hi8:i≤8:=by
    rcases Uq hi with h8|rfl
    ·omega
    ·simp at hv;omega
   have h8:=xw ⟨i,a8⟩;simp only at h8;rw[uI h,Yd,iz,if_neg (by rintro⟨rfl,_⟩;omega),if_pos a8];rw[ih (v/128) a8 (i+1) r a8 a8 (λ_=>a8)];simp only[Yb,Except.ok.injEq,Prod.mk.injEq,and_true];omega
theorem left {k n:Int}{r:List Value} [dQ H b (.int .i64 k:: .int .i64 n::r)] (h: -9223372036854775808≤n-k∧n-k≤9223372036854775807):SC G prog 82 [pA b] H (λv a=>v=.int .i64 (n-k)∧a=H):=by
 refine sWk func82 ?_;refine ws_ (wr_ (e_ asn (on_ (qn_ (ws_ ?_)))));refine dX dN (go ?_);refine rT (k:=?_);exact⟨_,dH.refl,rfl,rfl⟩
theorem xb [hr:Rem H Rd b (xs,k) R]:SC G prog 172 [pA b] H (λv a=>v=iN k∧a=Rd b (xs,k)::R):=by
 refine Cn hr λs=>?_;refine sWk func172 ?_;refine go ?_;exact gZ
theorem tC [hg:Glb G R] [hr:Rem H Rd b (xs,k) R] (hk:k≤xs.length):SC G prog 175 [pA b] H (λv a=>a=Rd b (xs,k)::R∧((k<xs.length∧v=G.err 6)∨(k=xs.length∧v=.nilIface))):=by
 refine Cn hr λs=>?_;refine sWk func175 ?_;refine ws_ (wr_ (e_ asn (on_ (qn_ (ws_ (ws_ ?_))))));refine dX dN (as_ 0 (q:=mv) (k:=as_ 1 (q:=nck) (k:=as_ 2 (q:=fla) (k:=as_ 3 (q:=ldv) (k:=as_ 4 (q:=mv) (k:=as_ 5 (q:=nck) (k:=as_ 6 (q:=fla) (k:=as_ 7 (q:=ldv) (k:=as_ 8 (q:=ilt) (k:=az_ (k:=qn_ (wi_ (k:=λh1=>?_) (m:=λh1=>?_)))))))))))))
 ·refine ws_ (wr_ (e_ ldv (e_ asn (on_ (qn_ (wt_ (qr_ (rT (k:=?_)))))))));exact⟨_,hsb,rfl,.inl ⟨a8,rfl⟩⟩
 refine wk_ (qn_ (ws_ (wr_ (e_ asn (on_ (qn_ (wt_ (rT (k:=?_)))))))));exact⟨_,hsb,rfl,.inr ⟨a8,rfl⟩⟩
theorem WZ [hg:Glb G R] [hr:Rem H Rd b (xs,k) R] (hk:k≤xs.length) (hn:xs.length≤1000000000000):SC G prog 83 [pA b] H (λv a=>
 (k=xs.length∧v=.tuple #[.int .u8 0,G.err 2]∧a=Rd b (xs,k)::R)∨(∃x,xs[k]? =some x∧v=.tuple #[.int .u8 ((x:Nat):Int),.nilIface]∧a=Rd b (xs,k+1)::R)):=by
 refine Cn hr λs=>?_;refine sWk func83 ?_;refine ws_ (wr_ (e_ asn (e_ asn (on_ (qn_ (ws_ (ws_ (wr_ (e_ mv (e_ nck (e_ fla ?_)))))))))));refine d1_ rfl (left a8) (e_ ieq (on_ (qn_ (wi_ (k:=λh1=>?_) (m:=λh1=>?_)))))
 ·refine ws_ ?_;refine dX dN (as_ 0 (q:=ldv) (k:=as_ 1 (q:=asn) (k:=as_ 2 (q:=asn) (k:=az_ (k:=qn_ (wt_ (qr_ (rT (k:=?_)))))))));exact⟨_,hsb,.inl ⟨a8,rfl,rfl⟩⟩
 obtain⟨x,hx⟩:=gE xs k;refine wk_ (qn_ (ws_ (wr_ (e_ mv (e_ nck (e_ fla (e_ fla (e_ ldv (e_ iad (e_ nck (e_ fla (e_ fla (sto (k:=?_))))))))))))));refine on_ (qn_ (ws_ ?_));refine dX dN (as_ 0 (q:=mv) (k:=as_ 1 (q:=nck) (k:=as_ 2 (q:=fla) (k:=as_ 3 (q:=ldv) (k:=as_ 4 (q:=mv) (k:=as_ 5 (q:=nck) (k:=as_ 6 (q:=fla) (k:=as_ 7 (q:=fla) (k:=as_ 8 (q:=ldv) (k:=as_ 9 (q:=isb) (k:=?_)))))))))));refine dS 10 rfl rfl aa rfl (ey (er rfl rfl k a8 a8)) ?_;refine as_ 11 (q:=lel) (k:=as_ 12 (q:=asn) (k:=as_ 13 (q:=asn) (k:=az_ (k:=qn_ (wt_ (rT (k:=?_)))))));exact⟨_,hsb,.inr ⟨x,hx,rfl,rfl⟩⟩
theorem N3 {v a:Nat}(hv:v<2^(7*i)) (ha:a*2^(7*i)<18446744073709551616):v |||(a*2^(7*i))=v+a*2^(7*i):=by
 rw[Nat.or_comm,←Nat.shiftLeft_eq,←Nat.shiftLeft_add_eq_or_of_lt hv,Nat.shiftLeft_eq];omega
theorem lR (x:Nat):x &&& 127=x%128:=Nat.and_two_pow_sub_one_eq_mod x 7
theorem Ws:∀i:Fin 10,(if i.val=9 then 1 else 127)*2^(7*i.val)<18446744073709551616:=ae
theorem Ch {x:Nat}(hi:i≤9) (h9:i=9→x≤1):(x &&& 127)*2^(7*i)<18446744073709551616:=by
 have h:=Ws ⟨i,a8⟩;simp only at h;rw[lR];refine Nat.lt_of_le_of_lt (Vu _ ?_) h
 split
 ·have:=h9 aU;omega
 ·omega
theorem SY:∀i:Fin 10,2^(7*i.val)≤9223372036854775808:=ae
theorem p7 (h:i≤9):2^(7*i)≤9223372036854775808:=SY ⟨i,a8⟩
def Px (v i:Nat):Except Nat (Nat×Nat)→Except Nat (Nat×Nat)
 | .ok (w,n)=>.ok (v+w*2^(7*i),i+n)
 | .error e=>.error e
end
theorem oG {G:dJ}{H R:dD}{b k:Nat}{xs:List Nat} [hg:Glb G R] [hr:Rem H Rd b (xs,k) R] (hk:k≤xs.length) (hn:xs.length≤1000000000000) (h:∀x∈xs,x<256):SC G prog 85 [pA b] H (λv g=>
 (∃e,iz 0 (xs.drop k)=.error e∧v=.tuple #[.int .u64 0,G.err e]∧g=Rd b (xs,k)::R)∨(∃n m,iz 0 (xs.drop k)=.ok (n,m)∧v=.tuple #[uN n,.nilIface]∧g=Rd b (xs,k+m)::R)):=by
 refine Cn hr λs=>?_;refine sWk func85 ?_;refine go ?_;refine gk (k:=wl_ (Nat×Nat) (λy=>y.1≤9∧k+y.1≤xs.length∧y.2<2^(7*y.1)∧iz 0 (xs.drop k)=Px y.2 y.1 (iz y.1 (xs.drop (k+y.1)))) (λy=>[(0,pA b),(4,uN y.2),(5,iN y.1)]) (λ_=>Vr b [iN k,iN xs.length,s.val]::Row s eB xs::R) (λy=>xs.length-y.1) ((0,0)) (h0:=?_) (k:=?_))
 ·try dsimp only
  refine⟨Yl _,hk,ae,?_⟩;rw[X6];cases iz 0 (xs.drop k)with
  |ok p=>simp[Px]
  |error e=>rfl
 rintro⟨i,v⟩ ⟨hi,hki,hv,hI⟩
 try dsimp only at*
 refine go ?_;refine d1_ rfl (left a8) (gW (λh1=>?_) (λh1=>?_))
 ·have l:iz 0 (xs.drop k)=.error 2:=by rw[hI,Vn a8];rfl
  refine ws_ ?_;refine dX dN (gR ?_);exact⟨_,hsb,.inl ⟨2,l,rfl,rfl⟩⟩
 obtain⟨x,hx⟩:=gE xs (k+i);have hxb:=h x (Yj hx);have hd:xs.drop (k+i)=x::xs.drop (k+(i+1)):=eh hx;rw[hd,iz]at hI;refine go ?_;refine dX dN (as_ 0 (q:=mv) (k:=as_ 1 (q:=nck) (k:=as_ 2 (q:=fla) (k:=as_ 3 (q:=ldv) (k:=as_ 4 (q:=mv) (k:=as_ 5 (q:=nck) (k:=as_ 6 (q:=fla) (k:=as_ 7 (q:=fla) (k:=as_ 8 (q:=ldv) (k:=as_ 9 (q:=mv) (k:=as_ 10 (q:=iad) (k:=?_))))))))))));refine dS 11 rfl rfl aa rfl (ey (er rfl rfl (k+i) a8 a8)) ?_;refine as_ 12 (q:=lel) (k:=as_ 13 (q:=asn) (k:=az_ (k:=qn_ (ws_ (ws_ (wr_ (e_ mv (e_ ieq (sp_ mv (k:=λh2=>?_) (m:=λh2=>?_))))))))))
 ·refine gW (λh3=>?_) λh3=>?_
  ·rw[if_pos a8]at hI;refine ws_ ?_;refine dX dN (gR ?_);exact⟨_,hsb,.inl ⟨3,hI,rfl,rfl⟩⟩
  refine wk_ (qn_ (ws_ (wr_ ?_)));rw[if_neg a8]at hI;have a:(x &&& 127)*2^(7*i)<18446744073709551616:=Ch hi a8;have c:x &&& 127≤127:=by rw[lR];omega
  have hor:=N3 hv a;have d:=p7 hi;rw[lR]at hor;refine e_ mv (e_ mv ?_);refine e_ (qd 256 rfl rfl rfl rfl _ 127 rfl rfl ak ak) ?_;refine e_ ((ad)) ?_;refine e_ mv (e_ iml ?_);refine e_ (Bc (k:=.u64) 18446744073709551616 rfl rfl rfl rfl (x &&& 127) (7*i) rfl a8 a) ?_;refine e_ (ku 18446744073709551616 rfl rfl rfl rfl _ _ rfl rfl ak ak) ?_;refine gW (λh4=>?_) λh4=>?_
  ·rw[if_pos a8]at hI;refine go ?_;refine lN ((i+1,v |||(x &&& 127)*2^(7*i))) ?_
   try dsimp only
   have f:2^(7*(i+1))=128*2^(7*i):=by rw[R7,Uz];omega
   have hm:x%128*2^(7*i)≤127*2^(7*i):=Vu _ a8;refine⟨a8,a8,by rw[lR,hor];omega,?_⟩;rw[hI,lR,hor];cases iz (i+1) (xs.drop (k+(i+1)))with
   |error e=>rfl
   |ok p=>
    obtain⟨w,n⟩:=p;simp only[Px,Except.ok.injEq,Prod.mk.injEq];refine⟨?_,a8⟩;rw[f,Vy,V5 128 w,V3];omega
  rw[if_neg a8]at hI;refine wk_ (qn_ (ws_ (ws_ (wr_ (e_ mv (e_ ieq (sp_ mv (k:=λh5=>?_) (m:=λh5=>?_))))))))
  ·refine gW (λh6=>?_) λh6=>?_
   ·rw[if_pos a8]at hI;refine ws_ ?_;refine dX dN (gR ?_);exact⟨_,hsb,.inl ⟨3,hI,rfl,rfl⟩⟩
   refine wk_ (qn_ (ws_ (wr_ ?_)));rw[if_neg a8]at hI;refine go ?_;refine gR ?_;have hI':iz 0 (xs.drop k)=.ok (v |||(x &&& 127)*2^(7*i),i+1):=bF;exact⟨_,hsb,.inr ⟨_,_,hI',rfl,rfl⟩⟩
  refine of_ (of_ (e_ pkf (on_ (qn_ (fM (k:=wk_ (qn_ (ws_ (wr_ ?_)))))))));rw[if_neg a8]at hI;refine go ?_;refine gR ?_;have hI':iz 0 (xs.drop k)=.ok (v |||(x &&& 127)*2^(7*i),i+1):=bF;exact⟨_,hsb,.inr ⟨_,_,hI',rfl,rfl⟩⟩
 refine of_ (of_ (e_ pkf (on_ (qn_ (fM (k:=wk_ (qn_ (ws_ (wr_ ?_)))))))));rw[if_neg a8]at hI;have a:(x &&& 127)*2^(7*i)<18446744073709551616:=Ch hi a8;have c:x &&& 127≤127:=by rw[lR];omega
 have hor:=N3 hv a;have d:=p7 hi;rw[lR]at hor;refine e_ mv (e_ mv ?_);refine e_ (qd 256 rfl rfl rfl rfl _ 127 rfl rfl ak ak) ?_;refine e_ ((ad)) ?_;refine e_ mv (e_ iml ?_);refine e_ (Bc (k:=.u64) 18446744073709551616 rfl rfl rfl rfl (x &&& 127) (7*i) rfl a8 a) ?_;refine e_ (ku 18446744073709551616 rfl rfl rfl rfl _ _ rfl rfl ak ak) ?_;refine gW (λj=>?_) λj=>?_
 ·rw[if_pos a8]at hI;refine go ?_;refine lN ((i+1,v |||(x &&& 127)*2^(7*i))) ?_
  try dsimp only
  have f:2^(7*(i+1))=128*2^(7*i):=by rw[R7,Uz];omega
  have hm:x%128*2^(7*i)≤127*2^(7*i):=Vu _ a8;refine⟨a8,a8,by rw[lR,hor];omega,?_⟩;rw[hI,lR,hor];cases iz (i+1) (xs.drop (k+(i+1)))with
  |error e=>rfl
  |ok p=>
   obtain⟨w,n⟩:=p;simp only[Px,Except.ok.injEq,Prod.mk.injEq];refine⟨?_,a8⟩;rw[f,Vy,V5 128 w,V3];omega
 rw[if_neg a8]at hI;refine wk_ (qn_ (ws_ (ws_ (wr_ (e_ mv (e_ ieq (sp_ mv (k:=λh8=>?_) (m:=λh8=>?_))))))))
 ·refine gW (λh9=>?_) λh9=>?_
  ·rw[if_pos a8]at hI;refine ws_ ?_;refine dX dN (gR ?_);exact⟨_,hsb,.inl ⟨3,hI,rfl,rfl⟩⟩
  refine wk_ (qn_ (ws_ (wr_ ?_)));rw[if_neg a8]at hI;refine go ?_;refine gR ?_;have hI':iz 0 (xs.drop k)=.ok (v |||(x &&& 127)*2^(7*i),i+1):=bF;exact⟨_,hsb,.inr ⟨_,_,hI',rfl,rfl⟩⟩
 refine of_ (of_ (e_ pkf (on_ (qn_ (fM (k:=wk_ (qn_ (ws_ (wr_ ?_)))))))));rw[if_neg a8]at hI;refine go ?_;refine gR ?_;have hI':iz 0 (xs.drop k)=.ok (v |||(x &&& 127)*2^(7*i),i+1):=bF;exact⟨_,hsb,.inr ⟨_,_,hI',rfl,rfl⟩⟩
end Go.Sx
