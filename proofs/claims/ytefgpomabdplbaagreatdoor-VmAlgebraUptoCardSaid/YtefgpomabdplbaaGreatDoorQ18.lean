import Derived.Test.YtefgpomabdplbaaGreatDoorQ17
set_option linter.unusedVariables false
set_option linter.unusedSimpArgs false
set_option linter.unusedSectionVars false
set_option linter.unnecessarySimpa false
set_option maxHeartbeats 0
namespace Go.Sx
open Go Go.Proofs
set_option maxRecDepth 100000
theorem rZ (n:Nat):(w32 n).length=4:=rfl
theorem za (l:List (Nat×List Nat)) (q:Nat×List Nat):dW (l++ [q])=dW l++iG q.1 q.2:=by simp[dW]
theorem vO:∀(l:List (Nat×List Nat)) (i:Nat),(dW (l.take i)).length≤(dW l).length
 | [],i=> an
 |q::l,0=> by simp[dW]
 |q::l,i+1=> by
  have:=vO l i
  simp only[dW,List.take_succ_cons,List.flatMap_cons,Ya]at this⊢
  omega
theorem Cz {l:List (Nat×List Nat)}{q:Nat×List Nat}(h:q∈l):q.2.length≤(dW l).length:=by
 induction l with
 |nil=> cases h
 |cons a l ih=>
  simp only[dW,List.flatMap_cons,Ya]at ih⊢
  rcases List.mem_cons.1 h with rfl|h
  ·simp only[iG,jZ,Ya];omega
  ·have:=ih h;omega
theorem OY {G:cK}{H:cG}{s:SV}{l:List (Nat×SV)}{bl:List (Nat×List Nat)} [hg:Glb G H] [Tab H 27 lg] [Tab H 25 jP] [Sl H s eK l] (kind:Nat) (hk0:kind≠0) (hk:kind<256) (hB:oH H l bl) (ht:∀q∈bl,0<q.1∧q.1<256∧∀x∈q.2,x<256) (hn:(dW bl).length≤1000000000) (hm:bl.length≤1000000000):SC G Tryz.prog 148 [.int .u8 ((kind:Nat):Int),s.val] H (fun v H'=> ∃s':SV,v= .tuple #[s'.val, .nilIface]∧H'=Row s' eB (kT kind bl)::H):=by
 obtain⟨hlen,hbod⟩:=hB
 have hul:=fq (n:=bl.length) (aa)
 have hql:(lT kind bl).length≤10000000000:=by simp only[lT,Ya,Yb,Yc];omega
 refine sWk Tryz.func148 Tryz.ntmps148 ?_
 refine gk (k:=wi_ (k:=fun h1=>?_) (m:=fun h1=>?_))
 ·exfalso;omega
 refine go ?_
 refine c0_ rfl (fM) (k:=?_)
 rintro _ _ ⟨b1,rfl,rfl⟩
 refine go ?_
 refine s_ (qI eB rfl rfl rfl rfl rfl) (k:=?_)
 rintro _ _ ⟨s1,rfl,rfl⟩
 refine s_ (Fi rfl (an)) (k:=?_)
 rintro _ _ ⟨rfl,rfl⟩
 refine d2_ rfl (zW (an) (an)) (k:=go ?_)
 refine d2_ rfl (ny kind (an)) (k:=on_ (qn_ (ws_ (wr_ (e_ mv (k:=e_ mv (k:=e_ lnn (k:=?_))))))))
 refine e_ (cU 18446744073709551616 rfl rfl rfl bl.length (aa) (aa)) (k:=?_)
 refine d2_ rfl (ek bl.length (aa) (an)) (k:=gk (k:=wl_ (Nat×List Nat) (fun y=> y.1≤bl.length∧y.2= [99,110,99,100]++ [kind]++uv bl.length++dW (bl.take y.1)) (fun y=> [(6, .pointer (some ⟨b1,0,none⟩)),(27,s.val),(28, .int .i64 ((bl.length:Nat):Int)),(29, .int .i64 ((y.1:Nat):Int))]) (fun y=> Wr b1 y.2::H) (fun y=> bl.length - y.1) ((0, [99,110,99,100]++ [kind]++uv bl.length)) (hs:=?_) (h0:=?_) (k:=?_)))
 ·rw[hlen]
  repeat (first|exact Sub.nil|refine Sub.cons rfl ?_)
 ·try dsimp only
  exact⟨Yl _,by simp[dW]⟩
 rintro⟨i,zs⟩ ⟨hi,hI⟩
 try dsimp only at*
 have hzl:zs.length≤10000000000:=by
  have:=vO bl i
  rw[hI];simp only[Ya,Yb,Yc];omega
 refine go ?_
 refine gk (k:=wi_ (k:=fun h2=>?_) (m:=fun h2=>?_))
 ·obtain⟨p,hp⟩:∃p,l[i]? =some p:=⟨_,Yi (aa)⟩
  obtain⟨q,hq⟩:∃q,bl[i]? =some q:=⟨_,Yi (aa)⟩
  obtain⟨hpq,hS⟩:=hbod i p q hp hq
  obtain⟨ht1,ht2,ht3⟩:=ht q (Yj hq)
  have hbl:=Cz (Yj hq)
  have hel:(iG q.1 q.2).length≤10000000000:=by
   have hu:=fq (n:=q.2.length) (aa)
   simp only[iG,jZ,Ya,Yb,Yc,rZ];omega
  refine gk (k:=alc (k:=fun b1=>?_))
  refine go ?_
  refine c2_ rfl (JY p.1 (aa) (aa) ht3 (aa)) (k:=?_)
  rintro _ _ ⟨s2,rfl,rfl⟩
  rw[hpq]
  refine e_ mv (k:=e_ exr (k:=e_ exr (k:=e_ asn (k:=e_ asn (k:=on_ (qn_ (ws_ (ws_ (wr_ (e_ mv (k:=?_)))))))))))
  refine e_ (cM rfl) (k:=?_)
  refine gk (k:=eg (k:=go ?_))
  refine d2_ rfl (zW (aa) (aa)) (k:=go ?_)
  refine ln_ ((i+1,zs++iG q.1 q.2)) (k:=?_)
  try dsimp only
  refine⟨aa,?_⟩
  rw[cP hq,za,hI];simp
 obtain rfl:i=bl.length:=aa
 rw[List.take_length]at hI
 have hI':zs=lT kind bl:=hI
 subst hI'
 refine go ?_
 refine c1_ rfl (iv (aa)) (k:=?_)
 rintro _ _ ⟨s2,rfl,rfl⟩
 refine d1_ rfl (Fs (aa) (wI hk fun q hq=> (ht q hq).2)) (k:=?_)
 refine d2_ rfl (Bs (tq (lT kind bl)) (aa)) (k:=go ?_)
 refine c1_ rfl (iv (xs:=kT kind bl) (by simp only[kT,Ya,rZ];omega)) (k:=?_)
 rintro _ _ ⟨s3,rfl,rfl⟩
 refine gk (k:=rt_ Tryz.results148 (k:=?_))
 exact⟨_,hsb,s3,rfl,rfl⟩
theorem sO {n:Nat}(r:List Nat) (h:n<4294967296):kg (w32 n++r)=n:=by
 simp only[w32,Yd,kg];omega
theorem sP {l:List Nat}(hl:4≤l.length) (hb:∀x∈l,x<256):w32 (kg l)=l.take 4:=by
 match l,hl with
 |a::b::c::d::r,_=>
  have ha:=hb a (an)
  have h2:=hb b (an)
  have hc:=hb c (an)
  have hd:=hb d (an)
  simp only[kg,w32,List.take_succ_cons,List.take_zero,List.cons.injEq,and_true]
  omega
theorem pV {v:Nat}(r:List Nat) (h:v<18446744073709551616):gP 0 (uv v++r)= .ok (v,(uv v).length):=
 BN v 0 r (aa) (aY) (fun h=> absurd h (Nat.lt_irrefl 0))
theorem ey {most v:Nat}(r:List Nat) (h:v<18446744073709551616) (hm:v≤most):fG most (uv v++r)= .ok (v,(uv v).length):=by
 rw[fG,pV r h];simp only[];rw[if_neg (aa)]
theorem xC {a b:List Nat}{n:Nat}(h:a.length≤n):(a++b).take n=a++b.take (n - a.length):=by
 rw[List.take_append,List.take_of_length_le h]
theorem um (tag:Nat) (body:List Nat):(jZ tag body).length=1+(uv body.length).length+body.length:=by
 simp only[jZ,Ya,List.length_singleton]
theorem ql (tag:Nat) (body:List Nat):(iG tag body).length=1+(uv body.length).length+body.length+4:=by
 rw[iG,Ya,um,rZ]
theorem Aj (tag:Nat) (r:List Nat):kx (tag::r)=if tag=0 then none else
 match gP 0 (((tag::r).take (min (tag::r).length 11)).drop 1)with
 | .error _=> none
 | .ok (n,m)=> if(tag::r).length - (1+m)<4∨(tag::r).length - (1+m) - 4<n then none else
  if kg ((tag::r).drop (1+m+n))=rR ((tag::r).take (1+m+n))then some (1+m,1+m+n)else none:=rfl
theorem Ai {tag:Nat}{body:List Nat}(r:List Nat) (h0:tag≠0) (ht:tag<256) (hb:∀x∈body,x<256) (hl:body.length<18446744073709551616):
 kx (iG tag body++r)=some (1+(uv body.length).length,1+(uv body.length).length+body.length):=by
 have h10:=fq hl
 have hlen:=ql tag body
 have hpl:=um tag body
 have hx:iG tag body++r=tag::(uv body.length++(body++(w32 (rR (jZ tag body))++r))):=by
  simp[iG,jZ]
 have hrd:gP 0 (((iG tag body++r).take (min (iG tag body++r).length 11)).drop 1)= .ok (body.length,(uv body.length).length):=by
  rw[hx]
  have:min (tag::(uv body.length++(body++(w32 (rR (jZ tag body))++r)))).length 11=(min (uv body.length++(body++(w32 (rR (jZ tag body))++r))).length 10)+1:=by
   rw[Yb];omega
  rw[this,List.take_succ_cons,List.drop_succ_cons,List.drop_zero,xC (aT)]
  exact pV _ hl
 rw[hx,Aj,if_neg h0,←hx,hrd]
 simp only[]
 rw[if_neg (aT)]
 have hd:(iG tag body++r).drop (1+(uv body.length).length+body.length)=w32 (rR (jZ tag body))++r:=by
  rw[iG,Yf,←hpl,List.drop_left]
 have ht:(iG tag body++r).take (1+(uv body.length).length+body.length)=jZ tag body:=by
  rw[iG,Yf,←hpl,List.take_left]
 rw[hd,ht,sO _ (I2 (wX (aH) hb)),if_pos rfl]
theorem Hj {tag:Nat}{body:List Nat}(r:List Nat):((iG tag body++r).take (1+(uv body.length).length+body.length)).drop (1+(uv body.length).length)=body:=by
 have hpl:=um tag body
 have ht:(iG tag body++r).take (1+(uv body.length).length+body.length)=jZ tag body:=by
  rw[iG,Yf,←hpl,List.take_left]
 rw[ht,jZ,show 1+(uv body.length).length=([tag]++uv body.length).length by simp[Nat.add_comm],List.drop_left]
theorem oL:∀(bl:List (Nat×List Nat)),(∀q∈bl,0<q.1∧q.1<256∧(∀x∈q.2,x<256)∧q.2.length<18446744073709551616)→j6 bl.length (dW bl)=some bl
 | [],_=> rfl
 |q::bl,h=> by
  obtain⟨h1,h2,h3,h4⟩:=h q (an)
  have ih:=oL bl fun p hp=> h p (by simp[hp])
  have he:dW (q::bl)=iG q.1 q.2++dW bl:=by simp[dW]
  rw[Yb,j6,he,Ai _ (aa) h2 h3 h4]
  simp only[]
  have hd:(iG q.1 q.2++dW bl).drop (1+(uv q.2.length).length+q.2.length+4)=dW bl:=by
   rw[←ql q.1 q.2,List.drop_left]
  rw[hd,ih,Hj]
  simp only[Option.some.injEq,List.cons.injEq,and_true]
  simp[iG,jZ]
theorem yG (kind:Nat) (bl:List (Nat×List Nat)):(lT kind bl).length=5+(uv bl.length).length+(dW bl).length:=by
 simp only[lT,Ya,Yb,Yc]
theorem tV (kind:Nat) (bl:List (Nat×List Nat)):(kT kind bl).length=5+(uv bl.length).length+(dW bl).length+4:=by
 rw[kT,Ya,yG,rZ]
theorem Ag {kind:Nat}{bl:List (Nat×List Nat)}(hk0:kind≠0) (hk:kind<256) (hn:bl.length<18446744073709551616) (h:∀q∈bl,0<q.1∧q.1<256∧(∀x∈q.2,x<256)∧q.2.length<18446744073709551616):jQ kind (kT kind bl)=some bl:=by
 have hl:=tV kind bl
 have hq:=yG kind bl
 have h10:=fq hn
 have h1:=oV bl.length
 have ht:(kT kind bl).take ((kT kind bl).length - 4)=lT kind bl:=by
  rw[hl,kT,show 5+(uv bl.length).length+(dW bl).length+4 - 4=(lT kind bl).length from aa,List.take_left]
 have hd:(kT kind bl).drop ((kT kind bl).length - 4)=w32 (tq (lT kind bl)):=by
  rw[hl,kT,show 5+(uv bl.length).length+(dW bl).length+4 - 4=(lT kind bl).length from aa,List.drop_left]
 have hlt:∀q∈bl,q.1<256∧∀x∈q.2,x<256:=fun q hq=> ⟨(h q hq).2.1,(h q hq).2.2.1⟩
 rw[jQ,ht,hd]
 have hw:=sO [] (Fq (wI hk hlt))
 rw[Ym]at hw
 have hlen10:¬(kT kind bl).length<10:=by
  rw[hl]
  rcases Nat.lt_or_ge ((uv bl.length).length+(dW bl).length) 1 with h0|h0
  ·omega
  ·omega
 rw[if_neg hlen10,if_pos hw]
 have ht4:(kT kind bl).take 4= [99,110,99,100]:=by simp[kT,lT]
 have h4:(kT kind bl)[4]? =some kind:=by simp[kT,lT]
 rw[ht4,h4,if_neg (by simp[hk0])]
 have hrs:(lT kind bl).drop 5=uv bl.length++dW bl:=by simp[lT]
 rw[hrs,xC (aT),pV _ hn]
 simp only[]
 rw[List.drop_left,oL bl h]
theorem Ak {l:List Nat}{f t:Nat}(hb:∀x∈l,x<256) (h:kx l=some (f,t)):f≤t∧t+4≤l.length∧l.headD 0≠0∧l.take (t+4)=iG (l.headD 0) ((l.take t).drop f):=by
 match l,hb,h with
 |tag::r,hb,h=>
  rw[kx]at h
  split at h
  ·cases h
  ·rename_i h0
   split at h
   ·cases h
   ·rename_i n m hr
    split at h
    ·cases h
    ·rename_i hle
     split at h
     ·rename_i hw
      simp only[Option.some.injEq,Prod.mk.injEq]at h
      obtain⟨rfl,rfl⟩:=h
      have hb2:∀x∈(((tag::r).take (min (tag::r).length 11)).drop 1),x<256:=fun y hy=> hb y (Yq (Yp hy))
      obtain⟨p1,p2,p3,p4,p5,p6⟩:=j5 _ 0 n m hb2 (aa) hr
      have hlen:(tag::r).length=r.length+1:=rfl
      rw[Yo,Yg]at p4
      have hm:r.take m=uv n:=by
       rw[hlen,show min (r.length+1) 11=min r.length 10+1 from aa,List.take_succ_cons,List.drop_succ_cons,List.drop_zero,List.take_take]at p5
       rw[←p5];congr 1;omega
      have hbod:((tag::r).take (1+m+n)).drop (1+m)=(r.drop m).take n:=by
       rw[show 1+m+n=m+n+1 from aa,List.take_succ_cons,show 1+m=m+1 from aa,List.drop_succ_cons,List.drop_take,show m+n - m=n from aa]
      have hbl:((r.drop m).take n).length=n:=by rw[Yg,Yo];omega
      have htk:(tag::r).take (1+m+n)=jZ tag ((r.drop m).take n):=by
       rw[show 1+m+n=m+n+1 from aa,List.take_succ_cons,List.take_add,hm,jZ,hbl];all_goals rfl
      refine⟨aa,aa,h0,?_⟩
      show(tag::r).take (1+m+n+4)=iG tag _
      rw[hbod,iG,List.take_add,htk]
      congr 1
      rw[←htk,←hw,sP (aK) (fun y hy=> hb y (Yp hy))]
     ·cases h
theorem rD:∀(n:Nat) (l:List Nat) (bl:List (Nat×List Nat)),(∀x∈l,x<256)→j6 n l=some bl→bl.length=n∧l=dW bl∧(∀q∈bl,q.1≠0)∧(∀q∈bl,q.1<256∧∀x∈q.2,x<256)
 | 0,l,bl,hb,h=> by
  rw[j6]at h
  split at h
  ·cases h
   exact⟨rfl,List.length_eq_zero_iff.1 (aH),fun q hq=> (by cases hq),fun q hq=> (by cases hq)⟩
  ·cases h
 |n+1,l,bl,hb,h=> by
  rw[j6]at h
  split at h
  ·cases h
  ·rename_i f t hr
   split at h
   ·cases h
   ·rename_i r hrr
    simp only[Option.some.injEq]at h
    subst h
    obtain⟨p1,p2,p3,p4⟩:=Ak hb hr
    obtain⟨q1,q2,q3,q4⟩:=rD n _ r (fun y hy=> hb y (Yp hy)) hrr
    refine⟨by simp[q1],?_,?_,?_⟩
    ·rw[show dW ((l.headD 0,(l.take t).drop f)::r)=iG (l.headD 0) ((l.take t).drop f)++dW r by simp[dW],←p4,←q2,List.take_append_drop]
    ·intro q hq
     rcases List.mem_cons.1 hq with rfl|hq
     ·exact p3
     ·exact q3 q hq
    ·intro q hq
     rcases List.mem_cons.1 hq with rfl|hq
     ·refine⟨?_,fun x hx=> hb x (Yq (Yp hx))⟩
      cases l with
      |nil=> simp at p2
      |cons a l=> exact hb a (an)
     ·exact q4 q hq
theorem Ah {kind:Nat}{l:List Nat}{bl:List (Nat×List Nat)}(hb:∀x∈l,x<256) (h:jQ kind l=some bl):l=kT kind bl∧(∀q∈bl,q.1≠0)∧(∀q∈bl,q.1<256∧∀x∈q.2,x<256):=by
 rw[jQ]at h
 split at h
 ·cases h
 ·rename_i hlen
  split at h
  ·rename_i hw
   split at h
   ·cases h
   ·rename_i hk
    split at h
    ·cases h
    ·rename_i n m hr
     have hb2:∀x∈(l.take (l.length - 4)).drop 5,x<256:=fun y hy=> hb y (Yq (Yp hy))
     obtain⟨p1,p2,p3,p4,p5,p6⟩:=j5 _ 0 n m (fun y hy=> hb2 y (Yq hy)) (aa) hr
     obtain⟨q1,q2,q3,q4⟩:=rD n _ bl (fun y hy=> hb2 y (Yp hy)) h
     refine⟨?_,q3,q4⟩
     have hm:((l.take (l.length - 4)).drop 5).take m=uv n:=by
      rw[List.take_take]at p5
      rw[←p5];congr 1
      rw[Yg]at p4;omega
     have hq:l.take (l.length - 4)=lT kind bl:=by
      have h5:(l.take (l.length - 4)).take 5= [99,110,99,100]++ [kind]:=by
       have e1:(l.take (l.length - 4)).take 5=l.take 5:=by rw[List.take_take];congr 1;omega
       have e2:l.take 4= [99,110,99,100]:=Classical.byContradiction fun e=> hk (.inr (.inl e))
       have e3:l[4]? =some kind:=Classical.byContradiction fun e=> hk (.inr (.inr e))
       rw[e1,cP e3,e2]
      rw[lT,←h5,q1,←hm,←q2,Yf,List.take_append_drop,List.take_append_drop]
     have e4:(l.drop (l.length - 4)).take 4=l.drop (l.length - 4):=List.take_of_length_le (aK)
     rw[kT,←hq,←hw,sP (aK) (fun y hy=> hb y (Yp hy)),e4,List.take_append_drop]
  ·cases h
theorem vl {most:Nat}{q:List Nat}(r:List Nat) (h:q.length≤most) (hm:most<18446744073709551616):jK most (uv q.length++q++r)= .ok (q,(uv q.length).length+q.length):=by
 rw[jK,Yf,ey _ (aa) h]
 simp only[]
 rw[if_neg (ai),List.drop_left,List.take_left]
theorem ML:∀(k:Fin 4) (a b c:Bool),let x:=k.val+(if a then 4 else 0)+(if b then 8 else 0)+(if c then 16 else 0);x &&& 3=k.val∧decide (((x &&& 4:Nat):Int)≠0)=a∧decide (((x &&& 8:Nat):Int)≠0)=b∧decide (((x &&& 16:Nat):Int)≠0)=c∧x≤31:=ag
theorem MI {f:FV}(h1:0≤f.kind) (h2:f.kind≤3):mkF (cF f.name) (kB f)=f∧kB f≤31:=by
 have h:=ML ⟨f.kind.toNat,aa⟩ f.fold f.stop f.stem
 obtain⟨name,kind,a,b,c⟩:=f
 simp only at h h1 h2
 obtain⟨q1,q2,q3,q4,q5⟩:=h
 simp only[mkF,kB,gO,FV.mk.injEq,true_and]
 exact⟨⟨by rw[q1];omega,q2,q3,q4⟩,q5⟩
theorem lK {x:Int}{l:List Int}:rise (x::l)=true↔(∀y,l.head? =some y→x<y)∧rise l=true:=by
 cases l with
 |nil=> simp[rise]
 |cons y r=> simp[rise]
theorem mu:∀(l:List Int) (last:Int),l.length≤(fP last l).length
 | [],_=> an
 |x::l,last=> by
  have:=mu l x
  have h:=oV (x - last - 1).toNat
  rw[fP,Ya,Yb];omega
theorem rC:∀(l:List Int) (last:Int) (r:List Nat), -1≤last→rise (last::l)=true→(∀x∈l,x≤9223372036854775807)→lM l.length last (fP last l++r)= .ok (l,(fP last l).length)
 | [],last,r,_,_,_=> rfl
 |x::l,last,r,hl,hr,hb=> by
  rw[lK]at hr
  obtain⟨h1,h2⟩:=hr
  have h3:=h1 x rfl
  have h4:=hb x (an)
  have ih:=rC l x r (aa) h2 fun y hy=> hb y (by simp[hy])
  rw[Yb,lM,fP,Yf,pV _ (aa)]
  simp only[]
  rw[if_neg (aa),List.drop_left,show last+((x - last - 1).toNat:Int)+1=x from aa,ih]
  simp only[Ya]
theorem yd {l:List Int}(h1:l9 l=false) (h2:rise l=true) (hb:∀x∈l,x≤9223372036854775807) (hl:l.length<18446744073709551616):
 eH (uv l.length++fP (-1) l).length (uv l.length++fP (-1) l)= .ok (l,(uv l.length++fP (-1) l).length):=by
 have hge:=mu l (-1)
 rw[eH,ey _ hl (aT)]
 simp only[]
 have h3:rise (-1::l)=true:=by
  rw[lK]
  refine⟨fun y hy=> ?_,h2⟩
  have:=(kf l).1 h1 0 y (by rw[List.head?_eq_getElem?]at hy;exact hy)
  omega
 have:=rC l (-1) [] (Int.le_refl _) h3 hb
 rw[Ym]at this
 rw[List.drop_left,this]
 simp only[Ya]
theorem oY:∀(n:Nat) (last:Int) (l:List Nat) (d:List Int) (m:Nat),(∀x∈l,x<256)→ -1≤last→lM n last l= .ok (d,m)→d.length=n∧m≤l.length∧l.take m=fP last d∧rise (last::d)=true∧(∀x∈d,0≤x∧x≤9223372036854775807)
 | 0,last,l,d,m,hb,hl,h=> by
  simp only[lM,Except.ok.injEq,Prod.mk.injEq]at h
  obtain⟨rfl,rfl⟩:=h
  exact⟨rfl,Yl _,by simp[fP],by simp[rise],fun x hx=> by cases hx⟩
 |n+1,last,l,d,m,hb,hl,h=> by
  rw[lM]at h
  split at h
  ·cases h
  ·rename_i v c hu
   split at h
   ·cases h
   ·rename_i hle
    split at h
    ·cases h
    ·rename_i r m' hr
     simp only[Except.ok.injEq,Prod.mk.injEq]at h
     obtain⟨rfl,rfl⟩:=h
     obtain⟨p1,p2,p3,p4,p5,p6⟩:=j5 _ 0 v c hb (aa) hu
     obtain⟨q1,q2,q3,q4,q5⟩:=oY n _ _ r m' (fun y hy=> hb y (Yp hy)) (aa) hr
     rw[Yo]at q2
     refine⟨by simp[q1],aa,?_,?_,?_⟩
     ·rw[fP,show(last+(v:Int)+1 - last - 1).toNat=v from aa,←p5,←q3,List.take_add]
     ·rw[lK]
      exact⟨fun y hy=> by simp at hy;omega,q4⟩
     ·intro x hx
      rcases List.mem_cons.1 hx with rfl|hx
      ·omega
      ·exact q5 x hx
theorem uL {most:Nat}{l:List Nat}{d:List Int}{m:Nat}(hb:∀x∈l,x<256) (h:eH most l= .ok (d,m)):m≤l.length∧l.take m=uv d.length++fP (-1) d∧l9 d=false∧rise d=true∧(∀x∈d,0≤x∧x≤9223372036854775807):=by
 rw[eH]at h
 split at h
 ·cases h
 ·rename_i n c hu
  obtain⟨u1,u2,u3,u4⟩:=jm hb hu
  split at h
  ·cases h
  ·rename_i r m' hr
   simp only[Except.ok.injEq,Prod.mk.injEq]at h
   obtain⟨rfl,rfl⟩:=h
   obtain⟨q1,q2,q3,q4,q5⟩:=oY n _ _ r m' (fun y hy=> hb y (Yp hy)) (Int.le_refl _) hr
   rw[Yo]at q2
   refine⟨aa,?_,(kf r).2 fun i x hx=> (q5 x (Yj hx)).1,(lK.1 q4).2,q5⟩
   rw[q1,←u3,←q3,List.take_add]
abbrev Pcs:=List (List Nat×List Int)
theorem Kg {fs:List FV}(h:fI fs=true):∀x∈wW fs,x<256:=by
 obtain⟨h1,h2⟩:=il h
 intro x hx
 rcases List.mem_append.1 hx with hx|hx
 ·exact ic _ x hx
 ·obtain⟨f,hf,hx⟩:=List.mem_flatMap.1 hx
  obtain⟨k1,k2,k3⟩:=h2 f hf
  simp only[iF,List.mem_append,List.mem_singleton]at hx
  rcases hx with(hx|hx)|rfl
  ·exact ic _ x hx
  ·exact k7 _ x hx
  ·have:=(MI (f:=f) (aa) k3).2;omega
theorem vN:∀(fs:List FV),(∀f∈fs,f.name.size≤32)→(o5 fs).length≤43*fs.length
 | [],_=> by simp[o5]
 |f::fs,h=> by
  have ih:=vN fs fun g hg=> h g (by simp[hg])
  have h1:=h f (an)
  have h2:=fq (n:=f.name.size) (aa)
  have h3:=cL f.name
  rw[show o5 (f::fs)=iF f++o5 fs by simp[o5],iF]
  simp only[Ya,Yb,Yc];omega
theorem z7 {fs:List FV}(h:fI fs=true):(wW fs).length≤1000:=by
 obtain⟨h1,h2⟩:=il h
 have h3:=vN fs fun f hf=> (h2 f hf).1
 have h4:=fq (n:=fs.length) (aa)
 rw[wW,Ya];omega
def eP:Enc (SV×SV):=⟨fun p=> [p.1.val,p.2.val],2,true,fun _=> rfl,fun p v h=> by simp at h;rcases h with rfl|rfl <;> rfl,ag,fun h=> aG,ag⟩
instance {p:SV×SV}:jG eP p (.agg [p.1.val,p.2.val].toArray):=⟨rfl⟩
def uD (H:cG) (l:List (SV×SV)) (ps:Pcs):Prop:=l.length=ps.length∧∀(i:Nat) (p:SV×SV) (q:List Nat×List Int),l[i]? =some p→ps[i]? =some q→Sl H p.1 eB q.1∧Sl H p.2 eI q.2
def uG (F H:cG) (l:List (Nat×SV)) (bl:List (Nat×List Nat)):Prop:=l.length=bl.length∧∀(i:Nat) (p:Nat×SV) (q:Nat×List Nat),l[i]? =some p→bl[i]? =some q→p.1=q.1∧(Sl F p.2 eB q.2∨Sl H p.2 eB q.2)
theorem uG.snoc {F F' H:cG}{l:List (Nat×SV)}{bl:List (Nat×List Nat)}(h:uG F H l bl) (x:Nat) (s:SV) (body:List Nat) (hF:∀(s:SV) (b:List Nat),Sl F s eB b→Sl F' s eB b) (hs:Sl F' s eB body∨Sl H s eB body):uG F' H (l++ [(x,s)]) (bl++ [(x,body)]):=by
 obtain⟨h1,h2⟩:=h
 refine⟨by simp[h1],fun i p q hp hq=> ?_⟩
 by_cases hi:i<l.length
 ·rw[Yv hi]at hp
  rw[Yv (aa)]at hq
  obtain⟨h3,h4⟩:=h2 i p q hp hq
  exact⟨h3,h4.imp (hF _ _) id⟩
 ·rw[Yu (aa)]at hp hq
  have hz:i - l.length=0:=by
   have:=(Yk.1 hp).1
   simp at this;omega
  rw[hz]at hp
  rw[←h1,hz]at hq
  simp at hp hq
  subst hp;subst hq
  exact⟨rfl,hs⟩
theorem uG.nil {F H:cG}:uG F H [] []:=⟨rfl,fun i p q h=> aG⟩
theorem uD.snoc {F F':cG}{l:List (SV×SV)}{ps:Pcs}(h:uD F l ps) (a b:SV) (x:List Nat) (y:List Int) (hF:∀(s:SV) (b:List Nat),Sl F s eB b→Sl F' s eB b) (hF2:∀(s:SV) (b:List Int),Sl F s eI b→Sl F' s eI b) (ha:Sl F' a eB x) (hb:Sl F' b eI y):uD F' (l++ [(a,b)]) (ps++ [(x,y)]):=by
 obtain⟨h1,h2⟩:=h
 refine⟨by simp[h1],fun i p q hp hq=> ?_⟩
 by_cases hi:i<l.length
 ·rw[Yv hi]at hp
  rw[Yv (aa)]at hq
  obtain⟨h3,h4⟩:=h2 i p q hp hq
  exact⟨hF _ _ h3,hF2 _ _ h4⟩
 ·rw[Yu (aa)]at hp hq
  have hz:i - l.length=0:=by
   have:=(Yk.1 hp).1
   simp at this;omega
  rw[hz]at hp
  rw[←h1,hz]at hq
  simp at hp hq
  subst hp;subst hq
  exact⟨ha,hb⟩
theorem uD.nil {F:cG}:uD F [] []:=⟨rfl,fun i p q h=> aG⟩
theorem oH.ext {F F':cG}{l:List (Nat×SV)}{bl:List (Nat×List Nat)}(h:oH F l bl) (hF:∀(s:SV) (b:List Nat),Sl F s eB b→Sl F' s eB b):oH F' l bl:=⟨h.1,fun i p q hp hq=> ⟨(h.2 i p q hp hq).1,hF _ _ (h.2 i p q hp hq).2⟩⟩
theorem qk {bl:List (Nat×List Nat)}{q:Nat×List Nat}(h:q∈bl):q.2.length≤(dW bl).length:=Cz h
section
variable {G:cK}{P:Program}{t:Tm}{H:cG}{dst:Option Tmp}{ty:TypeId}{pos:String}{after:Array Edge}{g:Option (Nat×Bool)}
end
theorem Hw {G:cK}{H:cG}{s:SV}{fs:List FV} [Sl H s eF fs] (hne:fs≠ []) (hn:fs.length≤1000000000):SC G Tryz.prog 74 [s.val] H (fun v H'=> ∃s':SV,v=s'.val∧H'=Row s' eF fs::H):=by
 refine sWk Tryz.func74 Tryz.ntmps74 ?_
 refine ws_ (wr_ (e_ asn (k:=on_ (qn_ (ws_ (ws_ (wr_ (e_ mv (k:=?_)))))))))
 refine e_ (oQ rfl hne) (k:=?_)
 refine gk (k:=ir_ (k:=fun h1=>?_) (m:=fun h1=>?_))
 ·cases h1
 refine go ?_
 refine s_ (iN eF rfl) (k:=?_)
 rintro _ _ ⟨s1,rfl,rfl⟩
 refine go ?_
 refine app (hlim:=by simp only[Yc];omega) (hlim2:=by simp only[Yc];omega) (k:=fun s2=>?_)
 refine gk (k:=rt_ Tryz.results74 (k:=?_))
 rw[Ye]
 exact⟨_,hsb,s2,rfl,rfl⟩
theorem Mr {G:cK}{H:cG}{q:ByteArray}{s:SV}{l:List ByteArray} [hs:Sl H s eS l] (hn:l.length≤1000000):SC G Tryz.prog 275 [s.val, .string q] H (fun v H'=> ∃k:Int,v= .int .i64 k∧(0≤k↔cF q∈l.map cF)∧H'=H):=by
 refine sWk Tryz.func275 Tryz.ntmps275 ?_
 refine go ?_
 refine dt (Nat) (fun y=> y≤l.length∧∀j e,j<y→l[j]? =some e→¬cF q=cF e) (fun y=> [(8, .int .i64 ((y:Nat):Int))]) [(0,_),(1,_),(7,_)] (fun y=> []) _ (fun y=> l.length - y) (0) (h0:=?_) (k:=?_)
 ·try dsimp only
  exact⟨Yl _,fun j e hj=> absurd hj (Nat.not_lt_zero _)⟩
 rintro i ⟨hi,hall⟩
 try dsimp only[Yd,Ye]at*
 refine gk (k:=wi_ (k:=fun h1=>?_) (m:=fun h1=>?_))
 ·obtain⟨e,he⟩:∃e,l[i]? =some e:=⟨_,Yi (aa)⟩
  refine wk_ (qn_ (ws_ (wb_ (ws_ (wr_ (e_ mv (k:=e_ asn (k:=on_ (qn_ (ws_ (wr_ (e_ mv (k:=e_ mv (k:=?_))))))))))))))
  refine e_ mv (k:=e_ ixa (k:=e_ lel (k:=e_ y5 (k:=on_ (qn_ (wi_ (k:=fun h2=>?_) (m:=fun h2=>?_)))))))
  ·have hm:cF q∈l.map cF:=by rw[h2];exact List.mem_map_of_mem (Yj he)
   refine gk (k:=rt_ Tryz.results275 (k:=?_))
   exact⟨_,hsb,_,rfl,⟨fun _=> hm,fun _=> aa⟩,rfl⟩
  have hno:=h2
  refine go ?_
  refine ln_ (i+1) (k:=?_)
  try dsimp only
  refine⟨aa,fun j e' hj hje=> ?_⟩
  by_cases e0:j=i
  ·subst e0;rw[he]at hje;cases hje;exact hno
  ·exact hall j e' (aa) hje
 refine gk (k:=rt_ Tryz.results275 (k:=?_))
 refine⟨_,hsb,_,rfl,⟨fun h=> by(exfalso;revert h;decide),fun h=> ?_⟩,rfl⟩
 obtain⟨e,he,hb⟩:=List.mem_map.1 h
 obtain⟨j,hj⟩:=List.mem_iff_getElem?.1 he
 have hjl:=(Yk.1 hj).1
 exact absurd hb.symm (hall j e (aa) hj)
theorem D5 {G:cK}{H:cG}{q:ByteArray}{s:SV}{l:List ByteArray} [hs:Sl H s eS l] (hn:l.length≤1000000):SC G Tryz.prog 274 [s.val, .string q] H (fun v H'=> v= .bool (decide (cF q∈l.map cF))∧H'=H):=by
 refine sWk Tryz.func274 Tryz.ntmps274 ?_
 refine go ?_
 refine c2_ rfl (Mr hn) (k:=?_)
 rintro _ _ ⟨k,rfl,hk,rfl⟩
 refine gk (k:=rt_ Tryz.results274 (k:=?_))
 exact⟨_,hsb,vb (by simp only[decide_eq_true_eq];exact hk),rfl⟩
def jH:List ByteArray:=jh.map dL
theorem ry:jH.map cF=jh:=ay
instance:Str Tryz.prog 337 [] []:=dZ Tryz.underlying337 inf337 (fun _=> a8) rfl
instance:Str Tryz.prog 341 [] []:=dZ Tryz.underlying341 inf341 (fun _=> a8) rfl
inductive Stp where
 |fold
 |stop (s:SV)
 |stem
def Mi:Stp→Value
 | .fold=> .iface 337 (.agg #[])
 | .stop s=> .iface 340 (.agg #[s.val])
 | .stem=> .iface 341 (.agg #[])
def pn:Enc Stp:=⟨fun p=> [Mi p],1,false,fun _=> rfl,fun p v h=> by simp at h;subst h;cases p <;> rfl,ag,fun _=> rfl,ag⟩
instance {x:Stp}:jG pn x (Mi x):=⟨rfl⟩
instance:fK pn (.iface 337 (.agg [].toArray)) .fold:=⟨rfl⟩
instance:fK pn (.iface 341 (.agg [].toArray)) .stem:=⟨rfl⟩
instance {s:SV}:fK pn (.iface 340 (.agg [s.val].toArray)) (.stop s):=⟨rfl⟩
def jI:Stp→List Nat→Option (List Nat)
 | .fold,w=> some (je w)
 | .stop _,w=> bif decide (w∈jh)then none else some w
 | .stem,w=> some (lF w)
def nD:List Stp→List Nat→Option (List Nat)
 | [],w=> some w
 |x::l,w=> match jI x w with
  |some u=> nD l u
  |none=> none
def rk (o:Option (List Nat)) (r:ByteArray) (b:Bool):Prop:=match o with
 |some u=> cF r=u∧b=true
 |none=> b=false
theorem Dx (q:ByteArray):∀x∈je (cF q),x<256:=by
 intro x hx
 rw[je]at hx
 obtain⟨i,_,rfl⟩:=List.mem_map.1 hx
 exact Dz (k7 q) i
theorem Oj {G:cK}{H:cG}{q:ByteArray}(hq:q.size≤5000000):SC G Tryz.prog 271 [.agg [].toArray, .string q] H (fun v H'=> ∃r b,v= .tuple #[.string r, .bool b]∧rk (some (je (cF q))) r b∧H'=H):=by
 refine sWk Tryz.func271 Tryz.ntmps271 ?_
 refine gk (k:=bxx (k:=fun b2=>?_))
 refine go ?_
 refine d1_ rfl (O3 (aa)) (k:=gk (k:=rt_ Tryz.results271 (k:=?_)))
 exact⟨_,hsb,_,_,rfl,⟨fa (Dx _),rfl⟩,rfl⟩
theorem Oi {G:cK}{H:cG}{q:ByteArray}(hq:q.size≤5000000):SC G Tryz.prog 276 [.agg [].toArray, .string q] H (fun v H'=> ∃r b,v= .tuple #[.string r, .bool b]∧rk (some (lF (cF q))) r b∧H'=H):=by
 refine sWk Tryz.func276 Tryz.ntmps276 ?_
 refine gk (k:=bxx (k:=fun b2=>?_))
 refine go ?_
 refine c1_ rfl (NT (aa)) (k:=?_)
 rintro _ _ ⟨r1,rfl,hr1,rfl⟩
 refine gk (k:=rt_ Tryz.results276 (k:=?_))
 exact⟨_,hsb,_,_,rfl,⟨hr1,rfl⟩,rfl⟩
theorem Oh {G:cK}{H:cG}{s:SV}{q:ByteArray} [hs:Sl H s eS jH]:SC G Tryz.prog 273 [.agg [s.val].toArray, .string q] H (fun v H'=> ∃r b,v= .tuple #[.string r, .bool b]∧rk (bif decide (cF q∈jh)then none else some (cF q)) r b∧H'=H):=by
 refine sWk Tryz.func273 Tryz.ntmps273 ?_
 refine gk (k:=bxx (k:=fun b2=>?_))
 refine go ?_
 refine d2_ rfl (D5 (ag)) (k:=gk (k:=rt_ Tryz.results273 (k:=?_)))
 refine⟨_,hsb,_,_,rfl,?_,rfl⟩
 rw[ry]
 cases h:decide (cF q∈jh) <;> simp[rk]
section
variable {G:cK}{N:Nat}{Q:Post}{t:Tm}{H:cG}{ops:Array Oper}{dst:Option Tmp}{ty:TypeId}{pos:String}{after:Array Edge}{g:Option (Nat×Bool)}{l:List Oper}
theorem Mj {recv y:Operand}{ats:Array TypeId}{x:Stp}{q:ByteArray}(hr:evo t recv=some (Mi x)) (hx:evo t y=some (.string q)) (hq:q.size≤5000000) (hs:∀s,x= .stop s→Sl H s eS jH):
 St G Tryz.prog ⟨dst, .call ⟨.invoke recv "concord/tokens.do", #[y],ats⟩,ty,pos,after,g⟩ t H (fun v H'=> ∃r b,v= .tuple #[.string r, .bool b]∧rk (jI x (cF q)) r b∧H'=H):=by
 have hxs:qj t [y]=some [.string q]:=by simp[qj,hx]
 cases x with
 |fold=> exact qH (xs:= [y]) (ws:= [.agg [].toArray, .string q]) (f:=271) hr hxs (fun w=> a8) (Oj hq)
 |stop s=>
  haveI:=hs s rfl
  exact qH (xs:= [y]) (ws:= [.agg [s.val].toArray, .string q]) (f:=273) hr hxs (fun w=> a8) Oh
 |stem=> exact qH (xs:= [y]) (ws:= [.agg [].toArray, .string q]) (f:=276) hr hxs (fun w=> a8) (Oi hq)
end
theorem SC.less {G:cK}{P:Program}{f:FuncId}{args:List Value}{K:Value→cG→Prop}{H H':cG}(hs:cJ H H') (h:SC G P f args H' K):SC G P f args H K:=h.heap fun w hw=> hs.sat hw
end Go.Sx
