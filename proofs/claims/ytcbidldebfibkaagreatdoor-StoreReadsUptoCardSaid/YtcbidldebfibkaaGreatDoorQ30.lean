import Derived.Test.YtcbidldebfibkaaGreatDoorQ29
set_option linter.unusedVariables false
set_option linter.unusedSimpArgs false
set_option linter.unusedSectionVars false
set_option linter.unnecessarySimpa false
set_option maxHeartbeats 0
namespace Go.Sx
open Go Go.Proofs
set_option maxRecDepth 100000
def mJ (R:List kJ) (k:List Nat) (d p:Nat):List kJ:=match R.getLast? with
 |some q=> if q.1=k then R.dropLast++ [(k,ev q.2 d p)]else R++ [(k,ev [] d p)]
 |none=> [(k,ev [] d p)]
def ly (ts:List Tri):List kJ:=ts.foldl (fun R t=> mJ R t.1 t.2.1 t.2.2) []
theorem rq (ts:List Tri) (t:Tri):ly (ts++ [t])=mJ (ly ts) t.1 t.2.1 t.2.2:=by simp[ly]
theorem w7 {R:List kJ}{k:List Nat}{l:List Po}(d p:Nat):mJ (R++ [(k,l)]) k d p=R++ [(k,ev l d p)]:=by simp[mJ]
theorem za {R:List kJ}{k:List Nat}{d p:Nat}(h:∀q,R.getLast? =some q→q.1≠k):mJ R k d p=R++ [(k,ev [] d p)]:=by
 unfold mJ
 split
 ·rename_i q hq;rw[if_neg (h q hq)]
 ·rename_i hn;rw[List.getLast?_eq_none_iff]at hn;subst hn;rfl
theorem ur:∀r:List Tri,(r.reverse.map (·.1)).Pairwise (fun a b=> ¬b<a)→o8 (ly r.reverse) r.reverse
 | [],_=> ⟨by simp[ly,o7],by simp[ly],by simp[ly]⟩
 |(k,d,p)::r,h=> by
  rw[List.reverse_cons]at h⊢
  rw[List.map_append,List.pairwise_append]at h
  obtain⟨h1,_,h2⟩:=h
  have ih:=ur r h1
  rw[rq]
  generalize r.reverse=ts at*
  generalize ly ts=R at*
  have hle:∀x∈ts.map (·.1),¬k<x:=fun x hx=> h2 x hx k (aj)
  rcases List.eq_nil_or_concat R with rfl|⟨R',q,hq⟩
  ·have hno:ts.map (·.1)= []:=by
     rcases hm:ts.map (·.1)with _|⟨a,l⟩
     ·first|rfl|exact hm
     ·have:=(ih.keys a).2 (by rw[hm];simp)
      simp at this
   obtain rfl:ts= []:=List.map_eq_nil_iff.1 hno
   exact⟨by simp[mJ,o7],by simp[mJ],fun e he=> by simp[mJ]at he;subst he;simp[ofK,jf]⟩
  ·obtain rfl:R=R'++ [q]:=by simpa using hq
   have hr:=ih.rise
   rw[List.map_append,o7,List.pairwise_append]at hr
   obtain⟨r1,_,r2⟩:=hr
   have hqm:q.1∈ts.map (·.1):=(ih.keys q.1).1 (aj)
   by_cases he:q.1=k
   ·obtain⟨qk,ql⟩:=q
    simp only at he hqm r2
    subst he
    rw[w7]
    refine⟨?_,fun x=> ?_,fun e hem=> ?_⟩
    ·rw[List.map_append,o7,List.pairwise_append];exact⟨r1,List.pairwise_singleton ..,r2⟩
    ·have h3:=ih.keys x
     simp only[List.map_append,List.map_cons,List.map_nil,List.mem_append,List.mem_singleton]at h3⊢
     rw[h3]
     exact⟨.inl,fun hh=> hh.elim id fun e=> e ▸ hqm⟩
    ·rcases List.mem_append.1 hem with hem|hem
     ·have hne:qk≠e.1:=fun hh=> mW e.1 (by
       have h4:=r2 e.1 (List.mem_map_of_mem hem) qk (aj)
       rwa [hh]at h4)
      rw[lP hne];exact ih.vals e (Yy _ hem)
     ·simp at hem;subst hem
      have h5:=ih.vals (qk,ql) (aj)
      simp only at h5⊢
      rw[kP,l3,←h5]
   ·have hlt:q.1<k:=ud (hle _ hqm) (fun e=> he e.symm)
    have hkn:k ∉ ts.map (·.1):=fun hm=> by
     have h3:=(ih.keys k).2 hm
     rw[List.map_append,List.mem_append]at h3
     rcases h3 with h3|h3
     ·exact mW k (yo (r2 k h3 q.1 (aj)) hlt)
     ·simp at h3;exact he h3.symm
    rw[za (fun z hz=> by simp at hz;subst hz;exact he)]
    refine⟨?_,fun x=> ?_,fun e hem=> ?_⟩
    ·rw[List.map_append,o7,List.pairwise_append]
     refine⟨ih.rise,List.pairwise_singleton ..,fun a ha b hb=> ?_⟩
     simp at hb;subst hb
     rw[List.map_append,List.mem_append]at ha
     rcases ha with ha|ha
     ·exact yo (r2 a ha q.1 (aj)) hlt
     ·simp at ha;subst ha;exact hlt
    ·have h3:=ih.keys x
     rw[List.map_append,List.mem_append,h3];simp
    ·rcases List.mem_append.1 hem with hem|hem
     ·have hne:k≠e.1:=fun hh=> hkn (hh ▸(ih.keys e.1).1 (List.mem_map_of_mem hem))
      rw[lP hne];exact ih.vals e hem
     ·simp at hem;subst hem
      simp only
      rw[kP,l3,qd hkn];all_goals rfl
theorem CH {ts:List Tri}(h:(ts.map (·.1)).Pairwise (fun a b=> ¬b<a)):o8 (ly ts) ts:=by
 have:=ur ts.reverse (by rwa [List.reverse_reverse])
 rwa [List.reverse_reverse]at this
def kE (x:jG):Tri:=(cF x.1,x.2)
theorem Ib {a b:Nat×Nat}(h:¬ltP a b) (h':¬ltP b a):a=b:=by
 unfold ltP at h h'
 exact Prod.ext (a8) (a8)
theorem xI {l out:List jG}(hp:out.Perm l) (hs:out.Pairwise leS) (hu:UpT (l.map kE)):ly (out.map kE)=dy (l.map kE):=by
 have h1:o8 (ly (out.map kE)) (out.map kE):=CH (by
  rw[List.map_map]
  exact List.pairwise_map.2 (hs.imp fun{a b} h h2=> h (.inl h2)))
 have h2:∀k,ofK (out.map kE) k=ofK (l.map kE) k:=fun k=> by
  have p1:(ofK (out.map kE) k).Perm (ofK (l.map kE) k):=((hp.map kE).filter _).map _
  refine List.Perm.eq_of_pairwise (le:=fun a b=> ¬ltP b a) (fun a b _ _ h3 h4=> Ib h4 h3) ?_ ?_ p1
  ·refine List.pairwise_map.2 ?_
   have h5:(out.map kE).Pairwise fun a b=> a.1=b.1→¬ltP b.2 a.2:=List.pairwise_map.2 (hs.imp fun{a b} h e h6=> h (.inr ⟨e.symm,h6⟩))
   refine(List.pairwise_filter.2 (h5.imp fun{a b} h ha hb=> ?_))
   have ea:=Yt ha
   have eb:=Yt hb
   exact h (ea.trans eb.symm)
  ·exact(hu k).imp fun{a b} h h3=> by unfold ltP at h h3;omega
 refine o8.eq ⟨h1.rise,fun k=> ?_,fun e he=> ?_⟩
 ·rw[h1.keys];exact((hp.map kE).map _).mem_iff
 ·rw[h1.vals e he,h2]
def zV (f:Nat) (t:Tri):Tri:=(f % 256::t.1,t.2)
theorem nZ (fs:List FV) (f:Nat):∀(ds:List Doc) (k:Nat),fN fs f k ds=((dP fs f k ds).map kE).map (zV f)
 | [],_=> rfl
 |d::ds,k=> by
  rw[fN,nZ fs f ds (k+1),dP,List.map_append,List.map_append]
  congr 1
  simp only[nB,kM,List.map_map]
  exact List.map_congr_left fun t _=> by simp only[Function.comp,kE,zV,l5]
theorem Bh (ts:List Tri) (f:Nat) (k:List Nat):ofK (ts.map (zV f)) (f % 256::k)=ofK ts k:=by
 induction ts with
 |nil=> rfl
 |cons t ts ih=>
  by_cases h:t.1=k
  ·simp[ofK,zV,h]at ih⊢;exact ih
  ·simp[ofK,zV,h]at ih⊢;exact ih
theorem DK (fs:List FV) (ds:List Doc) (f:Nat):UpT ((dP fs f 0 ds).map kE):=fun k=> by
 rw[←Bh _ f,←nZ]
 exact List.pairwise_map.2 ((uH fs f ds 0).filter _)
def vh (fs:List FV) (ds:List Doc) (f:Nat):List kJ:=dy ((dP fs f 0 ds).map kE)
def Eu (f:Nat) (r:kJ):kJ:=(f % 256::r.1,r.2)
theorem Ky (ts:List Tri):o8 (dy ts) ts:=⟨by rw[tF];exact jd _,fun k=> by rw[tF,jO],fun e he=> by
 obtain⟨k,_,rfl⟩:=List.mem_map.1 he;rfl⟩
theorem rU (fs:List FV) (ds:List Doc):∀n,n≤256→o8 ((List.range n).flatMap fun f=> (vh fs ds f).map (Eu f)) (lk fs ds n)
 | 0,_=> ⟨by simp[o7],by simp[lk],aj⟩
 |n+1,hn=> by
  have ih:=rU fs ds n (a8)
  have hF:=Ky ((dP fs n 0 ds).map kE)
  rw[List.range_succ,List.flatMap_append,oq,nZ]
  simp only[List.flatMap_cons,List.flatMap_nil,Ym]
  have hhead:∀x∈(lk fs ds n).map (·.1),∃f r,f<n∧x=f::r:=fun x hx=> by
   obtain⟨t,ht,rfl⟩:=List.mem_map.1 hx
   obtain⟨f,j,d,u,h1,_,_,rfl⟩:=tT ht
   exact⟨f,cF (dO u.text),h1,by simp only[l5];rw[Nat.mod_eq_of_lt (a8)]⟩
  have hk2:∀x,x∈((vh fs ds n).map (Eu n)).map (·.1)↔∃r,x=n % 256::r∧r∈((dP fs n 0 ds).map kE).map (·.1):=fun x=> by
   rw[List.map_map,List.mem_map]
   constructor
   ·rintro⟨e,he,rfl⟩;exact⟨e.1,rfl,(hF.keys e.1).1 (List.mem_map_of_mem he)⟩
   ·rintro⟨r,rfl,hr⟩
    obtain⟨e,he,rfl⟩:=List.mem_map.1 ((hF.keys r).2 hr)
    exact⟨e,he,rfl⟩
  have hmod:n % 256=n:=Nat.mod_eq_of_lt (a8)
  refine⟨?_,fun k=> ?_,fun e he=> ?_⟩
  ·rw[List.map_append,o7,List.pairwise_append]
   refine⟨ih.rise,?_,fun a ha b hb=> ?_⟩
   ·rw[List.map_map]
    refine List.pairwise_map.2 ?_
    have h3:(vh fs ds n).Pairwise fun a b=> a.1<b.1:=List.pairwise_map.1 hF.rise
    exact h3.imp fun{a b} h=> List.cons_lt_cons_iff.2 (.inr ⟨rfl,h⟩)
   ·obtain⟨f,r,hf,rfl⟩:=hhead a ((ih.keys a).1 ha)
    obtain⟨r',rfl,_⟩:=(hk2 b).1 hb
    rw[hmod]
    exact List.cons_lt_cons_iff.2 (.inl hf)
  ·rw[List.map_append,List.mem_append,ih.keys,hk2,List.map_append,List.mem_append]
   refine or_congr Iff.rfl ?_
   constructor
   ·rintro⟨r,rfl,hr⟩
    obtain⟨t,ht,rfl⟩:=List.mem_map.1 hr
    exact List.mem_map.2 ⟨zV n t,List.mem_map_of_mem ht,rfl⟩
   ·intro hx
    obtain⟨t,ht,rfl⟩:=List.mem_map.1 hx
    obtain⟨t0,ht0,rfl⟩:=List.mem_map.1 ht
    exact⟨t0.1,rfl,List.mem_map_of_mem ht0⟩
  ·rw[Bi]
   rcases List.mem_append.1 he with he|he
   ·have hm:=(ih.keys e.1).1 (List.mem_map_of_mem he)
    obtain⟨f,r,hf,hr⟩:=hhead e.1 hm
    rw[qd (ts:=((dP fs n 0 ds).map kE).map (zV n)) (fun hh=> by
     obtain⟨t,ht,h5⟩:=List.mem_map.1 hh
     obtain⟨t0,_,rfl⟩:=List.mem_map.1 ht
     rw[hr]at h5
     have:=(List.cons.inj h5).1
     omega),Ym]
    exact ih.vals e he
   ·obtain⟨r,hr,rfl⟩:=List.mem_map.1 he
    rw[qd (ts:=lk fs ds n) (fun hh=> by
     obtain⟨f,r',hf,h5⟩:=hhead _ hh
     have:=(List.cons.inj h5).1
     omega),Ye]
    show r.2=jf (ofK _ (n % 256::r.1))
    rw[Bh];exact hF.vals r hr
theorem DT (fs:List FV) (ds:List Doc) (h:fs.length≤256):(List.range fs.length).flatMap (fun f=> (vh fs ds f).map (Eu f))=dy (gA fs ds):=(rU fs ds fs.length h).eq
def eRw:Enc (Nat×ByteArray×SV):=⟨fun p=> [.int .i64 ((p.1:Nat):Int), .string p.2.1,p.2.2.val],3,true,fun _=> rfl,fun p v h=> by simp at h;rcases h with rfl|rfl|rfl <;> rfl,ag,fun h=> aR,ag⟩
instance {p:Nat×ByteArray×SV}:kK eRw p (.agg [.int .i64 ((p.1:Nat):Int), .string p.2.1,p.2.2.val].toArray):=⟨rfl⟩
instance {f:Nat}{s:ByteArray}:fH eRw (.agg [.int .i64 ((f:Nat):Int), .string s, .slice none 0 0].toArray) (f,s,SV.nil):=⟨rfl⟩
instance {d:Nat}:fH ePo (.agg [.int .i64 ((d:Nat):Int), .slice none 0 0].toArray) (d,SV.nil):=⟨rfl⟩
structure RG where
 f:Nat
 e:EG
def rwV (z:RG):Nat×ByteArray×SV:=(z.f,z.e.key,z.e.s)
def rgH (z:RG):cG:=egH z.e
def lJ (cs:List RG):List kJ:=cs.map fun z=> (cF z.e.key,z.e.l.map pgP)
def rI (cs:List RG):List (Nat×kJ):=cs.map fun z=> (z.f,cF z.e.key,z.e.l.map pgP)
def m8 (fs:List FV) (ds:List Doc) (n:Nat):List (Nat×kJ):=(List.range n).flatMap fun f=> (vh fs ds f).map fun r=> (f,r)
theorem Hw {l:List RG}{z:RG}{H:cG}:cK (Cl rgH (l++ [z])::H) (Row z.e.s ePo (z.e.l.map pgV)::Cl pgH z.e.l::Cl rgH l::H):=by
 have h:=km (f:=rgH) (l:=l++ [z]) (i:=l.length) (x:=z) (H:=H) (aj)
 rw[show(l++ [z]).take l.length=l from aj]at h
 exact h.trans (cK.keep (cK.keep (cK.keep (cK.drop cK.refl))))
theorem Hv {l:List RG}(z:RG) {H:cG}:cK (Row z.e.s ePo (z.e.l.map pgV)::Cl pgH z.e.l::Cl rgH l::H) (Cl rgH (l++ [z])::H):=lW (f:=rgH) z
theorem HW {l:List PG}{p:PG}{H:cG}:cK (Cl pgH (l++ [p])::H) (Row p.s eI (dg p.pos)::Cl pgH l::H):=by
 have h:=km (f:=pgH) (l:=l++ [p]) (i:=l.length) (x:=p) (H:=H) (aj)
 rw[show(l++ [p]).take l.length=l from aj]at h
 exact h.trans (cK.keep (cK.keep (cK.drop cK.refl)))
theorem DV {zs cs cp:List RG}{z:RG}{r:SV}{H:cG}(h:cs=cp++ [z]):cK (Cl rgH (zs++cs)::Row r eRw ((zs++cs).map rwV)::H) (Row z.e.s ePo (z.e.l.map pgV)::Cl pgH z.e.l::Cl rgH (zs++cp)::Row r eRw ((zs++(cp++ [z])).map rwV)::H):=by
 subst h;rw[←Yf];exact Hw
theorem EA {l lp:List PG}{g:PG}{r:SV}{H:cG}(h:l=lp++ [g]):cK (Cl pgH l::Row r ePo (l.map pgV)::H) (Row g.s eI (dg g.pos)::Cl pgH lp::Row r ePo ((lp++ [g]).map pgV)::H):=by
 subst h;exact HW
theorem w9 (cs:List RG) (z:RG):lJ (cs++ [z])=lJ cs++ [(cF z.e.key,z.e.l.map pgP)]:=by simp[lJ]
theorem Gn (cs:List RG):(lJ cs).length=cs.length:=by simp[lJ]
theorem Ht {cp:List RG}{z:RG}{q:ByteArray}{d p:Nat}(h:z.e.key=q):mJ (lJ (cp++ [z])) (cF q) d p=lJ cp++ [(cF q,ev (z.e.l.map pgP) d p)]:=by
 subst h;rw[w9,w7]
theorem B2 {cs:List RG}{q:ByteArray}{d p:Nat}(h:∀c,cs.getLast? =some c→c.e.key≠q):mJ (lJ cs) (cF q) d p=lJ cs++ [(cF q,ev [] d p)]:=
 za fun r hr he=> by
  rw[lJ,List.getLast?_map]at hr
  cases hc:cs.getLast? with
  |none=> rw[hc]at hr;cases hr
  |some c=> rw[hc]at hr;obtain rfl:=Option.some.inj hr;exact h c hc (iH.1 he)
theorem Km {lp:List PG}{g:PG}{d p:Nat}(h:g.d=d):ev ((lp++ [g]).map pgP) d p=lp.map pgP++ [(d,g.pos++ [p])]:=by simp[ev,pgP,h]
theorem Ez {l:List PG}{d p:Nat}(h:∀c,l.getLast? =some c→c.d≠d):ev (l.map pgP) d p=l.map pgP++ [(d, [p])]:=
 w8 fun r hr=> by
  rw[List.getLast?_map]at hr
  cases hc:l.getLast? with
  |none=> rw[hc]at hr;cases hr
  |some c=> rw[hc]at hr;obtain rfl:=Option.some.inj hr;exact h c hc
def yT (R:List kJ):Nat:=(R.map fun r=> r.2.length).sum
def x7 (R:List kJ):Nat:=(R.map fun r=> dx r.2).sum
theorem D9 (l:List Po) (d p:Nat):(ev l d p).length≤l.length+1∧dx (ev l d p)=dx l+1:=by
 rcases List.eq_nil_or_concat l with rfl|⟨a,q,hq⟩
 ·simp[ev,dx]
 ·obtain rfl:l=a++ [q]:=by simpa using hq
  by_cases he:q.1=d
  ·rw[show ev (a++ [q]) d p=a++ [(d,q.2++ [p])]from by simp[ev,he]]
   simp[dx];omega
  ·rw[show ev (a++ [q]) d p=a++ [q]++ [(d, [p])]from by simp[ev,he]]
   simp[dx];omega
theorem Gl (R:List kJ) (k:List Nat) (d p:Nat):(mJ R k d p).length≤R.length+1∧yT (mJ R k d p)≤yT R+1∧x7 (mJ R k d p)=x7 R+1:=by
 rcases List.eq_nil_or_concat R with rfl|⟨a,q,hq⟩
 ·simp[mJ,yT,x7,ev,dx]
 ·obtain rfl:R=a++ [q]:=by simpa using hq
  by_cases he:q.1=k
  ·rw[show mJ (a++ [q]) k d p=a++ [(k,ev q.2 d p)]from by simp[mJ,he]]
   have:=D9 q.2 d p
   simp[yT,x7];omega
  ·rw[show mJ (a++ [q]) k d p=a++ [q]++ [(k,ev [] d p)]from by simp[mJ,he]]
   simp[yT,x7,ev,dx];omega
theorem FC (ts:List Tri):(ly ts).length≤ts.length∧yT (ly ts)≤ts.length∧x7 (ly ts)=ts.length:=by
 have key:∀(r:List Tri),(ly r.reverse).length≤r.length∧yT (ly r.reverse)≤r.length∧x7 (ly r.reverse)=r.length:=by
  intro r
  induction r with
  |nil=> simp[ly,yT,x7]
  |cons t r ih=>
   rw[List.reverse_cons,rq,Yb]
   have:=Gl (ly r.reverse) t.1 t.2.1 t.2.2
   omega
 have:=key ts.reverse
 rwa [List.reverse_reverse,List.length_reverse]at this
theorem wK:∀{l:List Nat}{x:Nat},x∈l→x≤l.sum
 |y::l,x,h=> by
  rcases List.mem_cons.1 h with rfl|h
  ·simp
  ·have:=wK h;simp only[List.sum_cons];omega
theorem Hu {cs:List RG}{ts:List Tri}(h:lJ cs=ly ts):cs.length≤ts.length∧∀z∈cs,z.e.l.length≤ts.length∧∀g∈z.e.l,g.pos.length≤ts.length:=by
 obtain⟨h1,h2,h3⟩:=FC ts
 rw[←h]at h1 h2 h3
 rw[Gn]at h1
 refine⟨h1,fun z hz=> ⟨?_,fun g hg=> ?_⟩⟩
 ·have:=wK (l:=(lJ cs).map fun r=> r.2.length) (x:=z.e.l.length) (List.mem_map.2 ⟨_,List.mem_map_of_mem hz,aj⟩)
  exact Xi this h2
 ·have a1:=wK (l:=(lJ cs).map fun r=> dx r.2) (x:=dx (z.e.l.map pgP)) (List.mem_map.2 ⟨_,List.mem_map_of_mem hz,rfl⟩)
  have a2:=wK (l:=(z.e.l.map pgP).map fun p=> p.2.length) (x:=g.pos.length) (List.mem_map.2 ⟨_,List.mem_map_of_mem hg,rfl⟩)
  have a3:(z.e.l.map pgP).map (fun p=> p.2.length)=(z.e.l.map pgP).map fun p=> p.2.length:=rfl
  have a4:dx (z.e.l.map pgP)=((z.e.l.map pgP).map fun p=> p.2.length).sum:=rfl
  have a5:x7 (lJ cs)=((lJ cs).map fun r=> dx r.2).sum:=rfl
  omega
theorem Cj {fs:List FV}{ds:List Doc}{i:Nat}{zs cs:List RG}{out:List jG}(hz:rI zs=m8 fs ds i) (hc:∀c∈cs,c.f=i) (ha:lJ cs=ly (out.map kE)) (hp:out.Perm (dP fs i 0 ds)) (hs:out.Pairwise leS):rI (zs++cs)=m8 fs ds (i+1):=by
 have h1:rI cs=(lJ cs).map fun r=> (i,r):=by
  rw[rI,lJ,List.map_map]
  exact List.map_congr_left fun c hcm=> by simp only[Function.comp,hc c hcm]
 rw[show rI (zs++cs)=rI zs++rI cs from by simp[rI],hz,h1,ha,xI hp hs (DK fs ds i),m8,m8,List.range_succ,List.flatMap_append]
 simp[vh]
theorem B0 {α:Type}{l:List α}(h:l≠ []):∃a x,l=a++ [x]:=by
 rcases List.eq_nil_or_concat l with rfl|⟨a,x,hx⟩
 ·exact absurd rfl h
 ·exact⟨a,x,by simpa using hx⟩
theorem M5 {G:cM}{H:cG}{fv dv:SV}{fs:List FV}{l:List (Int×SV)}{ds:List Doc} [hf:Sl H fv eF fs] [hd:Sl H dv eD l] (hdi:fL H l ds) (hfl:fs.length≤16) (hn:ds.length≤100000) (hq:∀d∈ds,d.2.length≤100000000∧∀v∈d.2,v.2.size≤3000000) (hz:dsz ds≤30000000):
 SC G Tryz.prog 106 [.agg [fv.val].toArray,dv.val] H (fun v H'=> ∃(s:SV) (zs:List RG),v=s.val∧rI zs=m8 fs ds fs.length∧H'=Row s eRw (zs.map rwV)::Cl rgH zs::H):=by
 refine sWk Tryz.func106 Tryz.ntmps106 ?_
 refine gk (k:=bxx (k:=fun b2=>?_))
 refine go ?_
 refine s_ (cZ eRw rfl) (k:=?_)
 rintro _ _ ⟨s13,rfl,rfl⟩
 refine e_ asn (k:=on_ (qn_ (ws_ (ws_ (wr_ (?_))))))
 rw[show Row s13 eRw ([]:List (Nat×ByteArray×SV))=Row s13 eRw (([]:List RG).map rwV)from rfl]
 refine dE (eA (f:=rgH) cK.refl) ?_
 refine gk (k:=dn (Nat×SV×(List RG)) (fun y=> y.1≤fs.length∧rI y.2.2=m8 fs ds y.1∧y.2.2.length≤y.1*30000000) (fun y=> [(5,y.2.1.val),(17, .int .i64 ((y.1:Nat):Int))]) [(1,_),(2,_),(16,_)] (fun y=> [Row y.2.1 eRw (y.2.2.map rwV),Cl rgH y.2.2]) (Vr b2 [fv.val]::H) (fun y=> fs.length - y.1) ((0,s13, [])) (h0:=?_) (k:=?_))
 ·try dsimp only
  exact⟨Yl _,rfl,aj⟩
 rintro⟨i,u,zs⟩ ⟨hi,hab,hzl⟩
 try dsimp only[Yd,Ye]at*
 have hzm:(zs.map rwV).length=zs.length:=Yh ..
 have hsz:=ph fs i ds 0
 refine gk (k:=wi_ (k:=fun h1=>?_) (m:=fun h1=>?_))
 ·refine go ?_
  refine go ?_
  have hdi2:fL (Row u eRw (zs.map rwV)::Cl rgH zs::Vr b2 [fv.val]::H) l ds:=fL.less (hsb) hdi
  refine c3_ rfl (Kf hdi2 hfl (a8) hn hq hz) (k:=?_)
  rintro _ _ ⟨s25,rfl,rfl⟩
  refine dE (cK.star (F:= [Row s25 eSp (dP fs i 0 ds)]) cK.refl) ?_
  refine c1_ rfl (B8 (l:=dP fs i 0 ds) _ inferInstance (Nat.le_refl _) (a8)) (k:=?_)
  rintro _ _ ⟨s26,out,F1,rfl,hperm,hup,hslo,rfl⟩
  rw[show Row u eRw (zs.map rwV)=Row u eRw ((zs++ []).map rwV)from by rw[Ym],show Cl rgH zs=Cl rgH (zs++ [])from by rw[Ym]]
  have hol:=hperm.length_eq
  haveI hso0:Sl (dH F1::dH [Row s25 eSp (dP fs i 0 ds)]::Row u eRw ((zs++ []).map rwV)::Cl rgH (zs++ [])::Vr b2 [fv.val]::H) s26 eSp out:=fy (ie (ie cK.none)) hslo
  refine gk (k:=dn (Nat×SV×(List RG)) (fun y=> y.1≤out.length∧lJ y.2.2=ly ((out.take y.1).map kE)∧(∀c∈y.2.2,c.f=i)) (fun y=> [(5,y.2.1.val),(28, .int .i64 ((y.1:Nat):Int))]) [(1,_),(2,_),(6,_),(7,_),(16,_),(17,_),(26,_),(27,_)] (fun y=> [Row y.2.1 eRw ((zs++y.2.2).map rwV),Cl rgH (zs++y.2.2)]) (dH F1::dH [Row s25 eSp (dP fs i 0 ds)]::Vr b2 [fv.val]::H) (fun y=> out.length - y.1) ((0,u, [])) (h0:=?_) (k:=?_))
  ·try dsimp only
   exact⟨Yl _,rfl,fun c hc=> by simp at hc⟩
  rintro⟨j,r,cs⟩ ⟨hj,hac,hcf⟩
  try dsimp only[Yd,Ye]at*
  haveI hso:Sl (dH F1::dH [Row s25 eSp (dP fs i 0 ds)]::Vr b2 [fv.val]::H) s26 eSp out:=fy (ie (ie cK.none)) hslo
  have hcl:((zs++cs).map rwV).length=zs.length+cs.length:=aj
  have hcnt:=Hu hac
  have htl:((out.take j).map kE).length=j:=by rw[Yh,Yg];omega
  rw[htl]at hcnt
  obtain⟨hcn,hcz⟩:=hcnt
  refine gk (k:=wi_ (k:=fun h2=>?_) (m:=fun h2=>?_))
  ·obtain⟨sp,hsp⟩:∃x,out[j]? =some x:=⟨_,Yi (a8)⟩
   obtain⟨q,d,p⟩:=sp
   have htk:(out.take (j+1)).map kE=(out.take j).map kE++ [(cF q,d,p)]:=lQ hsp
   refine gk (k:=alc (k:=fun b9=>?_))
   refine sto (k:=on_ (qn_ (ws_ (wr_ (e_ mv (k:=e_ lnn (k:=e_ asn (k:=on_ (qn_ (od (SV×(List RG)×RG×Nat) (fun y=> y.2.2.2=zs.length+y.2.1.length+1∧y.2.2.1.f=i∧y.2.2.1.e.key=q∧(∀c∈y.2.1,c.f=i)∧mJ (lJ cs) (cF q) d p=lJ y.2.1++ [(cF q,ev (y.2.2.1.e.l.map pgP) d p)]∧y.2.1.length≤j∧y.2.2.1.e.l.length≤j∧(∀g∈y.2.2.1.e.l,g.pos.length≤j)) (fun y=> [(5,y.1.val),(10, .int .i64 ((y.2.2.2:Nat):Int))]) [5,10,34,35,36,37,38,39,40,41,42,43,44,45,46,47,48,49,50,51,52,53,54,55,56] (fun y=> [Row y.1 eRw ((zs++(y.2.1++ [y.2.2.1])).map rwV),Row y.2.2.1.e.s ePo (y.2.2.1.e.l.map pgV),Cl pgH y.2.2.1.e.l,Cl rgH (zs++y.2.1),Vr b9 [.string q, .int .i64 ((d:Nat):Int), .int .i64 ((p:Nat):Int)]]) ((dH F1::dH [Row s25 eSp (dP fs i 0 ds)]::Vr b2 [fv.val]::H)) ?_ ?_))))))))))
   ·refine ws_ (?_)
    refine cW cL (as_ 0 (q:=mv) (k:=as_ 1 (q:=mv) (k:=as_ 2 (q:=ieq) (k:=?_))))
    refine gp 3 rfl rfl (aa) rfl (du (mv)) (fun h3=> ?_) (fun h3=> ?_)
    ·replace h3:=nrm h3
     have hcs:cs= []:=List.eq_nil_of_length_eq_zero (a8)
     have hnew:∀c,cs.getLast? =some c→c.e.key≠q:=fun c hc=> by rw[hcs]at hc;cases hc
     refine ao_ 4 (k:=ao_ 5 (k:=ao_ 6 (k:=ao_ 7 (k:=ao_ 8 (k:=ao_ 9 (k:=ao_ 10 (k:=ao_ 11 (k:=ao_ 12 (k:=as_ 13 (q:=pkt) (k:=az_ (k:=qn_ (ift (k:=ws_ (?_))))))))))))))
     refine wr_ (e_ mv (k:=e_ mv (k:=e_ fla (k:=e_ ldv (k:=e_ (bld [(0,_),(1,_)]) (k:=dD eRw (k:=fun s53=>?_)))))))
     refine app (k:=fun s54=>?_)
     rw[show(zs++cs).map rwV++ [(i,q,SV.nil)]=(zs++(cs++ [(⟨i,⟨q,SV.nil, []⟩⟩:RG)])).map rwV from by simp[rwV]]
     refine dE (eA (f:=pgH) (cK.nilRow (e:=ePo) cK.refl)) ?_
     refine e_ asn (k:=on_ (qn_ (wr_ (e_ mv (k:=e_ iad (k:=e_ asn (k:=on_ (jnE ((s54,cs,⟨i,⟨q,SV.nil, []⟩⟩,((zs++cs).map rwV).length+1)) (q:=?_)))))))))
     dsimp only
     exact⟨a8,rfl,rfl,hcf,B2 hnew,a8,Yl _,fun g hg=> by simp at hg⟩
    replace h3:=nrm h3
    obtain⟨cp,z,hcs⟩:=B0 (l:=cs) (fun hh=> h3 (by have hc0:cs.length=0:=(congrArg List.length hh).trans rfl;omega))
    have hlast:((zs++cs).map rwV)[((zs++cs).map rwV).length - 1]? =some (z.f,z.e.key,z.e.s):=by
     rw[hcs,←Yf,List.map_append,Ya,Yu (aj),show((zs++cp).map rwV).length+(List.map rwV [z]).length - 1 - ((zs++cp).map rwV).length=0 from aj];all_goals rfl
    have hcsl:cs.length=cp.length+1:=by rw[hcs];simp
    refine at2 4 (q:=mv) (k:=at2 5 (q:=mv) (k:=at2 6 (q:=isb) (k:=at2 7 (q:=ixa) (k:=at2 8 (q:=fle) (k:=at2 9 (q:=lfl) (k:=at2 10 (q:=fla) (k:=at2 11 (q:=ldv) (k:=at2 12 (q:=zx) (k:=as_ 13 (q:=pkf) (k:=az_ (k:=gk (k:=wi_ (k:=fun h4=>?_) (m:=fun h4=>?_)))))))))))))
    ·have hnew:∀c,cs.getLast? =some c→c.e.key≠q:=fun c hc hk=> by
      rw[hcs]at hc;simp at hc;subst hc
      exact h4 (by rw[hk])
     refine ws_ (wr_ (e_ mv (k:=e_ mv (k:=e_ fla (k:=e_ ldv (k:=e_ (bld [(0,_),(1,_)]) (k:=dD eRw (k:=fun s53=>?_))))))))
     refine app (k:=fun s54=>?_)
     rw[show(zs++cs).map rwV++ [(i,q,SV.nil)]=(zs++(cs++ [(⟨i,⟨q,SV.nil, []⟩⟩:RG)])).map rwV from by simp[rwV]]
     refine dE (eA (f:=pgH) (cK.nilRow (e:=ePo) cK.refl)) ?_
     refine e_ asn (k:=on_ (qn_ (wr_ (e_ mv (k:=e_ iad (k:=e_ asn (k:=on_ (jnE ((s54,cs,⟨i,⟨q,SV.nil, []⟩⟩,((zs++cs).map rwV).length+1)) (q:=?_)))))))))
     dsimp only
     exact⟨a8,rfl,rfl,hcf,B2 hnew,a8,Yl _,fun g hg=> by simp at hg⟩
    have hzk:z.e.key=q:=iH.1 (by simpa using h4)
    refine wg (cK.trans (H':=Cl rgH (zs++cs)::Row r eRw ((zs++cs).map rwV)::Vr b9 [.string q, .int .i64 ((d:Nat):Int), .int .i64 ((p:Nat):Int)]::dH F1::dH [Row s25 eSp (dP fs i 0 ds)]::Vr b2 [fv.val]::H) (hsb) (DV hcs)) ?_
    refine gk (k:=jnE ((r,cp,z,((zs++cs).map rwV).length)) (q:=?_))
    dsimp only
    exact⟨a8,hcf z (by rw[hcs];simp),hzk,fun c hc=> hcf c (by rw[hcs];simp[hc]),by rw[hcs];exact Ht hzk,a8,(hcz z (by rw[hcs];simp)).1,(hcz z (by rw[hcs];simp)).2⟩
   rintro⟨r2,cp,z,n⟩ ⟨hn1,hzf,hzk,hcpf,hadd,hcpl,hzel,hzpl⟩
   try dsimp only[Yd,Ye]at*
   have hn0:((zs++(cp++ [z])).map rwV).length=n:=au
   have hn2:((zs++(cp++ [z])).map rwV)[n - 1]? =some (z.f,z.e.key,z.e.s):=by
    rw[←Yf,List.map_append,Yu (au),show n - 1 - ((zs++cp).map rwV).length=0 from au];all_goals rfl
   have hzm2:(z.e.l.map pgV).length=z.e.l.length:=Yh ..
   refine ws_ (wr_ (e_ mv (k:=e_ mv (k:=e_ isb (k:=e_ ixa (k:=e_ fle (k:=e_ lfl (k:=e_ asn (k:=on_ (qn_ (ws_ (wr_ (e_ mv (k:=?_))))))))))))))
   refine e_ lnn (k:=e_ asn (k:=on_ (qn_ (od (SV×(List PG)×PG×Nat) (fun y=> y.2.2.2=y.2.1.length+1∧y.2.2.1.d=d∧ev (z.e.l.map pgP) d p=y.2.1.map pgP++ [(d,y.2.2.1.pos++ [p])]∧y.2.1.length≤j∧y.2.2.1.pos.length≤j) (fun y=> [(11,y.1.val),(12, .int .i64 ((y.2.2.2:Nat):Int))]) [11,12,65,66,67,68,69,70,71,72,73,74,75,76,77,78,79,80,81,82,83,84,85] (fun y=> [Row y.1 ePo ((y.2.1++ [y.2.2.1]).map pgV),Row y.2.2.1.s eI (dg y.2.2.1.pos),Cl pgH y.2.1,Row r2 eRw ((zs++(cp++ [z])).map rwV),Cl rgH (zs++cp),Vr b9 [.string q, .int .i64 ((d:Nat):Int), .int .i64 ((p:Nat):Int)]]) ((dH F1::dH [Row s25 eSp (dP fs i 0 ds)]::Vr b2 [fv.val]::H)) ?_ ?_))))
   ·refine ws_ (?_)
    refine cW cL (as_ 0 (q:=mv) (k:=as_ 1 (q:=ieq) (k:=?_)))
    refine gp 2 rfl rfl (aa) rfl (du (mv)) (fun h5=> ?_) (fun h5=> ?_)
    ·replace h5:=nrm h5
     have hze:z.e.l= []:=List.eq_nil_of_length_eq_zero (a8)
     have hnewp:∀c,z.e.l.getLast? =some c→c.d≠d:=fun c hc=> by rw[hze]at hc;cases hc
     refine ao_ 3 (k:=ao_ 4 (k:=ao_ 5 (k:=ao_ 6 (k:=ao_ 7 (k:=ao_ 8 (k:=ao_ 9 (k:=ao_ 10 (k:=ao_ 11 (k:=as_ 12 (q:=pkt) (k:=az_ (k:=qn_ (ift (k:=ws_ (?_))))))))))))))
     refine wr_ (e_ mv (k:=e_ fla (k:=e_ ldv (k:=e_ (bld [(0,_)]) (k:=dD ePo (k:=fun s82=>?_))))))
     refine app (k:=fun s83=>?_)
     rw[show z.e.l.map pgV++ [(d,SV.nil)]=(z.e.l++ [(⟨d,SV.nil, []⟩:PG)]).map pgV from by simp[pgV]]
     refine dE (cK.nilRow (e:=eI) cK.refl) ?_
     refine e_ asn (k:=on_ (qn_ (wr_ (e_ mv (k:=e_ iad (k:=e_ asn (k:=on_ (jnE ((s83,z.e.l,⟨d,SV.nil, []⟩,(z.e.l.map pgV).length+1)) (q:=?_)))))))))
     dsimp only
     exact⟨a8,rfl,by rw[Ez hnewp];all_goals rfl,hzel,Yl _⟩
    replace h5:=nrm h5
    obtain⟨lp,g,hlg⟩:=B0 (l:=z.e.l) (fun hh=> h5 (by have hc0:z.e.l.length=0:=(congrArg List.length hh).trans rfl;omega))
    have hlastp:(z.e.l.map pgV)[(z.e.l.map pgV).length - 1]? =some (g.d,g.s):=by
     rw[hlg,List.map_append,Ya,Yu (aj),show(lp.map pgV).length+(List.map pgV [g]).length - 1 - (lp.map pgV).length=0 from aj];all_goals rfl
    have hlgl:z.e.l.length=lp.length+1:=by rw[hlg];simp
    refine at2 3 (q:=mv) (k:=at2 4 (q:=mv) (k:=at2 5 (q:=isb) (k:=at2 6 (q:=ixa) (k:=at2 7 (q:=fle) (k:=at2 8 (q:=lfl) (k:=at2 9 (q:=fla) (k:=at2 10 (q:=ldv) (k:=at2 11 (q:=ine) (k:=as_ 12 (q:=pkf) (k:=az_ (k:=gk (k:=wi_ (k:=fun h6=>?_) (m:=fun h6=>?_)))))))))))))
    ·have hnewp:∀c,z.e.l.getLast? =some c→c.d≠d:=fun c hc hk=> by
      rw[hlg]at hc;simp at hc;subst hc
      omega
     refine ws_ (wr_ (e_ mv (k:=e_ fla (k:=e_ ldv (k:=e_ (bld [(0,_)]) (k:=dD ePo (k:=fun s82=>?_)))))))
     refine app (k:=fun s83=>?_)
     rw[show z.e.l.map pgV++ [(d,SV.nil)]=(z.e.l++ [(⟨d,SV.nil, []⟩:PG)]).map pgV from by simp[pgV]]
     refine dE (cK.nilRow (e:=eI) cK.refl) ?_
     refine e_ asn (k:=on_ (qn_ (wr_ (e_ mv (k:=e_ iad (k:=e_ asn (k:=on_ (jnE ((s83,z.e.l,⟨d,SV.nil, []⟩,(z.e.l.map pgV).length+1)) (q:=?_)))))))))
     dsimp only
     exact⟨a8,rfl,by rw[Ez hnewp];all_goals rfl,hzel,Yl _⟩
    refine wg (cK.trans (H':=Cl pgH z.e.l::Row z.e.s ePo (z.e.l.map pgV)::Row r2 eRw ((zs++(cp++ [z])).map rwV)::Cl rgH (zs++cp)::Vr b9 [.string q, .int .i64 ((d:Nat):Int), .int .i64 ((p:Nat):Int)]::dH F1::dH [Row s25 eSp (dP fs i 0 ds)]::Vr b2 [fv.val]::H) (hsb) (EA hlg)) ?_
    refine gk (k:=jnE ((z.e.s,lp,g,(z.e.l.map pgV).length)) (q:=?_))
    dsimp only
    exact⟨a8,a8,by rw[hlg];exact Km (a8),a8,hzpl g (by rw[hlg];simp)⟩
   rintro⟨w,lp,g,nk⟩ ⟨hk1,hgd,hpo,hlpl,hgpl⟩
   try dsimp only[Yd,Ye]at*
   have hk0:((lp++ [g]).map pgV).length=nk:=au
   have hk2:((lp++ [g]).map pgV)[nk - 1]? =some (g.d,g.s):=by
    rw[List.map_append,Yu (au),show nk - 1 - (lp.map pgV).length=0 from au];all_goals rfl
   have hil:=dX g.pos
   refine ws_ (?_)
   refine di cL (fun i=> [11,12,15].contains i) (fun k H=> (k=6→Sl H w ePo ((lp++ [g]).map pgV))∧(k=7→Sl H w ePo ((lp++ [g]).map pgV))∧(k=8→Sl H w ePo ((lp++ [g]).map pgV))∧(k=10→dh H b9 [.string q, .int .i64 ((d:Nat):Int), .int .i64 ((p:Nat):Int)])∧(k=13→∃l2:List (Nat×SV),l2.length=nk∧Sl H w ePo l2)∧(k=14→Sl H w ePo ((lp++ [g]).map pgV))) (af_ 0 (q:=cE fun H hH=>mv) (k:=af_ 1 (q:=cE fun H hH=>mv) (k:=af_ 2 (q:=cE fun H hH=>isb) (k:=af_ 3 (q:=cE fun H hH=>mv) (k:=af_ 4 (q:=cE fun H hH=>mv) (k:=af_ 5 (q:=cE fun H hH=>isb) (k:=?_)))))))
   refine cH 6 rfl rfl (aa) rfl (cE fun H hH=>by have hN:=hH.1 rfl;exact ixa) (?_)
   refine cH 7 rfl rfl (aa) rfl (cE fun H hH=>by have hN:=hH.2.1 rfl;exact fle) (?_)
   refine cH 8 rfl rfl (aa) rfl (cE fun H hH=>by have hN:=hH.2.2.1 rfl;exact lfl) (?_)
   refine af_ 9 (q:=cE fun H hH=>fla) (k:=?_)
   refine cH 10 rfl rfl (aa) rfl (cE fun H hH=>by have hN:=hH.2.2.2.1 rfl;exact ldv) (?_)
   refine cQ 11 rfl (aa) rfl (fun k hk=> ⟨fun hi=> by subst hi;first|infer_instance|(refine⟨_,?_,inferInstance⟩;simp;omega),fun hi=> by subst hi;first|infer_instance|(refine⟨_,?_,inferInstance⟩;simp;omega),fun hi=> by subst hi;first|infer_instance|(refine⟨_,?_,inferInstance⟩;simp;omega),fun hi=> by subst hi;first|infer_instance|(refine⟨_,?_,inferInstance⟩;simp;omega),fun hi=> by subst hi;first|infer_instance|(refine⟨_,?_,inferInstance⟩;simp;omega),fun hi=> by subst hi;first|infer_instance|(refine⟨_,?_,inferInstance⟩;simp;omega)⟩) (dW eI rfl rfl) ?_
   rintro _ _ ⟨s97,rfl,rfl⟩
   refine cQ 12 rfl (aa) rfl (fun k hk=> ⟨fun hi=> by subst hi;first|infer_instance|(refine⟨_,?_,inferInstance⟩;simp;omega),fun hi=> by subst hi;first|infer_instance|(refine⟨_,?_,inferInstance⟩;simp;omega),fun hi=> by subst hi;first|infer_instance|(refine⟨_,?_,inferInstance⟩;simp;omega),fun hi=> absurd hk (ad),fun hi=> by subst hi;first|infer_instance|(refine⟨_,?_,inferInstance⟩;simp;omega),fun hi=> by subst hi;first|infer_instance|(refine⟨_,?_,inferInstance⟩;simp;omega)⟩) (ek rfl rfl rfl rfl (af) (af)) ?_
   rintro _ _ ⟨s98,rfl,rfl⟩
   rw[show dg g.pos++ [((p:Nat):Int)]=dg (g.pos++ [p])from by simp[dg]]
   refine cH 13 rfl rfl (aa) rfl (cE fun H hH=>by have hN:=hH.2.2.2.2.1 rfl;exact(by obtain⟨l2,hl2,hs2⟩:=hN;exact ixa (xs:=l2))) (?_)
   refine cH 14 rfl rfl (aa) rfl (cE fun H hH=>by have hN:=hH.2.2.2.2.2 rfl;exact fle) (?_)
   refine cQ 15 rfl (aa) rfl (fun k hk=> ⟨fun hi=> by subst hi;first|infer_instance|(refine⟨_,?_,inferInstance⟩;simp;omega),fun hi=> by subst hi;first|infer_instance|(refine⟨_,?_,inferInstance⟩;simp;omega),fun hi=> absurd hk (ad),fun hi=> absurd hk (ad),fun hi=> by subst hi;first|infer_instance|(refine⟨_,?_,inferInstance⟩;simp;omega),fun hi=> by subst hi;first|infer_instance|(refine⟨_,?_,inferInstance⟩;simp;omega)⟩) (nM (i:=nk - 1) (o:=1) rfl rfl rfl (g.d,g.s) hk2 (ag) (a:=(g.d,s98)) rfl) ?_
   rintro _ _ ⟨rfl,rfl⟩
   rw[show((lp++ [g]).map pgV).set (nk - 1) (g.d,s98)=(lp++ [(⟨d,s98,g.pos++ [p]⟩:PG)]).map pgV from by
    rw[List.map_append,List.set_append_right _ _ (au),show nk - 1 - (lp.map pgV).length=0 from au,hgd];simp[pgV]]
   refine db (aa) (fun k hk=> ⟨fun hi=> absurd hk (ad),fun hi=> absurd hk (ad),fun hi=> absurd hk (ad),fun hi=> absurd hk (ad),fun hi=> by subst hi;first|infer_instance|(refine⟨_,?_,inferInstance⟩;simp;omega),fun hi=> absurd hk (ad)⟩) (go ?_)
   refine s_ (nM (i:=n - 1) (o:=2) rfl rfl rfl (z.f,z.e.key,z.e.s) hn2 (ag) (a:=(z.f,z.e.key,w)) rfl) (k:=?_)
   rintro _ _ ⟨rfl,rfl⟩
   rw[show((zs++(cp++ [z])).map rwV).set (n - 1) (z.f,z.e.key,w)=(zs++(cp++ [(⟨i,⟨q,w,lp++ [⟨d,s98,g.pos++ [p]⟩]⟩⟩:RG)])).map rwV from by
    rw[←Yf,List.map_append,List.set_append_right _ _ (au),show n - 1 - ((zs++cp).map rwV).length=0 from au,hzf,hzk];simp[rwV]]
   refine dE (cK.trans (H':=Row s98 eI (dg (g.pos++ [p]))::Cl pgH lp::Row w ePo ((lp++ [(⟨d,s98,g.pos++ [p]⟩:PG)]).map pgV)::Cl rgH (zs++cp)::Row r2 eRw ((zs++(cp++ [(⟨i,⟨q,w,lp++ [⟨d,s98,g.pos++ [p]⟩]⟩⟩:RG)])).map rwV)::dH F1::dH [Row s25 eSp (dP fs i 0 ds)]::Vr b2 [fv.val]::H) (hsb) ((wE ⟨d,s98,g.pos++ [p]⟩).trans (cK.trans (H':=Row w ePo ((lp++ [(⟨d,s98,g.pos++ [p]⟩:PG)]).map pgV)::Cl pgH (lp++ [(⟨d,s98,g.pos++ [p]⟩:PG)])::Cl rgH (zs++cp)::Row r2 eRw ((zs++(cp++ [(⟨i,⟨q,w,lp++ [⟨d,s98,g.pos++ [p]⟩]⟩⟩:RG)])).map rwV)::dH F1::dH [Row s25 eSp (dP fs i 0 ds)]::Vr b2 [fv.val]::H) (hsb) (Hv ⟨i,⟨q,w,lp++ [⟨d,s98,g.pos++ [p]⟩]⟩⟩)))) ?_
   rw[Yf]
   refine go ?_
   refine ln_ ((j+1,r2,cp++ [⟨i,⟨q,w,lp++ [⟨d,s98,g.pos++ [p]⟩]⟩⟩])) (k:=?_)
   try dsimp only
   exact⟨a8,by rw[htk,rq,←hac,hadd,hpo,w9];simp[pgP],fun c hc=> by rcases List.mem_append.1 hc with hc|hc;exact hcpf c hc;simp at hc;rw[hc]⟩
  have hjj:j=out.length:=a8
  have hac2:lJ cs=ly (out.map kE):=by rw[hac,hjj,List.take_length]
  refine go ?_
  refine ln_ ((i+1,r,zs++cs)) (k:=?_)
  try dsimp only
  exact⟨a8,Cj hab hcf hac2 hperm hup,aS⟩
 have hii:i=fs.length:=a8
 rw[hii]at hab
 refine gk (k:=rt_ Tryz.results106 (k:=?_))
 exact⟨_,hsb,u,zs,rfl,hab,rfl⟩
end Go.Sx
