import Derived.Test.YtefgpomabdplbaaGreatDoorQ27
set_option linter.unusedVariables false
set_option linter.unusedSimpArgs false
set_option linter.unusedSectionVars false
set_option linter.unnecessarySimpa false
set_option maxHeartbeats 0
namespace Go.Sx
open Go Go.Proofs
set_option maxRecDepth 100000
theorem BH:∀(ts:List Tri) (ks:List (List Nat)),ks.Nodup→(ks.map fun k=> (ofK ts k).length).sum≤ts.length
 | [],ks,_=> by
  have:∀ks:List (List Nat),(ks.map fun k=> (ofK [] k).length).sum=0:=by
   intro ks;induction ks with
   |nil=> rfl
   |cons k ks ih=>
      rw[List.map_cons,List.sum_cons,ih];all_goals rfl
  rw[this];exact Yl _
 |t::ts,ks,hn=> by
  have h1:=BH ts ks hn
  have h2:∀ks:List (List Nat),ks.Nodup→(ks.map fun k=> (ofK (t::ts) k).length).sum≤(ks.map fun k=> (ofK ts k).length).sum+(if t.1∈ks then 1 else 0):=by
   intro ks
   induction ks with
   |nil=> intro _;simp
   |cons k ks ih=>
    intro hn
    obtain⟨h3,h4⟩:=List.nodup_cons.1 hn
    have h5:=ih h4
    simp only[List.map_cons,List.sum_cons,List.mem_cons]
    by_cases he:t.1=k
    ·have h6:(ofK (t::ts) k).length=(ofK ts k).length+1:=by simp[ofK,he]
     rw[if_neg (by rw[he];exact h3)]at h5
     rw[h6,if_pos (.inl he)];omega
    ·have h6:(ofK (t::ts) k).length=(ofK ts k).length:=by simp[ofK,he]
     rw[h6]
     by_cases hm:t.1∈ks
     ·rw[if_pos hm]at h5;rw[if_pos (.inr hm)];omega
     ·rw[if_neg hm]at h5;rw[if_neg (by rintro(h|h);exact he h;exact hm h)];omega
  have h3:=h2 ks hn
  simp only[Yb]
  split at h3 <;> omega
theorem tx {ks:List (List Nat)}(h:uR ks):ks.Nodup:=List.Pairwise.imp (R:=fun a b=> a<b) (S:=fun a b=> a≠b) (fun{a b} hab e=> pb a (by rw[←e]at hab;exact hab)) h
theorem Jv {ts:List Tri}{k:List Nat}(h:k∈ts.map (·.1)):1≤(ofK ts k).length:=by
 obtain⟨t,ht,rfl⟩:=List.mem_map.1 h
 have:t.2∈ofK ts t.1:=List.mem_map.2 ⟨t,List.mem_filter.2 ⟨ht,Ys rfl⟩,rfl⟩
 exact List.length_pos_of_mem this
theorem Cm {ts:List Tri}(h:uF ts) {k:List Nat}(hk:k∈ts.map (·.1)):(dx (iD (ofK ts k))).length≤86*(ofK ts k).length:=by
 obtain⟨h1,h2,h3⟩:=lU h (k:=k)
 obtain⟨h4,h5⟩:=oo (ofK ts k)
 have h6:=h.few
 have h7:=vM h2 (aa)
 have h8:=Jv hk
 omega
theorem qN {ts:List Tri}(h:uF ts):(dB (dm ts)).length≤86*ts.length:=by
 have key:∀ks:List (List Nat),(∀k∈ks,k∈ts.map (·.1))→(dB (ks.map fun k=> (k,iD (ofK ts k)))).length≤86*(ks.map fun k=> (ofK ts k).length).sum:=by
  intro ks
  induction ks with
  |nil=> intro _;simp[dB]
  |cons k ks ih=>
   intro hk
   have h1:=ih fun x hx=> hk x (Xa _ hx)
   have h2:=Cm h (hk k (an))
   simp only[dB,List.map_cons,List.flatMap_cons,Ya,List.sum_cons]at h1⊢
   omega
 have h1:=key (lH (ts.map (·.1))) fun k hk=> (jk _ _).1 hk
 have h2:=BH ts _ (tx (iz (ts.map (·.1))))
 rw[dm]
 omega
theorem pS (ts:List Tri):(dm ts).length≤ts.length:=by
 have h:=lO (l:=lH (ts.map (·.1))) (m:=ts.map (·.1)) (tx (iz _)) fun x hx=> (jk _ _).1 hx
 rw[dm,Yh]
 simpa using h
theorem pT {ts:List Tri}{i:Nat}{p:uQ}(h:(dm ts)[i]? =some p):p.1∈ts.map (·.1)∧p.2=iD (ofK ts p.1)∧(lH (ts.map (·.1)))[i]? =some p.1:=by
 rw[dm,Xd]at h
 cases hk:(lH (ts.map (·.1)))[i]? with
 |none=> rw[hk]at h;cases h
 |some k=>
  rw[hk]at h
  obtain rfl:=Option.some.inj h
  exact⟨(jk _ _).1 (Yj hk),rfl,rfl⟩
theorem uj {rs:List uQ}{n i:Nat}{e:En}(h:(gb n rs)[i]? =some e):∃p,rs[i]? =some p∧e=⟨dL p.1,p.2.length,dg p.2,n+(dB (rs.take i)).length,(dx p.2).length⟩:=by
 have hi:=(Yk.1 h).1
 rw[gS]at hi
 have h2:=lX (n:=n) (Yi hi)
 rw[h]at h2
 exact⟨_,Yi hi,Option.some.inj h2⟩
theorem qS {ts:List Tri}(h:uF ts) {k:List Nat}(hk:k∈ts.map (·.1)):cF (dL k)=k∧1≤k.length∧k.length≤65:=by
 obtain⟨t,ht,rfl⟩:=List.mem_map.1 hk
 obtain⟨h1,h2,h3,_⟩:=h.small t ht
 exact⟨fa h3,h2,h1⟩
theorem Cj {ts:List Tri}(h:uF ts) (hf:ts.length≤2000000):rV (gb 0 (dm ts)):=by
 constructor
 ·intro e he
  obtain⟨i,hi⟩:=List.getElem?_of_mem he
  obtain⟨p,hp,rfl⟩:=uj hi
  obtain⟨h1,h2,_⟩:=pT hp
  obtain⟨_,h3,h4⟩:=qS h h1
  obtain⟨h5,h6⟩:=oo (ofK ts p.1)
  have h7:=wA ts p.1
  have h8:=Cm h h1
  have h9:=qN h
  have h10:=vn (dm ts) i
  rw[←h2]at h5 h6 h8
  have hsz:=jg p.1
  refine⟨bg,bg,bg,bg,bg,bg⟩
 ·intro i a b ha hb
  obtain⟨p,hp,rfl⟩:=uj ha
  obtain⟨q,hq,rfl⟩:=uj hb
  obtain⟨h1,_,h2⟩:=pT hp
  obtain⟨h3,_,h4⟩:=pT hq
  simp only[(qS h h1).1,(qS h h3).1]
  have h5:=List.pairwise_iff_getElem.1 (iz (ts.map (·.1)))
  have h6:=h5 i (i+1) (Yk.1 h2).1 (Yk.1 h4).1 (aa)
  rw[(Yk.1 h2).2,(Yk.1 h4).2]at h6
  exact h6
theorem Kf {prev:List Nat}{e:En}(h1:e.key.size≤65) (h:e.docs<1099511627776∧e.tot<1099511627776∧e.at_<1099511627776∧e.size<1099511627776):(lZ prev e).length≤101:=by
 have h0:=km prev (cF e.key)
 have hb:=cL e.key
 have h1:=ef (n:=dE prev (cF e.key)) (k:=6) (aa) (aa)
 have h2:=ef (n:=(cF e.key).length - dE prev (cF e.key)) (k:=6) (aa) (aa)
 have h3:=ef (n:=e.docs) (k:=6) h.1 (aa)
 have h4:=ef (n:=e.tot) (k:=6) h.2.1 (aa)
 have h5:=ef (n:=e.at_) (k:=6) h.2.2.1 (aa)
 have h6:=ef (n:=e.size) (k:=6) h.2.2.2 (aa)
 simp only[lZ,Ya,Yo];omega
theorem yV:∀{l:List En}{p:List Nat},(∀e∈l,e.key.size≤65)→jv l→(dI p l).length≤101*l.length
 | [],_,_,_=> by simp[dI]
 |e::r,p,hk,h=> by
  have h1:=Kf (prev:=p) (hk e (an)) (h e (an)).2
  have h2:=yV (p:=cF e.key) (fun x hx=> hk x (Xa _ hx)) (fun x hx=> h x (Xa _ hx))
  simp only[dI,Ya,Yb];omega
theorem zi {l:List En}(h:rV l) (hn:l.length<1099511627776):(fA l).length≤2000+110*l.length:=by
 have hs:=tH h
 have key:∀k,(dn l k).2.length≤1616*k:=by
  intro k
  induction k with
  |zero=> simp[dn]
  |succ k ih=>
   have h3:=yV (p:= []) (l:=eC l k) (fun e he=> (h.1 e (zw he)).2.1) (nL hs k)
   have h4:=o6 l k
   simp only[dn,Ya];omega
 have h1:=(mW hs (eQ l)).1
 have h2:=key (eQ l)
 have h3:=ef (n:=l.length) (k:=6) hn (aa)
 have h5:16*eQ l≤l.length+15:=cq
 simp only[fA,Ya];omega
theorem wF (fs:List FV) {ds:List Doc}(h:dsz ds≤30000000) (f:Nat):∀x∈dP fs ds f,x<1099511627776:=by
 intro x hx
 obtain⟨d,hd,rfl⟩:=List.mem_map.1 hx
 have:=qZ fs f d.2
 have:=sG hd
 omega
theorem lP {fs:List FV}{ds:List Doc}(h:dsz ds≤30000000) (hn:ds.length≤4096):∀n,(kY fs ds n).length≤20490*n
 | 0=> by simp[kY]
 |n+1=> by
  have h1:=lP (fs:=fs) h hn n
  have h2:=iR (wF fs h n) (by rw[dP,Yh];omega)
  rw[show(dP fs ds n).length=ds.length from by rw[dP,Yh]]at h2
  have e:kY fs ds (n+1)=kY fs ds n++dJ (dP fs ds n):=by simp[kY,List.range_succ]
  rw[e,Ya];omega
theorem Gh {fs:List FV}{ds:List Doc}(h:dsz ds≤30000000) (n:Nat):∀x∈kY fs ds n,x<256:=by
 intro x hx
 obtain⟨f,_,hx⟩:=List.mem_flatMap.1 hx
 exact oZ (wF fs h f) x hx
theorem yb:∀(l:List Int) (n:Int),∀x∈fP n l,x<256
 | [],_,x,hx=> by simp[fP]at hx
 |y::l,n,x,hx=> by
  rw[fP]at hx
  rcases List.mem_append.1 hx with hx|hx
  ·exact ic _ x hx
  ·exact yb l _ x hx
theorem jF.blocks {fs:List FV}{ds:List Doc}(h:jF fs ds):(∀q∈lJ fs ds,0<q.1∧q.1<256∧∀x∈q.2,x<256)∧(dW (lJ fs ds)).length≤1000000000∧rV (gb 0 (dm (eE fs ds)))∧(dB (dm (eE fs ds))).length≤2147483647:=by
 have hg:=h.goodT
 have ht:=h.toks
 have hz:=h.size
 have hn:=h.few
 have hfl:=h.flen
 have hE:=Cj hg ht
 have h1:=qN hg
 have h2:=pS (eE fs ds)
 have h3:=zi hE (by rw[gS];omega)
 rw[gS]at h3
 have h4:=z7 h.chk
 have h5:=lP (fs:=fs) hz hn fs.length
 have h6:=iM (fs:=fs) (ds:=ds) (aa) h.q
 have h7:=ob (l:=ds.map (·.1)) h.pos (fun x hx=> bC)
 rw[Yh]at h7
 have h8:=ef (n:=ds.length) (k:=6) (aa) (aa)
 have hI:(mH ds).length≤10*4096+6:=by rw[mH,Ya];omega
 refine⟨?_,?_,hE,aa⟩
 ·intro q hq
  simp only[lJ,List.mem_cons,List.not_mem_nil,or_false]at hq
  rcases hq with rfl|rfl|rfl|rfl|rfl|rfl
  ·exact⟨an,an,Kg h.chk⟩
  ·refine⟨an,an,fun x hx=> ?_⟩
   rcases List.mem_append.1 hx with hx|hx
   ·exact ic _ x hx
   ·exact yb _ _ x hx
  ·exact⟨an,an,Gh hz _⟩
  ·exact⟨an,an,zj _⟩
  ·refine⟨an,an,fun x hx=> ?_⟩
   obtain⟨p,hp,hx⟩:=List.mem_flatMap.1 hx
   obtain⟨i,hi⟩:=List.getElem?_of_mem hp
   obtain⟨_,h9,_⟩:=pT hi
   rw[h9]at hx
   exact z8 (lU hg).2.1 x hx
  ·refine⟨an,an,fun x hx=> ?_⟩
   obtain⟨d,_,hx⟩:=List.mem_flatMap.1 hx
   rcases List.mem_append.1 hx with hx|hx
   ·exact ic _ x hx
   ·obtain⟨v,_,hx⟩:=List.mem_flatMap.1 hx
    rcases List.mem_append.1 hx with hx|hx
    ·exact ic _ x hx
    ·rcases List.mem_append.1 hx with hx|hx
     ·exact ic _ x hx
     ·exact k7 _ x hx
 ·have hu:∀n,n<1099511627776→(uv n).length≤6:=fun n hn=> ef hn (aa)
  simp only[dW,lJ,List.flatMap_cons,List.flatMap_nil,Ya,Yc,ql]
  have u1:=hu (wW fs).length (aa)
  have u2:=hu (mH ds).length (aa)
  have u3:=hu (kY fs ds fs.length).length (aa)
  have u4:=hu (fA (gb 0 (dm (eE fs ds)))).length (aa)
  have u5:=hu (dB (dm (eE fs ds))).length (aa)
  have u6:=hu (ep fs ds).length (aa)
  omega
def lz:Prop:=∀(G:cK) (H R:cG) (s:SV) (ss:List ByteArray),na H s eS ss R→ss.length≤1000000000→SC G Tryz.prog 173 [s.val] H (fun v H'=> v= .tuple #[]∧∃ss':List ByteArray,ss'.Perm ss∧(ss'.map cF).Pairwise (fun a b=> ¬b<a)∧H'=Row s eS ss'::R)
theorem rA:∀{l:List (List Nat)},l.Nodup→l.Pairwise (fun a b=> ¬b<a)→uR l
 | [],_,_=> List.Pairwise.nil
 |a::l,hn,h=> by
  obtain⟨h1,h2⟩:=List.nodup_cons.1 hn
  obtain⟨h3,h4⟩:=List.pairwise_cons.1 h
  refine List.pairwise_cons.2 ⟨fun b hb=> ?_,rA h2 h4⟩
  by_cases hlt:a<b
  ·exact hlt
  ·exact absurd (wD hlt (fun e=> h1 (e ▸ hb))) (h3 b hb)
theorem Ob {H R:cG}{es:List EG}{i:Nat}{e:EG}(hr:nd H (Cl egH es) R) (he:es[i]? =some e):Sl H e.s ePo (e.l.map pgV):=
 dD (fm hr (wY he)) inferInstance
theorem BR {H R:cG}{es:List EG}{i:Nat}{e:EG}(hr:nd H (Cl egH es) R) (he:es[i]? =some e):qz H (e.l.map pgV) (e.l.map pgP):=by
 refine⟨an,fun j p q hp hq=> ?_⟩
 rw[Xd]at hp hq
 cases hj:e.l[j]? with
 |none=> rw[hj]at hp;cases hp
 |some x=>
  rw[hj]at hp hq
  obtain rfl:=Option.some.inj hp
  obtain rfl:=Option.some.inj hq
  exact⟨rfl,show Sl H x.s eI (cV x.pos)from dD (fm hr ((wY he).trans (cJ.drop (pX hj)))) inferInstance⟩
theorem LV {G:cK}{H R:cG}{g r:Nat}{v1 v2 v3:Value}{ts:List Tri} [hg0:Glb G R] [hv:cQ R g [v1,v2,v3, .map (some r)]] [hr:Rem H gY r ts R] (hS:lz) (hgd:uF ts) (hok:rV (gb 0 (dm ts))) (hpl:(dB (dm ts)).length≤2147483647):SC G Tryz.prog 143 [.pointer (some ⟨g,0,none⟩)] H (fun v H'=> ∃a b:SV,v= .tuple #[a.val,b.val, .nilIface]∧H'=Row a eB (fA (gb 0 (dm ts)))::Row b eB (dB (dm ts))::R):=by
 have hfew:=hgd.few
 refine sWk Tryz.func143 Tryz.ntmps143 ?_
 refine ws_ (wr_ (e_ asn (k:=e_ asn (k:=e_ asn (k:=on_ (qn_ (ws_ (wr_ (?_)))))))))
 refine BU hr fun es htk=> ?_
 have hnk:=qR htk
 have hkl:(kvs es).length≤ts.length:=by
  have h1:=lO (m:=ts.map (·.1)) htk.nodup fun x hx=> (htk.keys x).1 hx
  simpa [ma,kvs] using h1
 refine e_ mv (k:=e_ nck (k:=e_ fla (k:=e_ ldv (k:=?_))))
 refine e_ (Kb rfl) (k:=?_)
 refine s_ (eX eS ⟨#[]⟩ rfl rfl 0 (kvs es).length rfl rfl rfl (aa) (aa) (aa)) (k:=?_)
 rintro _ _ ⟨s24,rfl,hs24n,hs24c,rfl⟩
 refine go ?_
 refine s_ (Ff rfl) (k:=?_)
 rintro _ _ ⟨it,rfl,rfl⟩
 refine gk (k:=dt ((List ByteArray)×SV) (fun y=> y.1.Nodup∧∀k∈y.1,k∈(kvs es).map (·.1)) (fun y=> [(5,y.2.val)]) [(0,_),(29,_)] (fun y=> [Rg (r,it) (kvs es,y.1),Row y.2 eS y.1]) _ (fun y=> (kvs es).length - y.1.length) (([],s24)) (h0:=?_) (k:=?_))
 ·try dsimp only
  exact⟨List.nodup_nil,fun k hk=> by simp at hk⟩
 rintro⟨done,s⟩ ⟨hdn,hdk⟩
 try dsimp only[Yd,Ye]at*
 refine go ?_
 refine s_ (IW (r:=r) rfl) (k:=?_)
 rintro _ _ (⟨i,k,v,hkv,hkd,rfl,rfl⟩|⟨hall,rfl,rfl⟩)
 ·have hdn2:(done++ [k]).Nodup:=List.nodup_append.2 ⟨hdn,an,fun a ha b hb=> by simp at hb;subst hb;rintro rfl;exact hkd ha⟩
  have hdk2:∀x∈done++ [k],x∈(kvs es).map (·.1):=fun x hx=> by
   rcases List.mem_append.1 hx with hx|hx
   ·exact hdk x hx
   ·simp at hx;subst hx;exact List.mem_map.2 ⟨_,Yj hkv,rfl⟩
  have hdl:=lO hdn2 hdk2
  rw[Ya,Yh,List.length_singleton]at hdl
  refine gk (k:=ift (k:=go ?_))
  refine e_ (Hc (q:=(kvs es,done++ [k])) (r:=r) (it:=it) rfl rfl hkv) (k:=?_)
  refine gk (k:=gz eS (k:=fun s36=>?_))
  refine app (k:=fun s37=>?_)
  refine go ?_
  refine ln_ ((done++ [k],s37)) (h2:=?_) (k:=?_)
  ·try dsimp only
   rw[Ya,List.length_singleton];omega
  try dsimp only
  exact⟨hdn2,hdk2⟩
 have hdl:=lO hdn hdk
 rw[Yh]at hdl
 have hpm:done.Perm ((kvs es).map (·.1)):=(List.perm_ext_iff_of_nodup hdn hnk).2 fun x=> ⟨hdk x,fun hx=> by obtain⟨p,hp,rfl⟩:=List.mem_map.1 hx;exact hall p hp⟩
 refine gk (k:=eg (k:=go ?_))
 refine du (KI (r:=r) (it:=it) inferInstance cJ.refl) ?_
 refine go ?_
 refine c1_ rfl (hS G _ _ s done inferInstance (aa)) (k:=?_)
 rintro _ _ ⟨rfl,ks,hpk,hsort,rfl⟩
 have hkp:=hpk.trans hpm
 have hksl:ks.length=(kvs es).length:=by rw[hkp.length_eq,Yh]
 have hkr:ks.map cF=lH (ts.map (·.1)):=by
  refine tz (rA ?_ hsort) (iz _) fun x=> ?_
  ·have h1:=(hkp.map cF).nodup_iff.2 (by have h2:=htk.nodup;rw[oB]at h2;simpa [Function.comp_def] using h2)
   exact h1
  ·rw[jk,←htk.keys,oB,(hkp.map cF).mem_iff];simp[Function.comp_def]
 have hrl:(dm ts).length=ks.length:=by rw[dm,Yh,←hkr,Yh]
 have hrg:∀{i:Nat}{q:ByteArray},ks[i]? =some q→(dm ts)[i]? =some (cF q,iD (ofK ts (cF q))):=fun{i q} hq=> by rw[dm,Xd,←hkr,Xd,hq];all_goals rfl
 have hel:=gS (dm ts) 0
 refine go ?_
 refine c0_ rfl (fM) (k:=?_)
 rintro _ _ ⟨bw,rfl,rfl⟩
 refine go ?_
 refine s_ (eX eEn ⟨⟨#[]⟩,0,0,0,0⟩ rfl rfl 0 ks.length rfl rfl rfl (aa) (aa) (aa)) (k:=?_)
 rintro _ _ ⟨s43,rfl,hs43n,hs43c,rfl⟩
 refine e_ asn (k:=on_ (qn_ (ws_ (ws_ (wr_ (?_))))))
 rw[show Row s43 eEn (List.replicate 0 (⟨⟨#[]⟩,0,0,0,0⟩:En))=Row s43 eEn ((gb 0 (dm ts)).take 0)from rfl,show Wr bw []=Wr bw (dB ((dm ts).take 0))from rfl]
 refine gk (k:=dt (Nat×SV) (fun y=> y.1≤ks.length) (fun y=> [(8,y.2.val),(46, .int .i64 ((y.1:Nat):Int))]) [(0,_),(7,_),(44,_),(45,_)] (fun y=> [Row y.2 eEn ((gb 0 (dm ts)).take y.1),Wr bw (dB ((dm ts).take y.1))]) _ (fun y=> ks.length - y.1) ((0,s43)) (h0:=?_) (k:=?_))
 ·try dsimp only
  exact Yl _
 rintro⟨i,u⟩ hi
 try dsimp only[Yd,Ye]at*
 refine gk (k:=wi_ (k:=fun h1=>?_) (m:=fun h1=>?_))
 ·obtain⟨q,hq⟩:∃q,ks[i]? =some q:=⟨_,Yi (aa)⟩
  have hri:=hrg hq
  have hei:=lX (n:=0) hri
  have hqm:q∈(kvs es).map (·.1):=hkp.mem_iff.1 (Yj hq)
  have hgo:=lU hgd (k:=cF q)
  have hptl:(dB ((dm ts).take (i+1))).length≤(dB (dm ts)).length:=vn _ _
  rw[nO hri,Ya]at hptl
  rw[Nat.zero_add]at hei
  simp only at hei hptl
  refine go ?_
  refine go ?_
  refine s_ (xT rfl rfl) (k:=?_)
  rintro _ _ ⟨rfl,(⟨m,e,he,hek,rfl⟩|⟨hno,rfl⟩)⟩
  ·have hev:=htk.vals _ (Yj (qw he))
   simp only[hek]at hev
   rw[←hev]at hri hei hptl hgo
   refine e_ asn (k:=on_ (qn_ (ws_ (wr_ (?_)))))
   haveI hsle:=Ob (H:=Cl egH es::R) inferInstance he
   have hvp:(e.l.map pgV).length=(e.l.map pgP).length:=an
   have hin:=BR (H:=Cl egH es::R) inferInstance he
   have hvl:(e.l.map pgV).length=e.l.length:=an
   have hgs:=hgo.2.1.1
   refine go ?_
   refine c1_ rfl (M9 (BR inferInstance he) hgo.1 hgo.2.1 (aa)) (k:=?_)
   rintro _ _ ⟨s58,rfl,rfl⟩
   refine e_ mv (k:=e_ exr (k:=e_ exr (k:=e_ asn (k:=e_ asn (k:=on_ (qn_ (ws_ (ws_ (wr_ (e_ mv (k:=?_)))))))))))
   refine e_ (cM rfl) (k:=?_)
   refine gk (k:=eg (k:=go ?_))
   refine d1_ rfl (Pn) (k:=e_ mv (k:=e_ lnn (k:=e_ (bld [(0,_),(1,_),(3,_),(4,_)]) (k:=alc (k:=fun b14=>?_)))))
   refine sto (k:=on_ (qn_ (ws_ (ws_ (wr_ (?_))))))
   rw[show Vr b14 [.string q, .int .i64 (((e.l.map pgV).length:Nat):Int), .int .i64 0, .int .i64 (((dB ((dm ts).take i)).length:Nat):Int), .int .i64 (((dx (e.l.map pgP)).length:Nat):Int)]=Vr b14 [.string q, .int .i64 (((e.l.map pgP).length:Nat):Int), .int .i64 ((dg ((e.l.map pgP).take 0):Nat):Int), .int .i64 (((dB ((dm ts).take i)).length:Nat):Int), .int .i64 (((dx (e.l.map pgP)).length:Nat):Int)]from by rw[hvp];all_goals rfl]
   refine gk (k:=dt (Nat) (fun y=> y≤(e.l.map pgV).length) (fun y=> [(74, .int .i64 ((y:Nat):Int))]) [(0,_),(7,_),(8,_),(12,_),(14,_),(44,_),(45,_),(46,_),(72,_),(73,_)] (fun y=> [Vr b14 [.string q, .int .i64 (((e.l.map pgP).length:Nat):Int), .int .i64 ((dg ((e.l.map pgP).take y):Nat):Int), .int .i64 (((dB ((dm ts).take i)).length:Nat):Int), .int .i64 (((dx (e.l.map pgP)).length:Nat):Int)]]) _ (fun y=> (e.l.map pgV).length - y) (0) (h0:=?_) (k:=?_))
   ·try dsimp only
    exact Yl _
   rintro m hm
   try dsimp only[Yd,Ye]at*
   refine gk (k:=wi_ (k:=fun h2=>?_) (m:=fun h2=>?_))
   ·obtain⟨lp,hlp⟩:∃lp,e.l[m]? =some lp:=⟨_,Yi (aa)⟩
    have hlv:(e.l.map pgV)[m]? =some (lp.d,lp.s):=by rw[Xd,hlp];all_goals rfl
    have hlq:(e.l.map pgP)[m]? =some (lp.d,lp.pos):=by rw[Xd,hlp];all_goals rfl
    haveI hslp:Sl (Cl egH es::R) lp.s eI (cV lp.pos):=(hin.2 m _ _ hlv hlq).2
    have hil:=dO lp.pos
    have htk2:=o9 hlq
    simp only at htk2
    have htl:dg ((e.l.map pgP).take (m+1))≤dg (e.l.map pgP):=by
     conv=> rhs;rw[←List.take_append_drop (m+1) (e.l.map pgP),jz]
     exact Nat.le_add_right _ _
    refine gk (k:=alc (k:=fun b16=>?_))
    refine sto (k:=on_ (qn_ (wr_ (e_ fla (k:=e_ ldv (k:=e_ fla (k:=e_ ldv (k:=e_ lnn (k:=?_)))))))))
    refine e_ (evq iad (congrArg (Value.int .i64) (show _=((dg ((e.l.map pgP).take (m+1)):Nat):Int)from aa))) (k:=?_)
    refine go ?_
    refine ln_ (m+1) (k:=?_)
    try dsimp only
    omega
   obtain rfl:m=(e.l.map pgV).length:=aa
   rw[show(e.l.map pgP).take (e.l.map pgV).length=e.l.map pgP from by rw[hvp,List.take_length]]
   have hek2:dL (cF q)=q:=gO _
   rw[hek2]at hei
   have hent:=cP hei
   have htkl:((gb 0 (dm ts)).take i).length≤ks.length:=aA
   refine gk (k:=gz eEn (k:=fun s88=>?_))
   refine app (k:=fun s89=>?_)
   rw[←hent]
   refine go ?_
   refine d2_ rfl (zW (aa) (aa)) (k:=?_)
   rw[show dB ((dm ts).take i)++dx (e.l.map pgP)=dB ((dm ts).take (i+1))from(nO hri).symm]
   refine go ?_
   refine ln_ ((i+1,s89)) (k:=?_)
   try dsimp only
   omega
  exact absurd hqm hno
 obtain rfl:i=ks.length:=aa
 rw[show(gb 0 (dm ts)).take ks.length=gb 0 (dm ts)from by rw[←hrl,←hel,List.take_length],show(dm ts).take ks.length=dm ts from by rw[←hrl,List.take_length]]
 refine go ?_
 refine c1_ rfl (O6 (aa) hok) (k:=?_)
 rintro _ _ ⟨s96,rfl,rfl⟩
 refine go ?_
 refine c1_ rfl (iv (aa)) (k:=?_)
 rintro _ _ ⟨s101,rfl,rfl⟩
 refine gk (k:=rt_ Tryz.results143 (k:=?_))
 exact⟨_,hsb,s96,s101,rfl,rfl⟩
theorem Ms {G:cK}{H:cG}{s:SV}{fs:List FV} [hg:Glb G H] [hs:Sl H s eF fs] (hc:fI fs=true):SC G Tryz.prog 142 [.agg [s.val].toArray] H (fun v H'=> ∃s':SV,v= .tuple #[s'.val, .nilIface]∧H'=Row s' eB (wW fs)::H):=
 (Jd (fs:=fs) (by have:=il hc;omega) (fun f hf=> by have:=((il hc).2 f hf).1;omega)).mono fun v H' h=> by
   rcases h with⟨h,_⟩|⟨_,h⟩
   ·rw[hc]at h;cases h
   ·exact h
theorem CG {G:cK}{H R:cG}{b:Nat}{s:SV}{xs:List Nat}{l:List Int} [hg:Glb G R] [hr:Rem H Wr b xs R] [Sl R s eI l] (hn:xs.length≤100000000000) (hm:l.length≤10000000000) (hl:∀x∈l,x≤9223372036854775807) (h1:l9 l=false) (h2:rise l=true):SC G Tryz.prog 144 [.pointer (some ⟨b,0,none⟩),s.val] H (fun v H'=> v= .nilIface∧H'=Wr b (xs++(uv l.length++fP (-1) l))::R):=
 (I8 hn hm hl).mono fun v H' h=> by
   rcases h with⟨h,_⟩|⟨_,h,_⟩|⟨_,_,h⟩
   ·rw[h1]at h;cases h
   ·rw[h2]at h;cases h
   ·exact h
theorem Lc {H R:cG}{zs:List (SV×List Nat)}{i:Nat}{z:SV×List Nat}(hr:nd H (Cl lnH zs) R) (h:zs[i]? =some z):Sl H z.1 eI (cV z.2):=dD (fm hr (C4 h)) inferInstance
theorem ga.less {H H':cG}{l:List (Int×SV)}{ds:List Doc}(hs:cJ H' H) (h:ga H l ds):ga H' l ds:=⟨h.1,fun i p q hp hq=> by
 obtain⟨h1,h2⟩:=h.2 i p q hp hq
 exact⟨h1,dD hs h2⟩⟩
def nq (k:Nat):List SV→List (Nat×SV)
 | []=> []
 |s::l=> (k,s)::nq (k+1) l
theorem xE:∀(l:List SV) (k:Nat),(nq k l).length=l.length
 | [],_=> rfl
 |s::l,k=> by simp[nq,xE l]
theorem xF:∀{l:List SV}{k i:Nat}{s:SV},l[i]? =some s→(nq k l)[i]? =some (k+i,s)
 | [],_,_,_,h=> aG
 |q::l,k,0,s,h=> ba
 |q::l,k,i+1,s,h=> by
  rw[Xc]at h
  rw[nq,Xc,xF h];congr 2;omega
theorem Ph {H:cG}{a b c d e f:SV}{p q r s t u:List Nat} [h1:Sl H a eB p] [h2:Sl H b eB q] [h3:Sl H c eB r] [h4:Sl H d eB s] [h5:Sl H e eB t] [h6:Sl H f eB u]:oH H (nq 1 [a,b,c,d,e,f]) [(1,p),(2,q),(3,r),(4,s),(5,t),(6,u)]:=⟨rfl,fun i x y hx hy=> by
 match i,hx,hy with
 | 0,hx,hy=> simp[nq]at hx hy;subst hx;subst hy;exact⟨rfl,h1⟩
 | 1,hx,hy=> simp[nq]at hx hy;subst hx;subst hy;exact⟨rfl,h2⟩
 | 2,hx,hy=> simp[nq]at hx hy;subst hx;subst hy;exact⟨rfl,h3⟩
 | 3,hx,hy=> simp[nq]at hx hy;subst hx;subst hy;exact⟨rfl,h4⟩
 | 4,hx,hy=> simp[nq]at hx hy;subst hx;subst hy;exact⟨rfl,h5⟩
 | 5,hx,hy=> simp[nq]at hx hy;subst hx;subst hy;exact⟨rfl,h6⟩
 |n+6,hx,hy=> simp[nq]at hx⟩
theorem LW {G:cK}{H R R2:cG}{g r:Nat}{fv dv lv:SV}{zs:List (SV×List Nat)}{fs:List FV}{l:List (Int×SV)}{ds:List Doc} [hg0:Glb G R] [Tab R 27 lg] [Tab R 25 jP] [hv:cQ R g [fv.val,dv.val,lv.val, .map (some r)]] [hf:Sl R fv eF fs] [hd:Sl R dv eD l] [hl:Sl R lv eSV (zs.map (·.1))] [hz:nd R (Cl lnH zs) R2] [hr:Rem H gY r (eE fs ds) R] (hS:lz) (hok:jF fs ds) (hdi:ga R l ds) (hzs:zs.map (·.2)=(List.range fs.length).map (dP fs ds)):SC G Tryz.prog 107 [.pointer (some ⟨g,0,none⟩)] H (fun v H'=> ∃s:SV,v= .tuple #[s.val, .nilIface]∧H'=Row s eB (y7 fs ds)::R):=by
 have hll:=hdi.1
 have hfl:=hok.flen
 have hfew:=hok.few
 obtain⟨hB1,hB2,hB3,hB4⟩:=hok.blocks
 have hid:∀x∈ds.map (·.1),x<1099511627776:=fun x hx=> by obtain⟨d,hd,rfl⟩:=List.mem_map.1 hx;exact hok.ids d hd
 have hidl:(ds.map (·.1)).length=l.length:=by rw[Yh,hll]
 have hzl:zs.length=fs.length:=by have:=congrArg List.length hzs;simpa using this
 have hzml:(zs.map (·.1)).length=fs.length:=by rw[Yh,hzl]
 have hsz:=hok.size
 refine SC.rem (h:=hr) ?_
 refine sWk Tryz.func107 Tryz.ntmps107 ?_
 refine go ?_
 refine c1_ rfl (Ms hok.chk) (k:=?_)
 rintro _ _ ⟨s25,rfl,rfl⟩
 refine e_ mv (k:=e_ exr (k:=e_ exr (k:=e_ asn (k:=e_ asn (k:=on_ (qn_ (ws_ (ws_ (wr_ (e_ mv (k:=?_)))))))))))
 refine e_ (cM rfl) (k:=?_)
 refine gk (k:=eg (k:=go ?_))
 refine c1_ rfl (LV (r:=r) hS hok.goodT hB3 hB4) (k:=?_)
 rintro _ _ ⟨sa,sb,rfl,rfl⟩
 refine e_ mv (k:=e_ exr (k:=e_ exr (k:=e_ exr (k:=e_ asn (k:=e_ asn (k:=e_ asn (k:=on_ (qn_ (ws_ (ws_ (wr_ (e_ mv (k:=?_)))))))))))))
 refine e_ (cM rfl) (k:=?_)
 refine gk (k:=eg (k:=go ?_))
 refine s_ (eX eI 0 rfl rfl _ _ rfl rfl rfl (aa) (aa) (aa)) (k:=?_)
 rintro _ _ ⟨s45,rfl,hs45n,hs45c,rfl⟩
 refine e_ asn (k:=on_ (qn_ (ws_ (ws_ (wr_ (?_))))))
 rw[show Row s45 eI (List.replicate l.length (0:Int))=Row s45 eI (eA (ds.map (·.1)) 0 0)from by rw[kd,hidl]]
 refine gk (k:=dt (Nat) (fun y=> y≤l.length) (fun y=> [(51, .int .i64 ((y:Nat):Int))]) [(0,_),(4,_),(6,_),(7,_),(8,_),(49,_),(50,_)] (fun y=> [Row s45 eI (eA (ds.map (·.1)) 0 y)]) _ (fun y=> l.length - y) (0) (h0:=?_) (k:=?_))
 ·try dsimp only
  exact Yl _
 rintro i hi
 try dsimp only[Yd,Ye]at*
 refine gk (k:=wi_ (k:=fun h1=>?_) (m:=fun h1=>?_))
 ·obtain⟨d,s,vs,hli,hdj,hsl⟩:=hdi.get (i:=i) (aa)
  have hg1:(ds.map (·.1))[i]? =some d:=by rw[Xd,hdj];all_goals rfl
  have hfll:=ik (full:=ds.map (·.1)) (z:=(0:Int)) (i:=i) (aa)
  refine gk (k:=alc (k:=fun b10=>?_))
  refine go ?_
  refine s_ (dH (i:=i) rfl rfl rfl (aa)) (k:=?_)
  rintro _ _ ⟨rfl,rfl⟩
  rw[lW hg1]
  refine go ?_
  refine ln_ (i+1) (k:=?_)
  try dsimp only
  omega
 obtain rfl:i=l.length:=aa
 rw[show eA (ds.map (·.1)) 0 l.length=ds.map (·.1)from by rw[←hidl,kE]]
 refine go ?_
 refine c0_ rfl (fM) (k:=?_)
 rintro _ _ ⟨bw,rfl,rfl⟩
 refine go ?_
 refine d2_ rfl (CG (an) (aa) (fun x hx=> by have:=hid x hx;omega) hok.pos hok.up) (k:=?_)
 rw[show []++(uv (ds.map (·.1)).length++fP (-1) (ds.map (·.1)))=mH ds from by rw[mH,Yh];all_goals rfl]
 have hIl:(mH ds).length≤50000:=by
  have h1:=ob hok.pos (fun x hx=> by have:=hid x hx;omega)
  have h2:=ef (n:=ds.length) (k:=6) (aa) (aa)
  rw[mH,Ya];omega
 refine e_ asn (k:=on_ (qn_ (ws_ (wr_ (e_ mv (k:=?_))))))
 refine e_ (cM rfl) (k:=?_)
 refine gk (k:=eg (k:=go ?_))
 refine c1_ rfl (iv (aa)) (k:=?_)
 rintro _ _ ⟨s70,rfl,rfl⟩
 refine go ?_
 refine d1_ rfl (Lv) (k:=?_)
 rw[show Wr bw []=Wr bw (kY fs ds 0)from rfl]
 refine go ?_
 refine dt (Nat) (fun y=> y≤fs.length) (fun y=> [(78, .int .i64 ((y:Nat):Int))]) [(0,_),(4,_),(6,_),(7,_),(11,_),(13,_),(76,_),(77,_)] (fun y=> [Wr bw (kY fs ds y)]) _ (fun y=> fs.length - y) (0) (h0:=?_) (k:=?_)
 ·try dsimp only
  exact Yl _
 rintro i hi
 try dsimp only[Yd,Ye]at*
 refine gk (k:=wi_ (k:=fun h2=>?_) (m:=fun h2=>?_))
 ·obtain⟨z,hzi⟩:∃z,zs[i]? =some z:=⟨_,Yi (aa)⟩
  have hz1:(zs.map (·.1))[i]? =some z.1:=by rw[Xd,hzi];all_goals rfl
  have hz2:z.2=dP fs ds i:=by
   have h1:=congrArg (·[i]?) hzs
   simp only[Xd,hzi,List.getElem?_range (by omega:i<fs.length),Option.map_some,Option.some.injEq]at h1
   exact h1
  haveI hzs2:Sl R z.1 eI (cV (dP fs ds i)):=hz2 ▸ Lc hz hzi
  have hlb:=lP (fs:=fs) hsz hfew i
  refine go ?_
  refine go ?_
  refine d2_ rfl (wc (aa) (by rw[dP,Yh];omega) (wF fs hsz i) (fun _=> by rw[dP,Yh];omega)) (k:=?_)
  rw[show kY fs ds i++dJ (dP fs ds i)=kY fs ds (i+1)from by simp[kY,List.range_succ]]
  refine e_ asn (k:=on_ (qn_ (ws_ (wr_ (e_ mv (k:=?_))))))
  refine e_ (cM rfl) (k:=?_)
  refine gk (k:=eg (k:=go ?_))
  refine ln_ (i+1) (k:=?_)
  try dsimp only
  omega
 obtain rfl:i=fs.length:=aa
 have hlb:=lP (fs:=fs) hsz hfew fs.length
 refine go ?_
 refine go ?_
 refine c1_ rfl (iv (aa)) (k:=?_)
 rintro _ _ ⟨s92,rfl,rfl⟩
 refine go ?_
 refine c1_ rfl (Is (hdi.less (hsb)) (aa) (aa) hok.q hsz hok.fd) (k:=?_)
 rintro _ _ ⟨s96,rfl,rfl⟩
 refine s_ (dC eSV [s25,s70,s92,sa,sb,s96] (bQ) rfl (ay)) (k:=?_)
 rintro _ _ ⟨s97,rfl,rfl⟩
 refine du (cJ.nilRow (e:=eK) cJ.refl) ?_
 obtain⟨ss,hss⟩:∃ss,ss= [s25,s70,s92,sa,sb,s96]:=⟨_,rfl⟩
 have hsl:ss.length=6:=by rw[hss];all_goals rfl
 have htl:=xE ss 1
 rw[←hss,show Row SV.nil eK []=Row SV.nil eK ((nq 1 ss).take 0)from rfl]
 refine gk (k:=dt (Nat×SV) (fun y=> y.1≤ss.length) (fun y=> [(17,y.2.val),(99, .int .i64 ((y.1:Nat):Int))]) [(97,_),(98,_)] (fun y=> [Row y.2 eK ((nq 1 ss).take y.1)]) _ (fun y=> ss.length - y.1) ((0,SV.nil)) (h0:=?_) (k:=?_))
 ·try dsimp only
  exact Yl _
 rintro⟨i,u⟩ hi
 try dsimp only[Yd,Ye]at*
 refine gk (k:=wi_ (k:=fun h3=>?_) (m:=fun h3=>?_))
 ·obtain⟨x,hx⟩:∃x,ss[i]? =some x:=⟨_,Yi (aa)⟩
  have htg:=cP (xF (k:=1) hx)
  have htkl:((nq 1 ss).take i).length≤6:=aA
  refine wk_ (qn_ (ws_ (wb_ (ws_ (wr_ (e_ mv (k:=e_ ixa (k:=e_ lel (k:=e_ asn (k:=e_ asn (k:=on_ (qn_ (wr_ (?_))))))))))))))
  refine e_ mv (k:=e_ mv (k:=e_ iad (k:=?_)))
  refine e_ (cU 256 rfl rfl rfl (1+i) (aa) (aa)) (k:=?_)
  refine e_ mv (k:=e_ (bld [(0,_),(1,_)]) (k:=gz eK (k:=fun s110=>?_)))
  refine app (k:=fun s111=>?_)
  rw[←htg]
  refine go ?_
  refine ln_ ((i+1,s111)) (k:=?_)
  try dsimp only
  omega
 obtain rfl:i=ss.length:=aa
 rw[show(nq 1 ss).take ss.length=nq 1 ss from by rw[←htl,List.take_length],hss]
 refine go ?_
 refine c2_ rfl (OY (bl:=lJ fs ds) 83 (ag) (ag) Ph hB1 hB2 (by simp[lJ])) (k:=?_)
 rintro _ _ ⟨s114,rfl,rfl⟩
 refine gk (k:=rt_ Tryz.results107 (k:=?_))
 exact⟨_,hsb,s114,rfl,rfl⟩
end Go.Sx
