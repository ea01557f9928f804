import Derived.Test.YtcbidldebfibkaaGreatDoorQ32
set_option linter.unusedVariables false
set_option linter.unusedSimpArgs false
set_option linter.unusedSectionVars false
set_option linter.unnecessarySimpa false
set_option maxHeartbeats 0
namespace Go.Sx
open Go Go.Proofs
set_option maxRecDepth 100000
theorem xz {α β:Type}(l:List α) (m:List β) (g:α→β→Nat):(l.map fun a=> (m.map (g a)).sum).sum=(m.map fun b=> (l.map fun a=> g a b).sum).sum:=by
 induction l with
 |nil=> simp only[List.map_nil,List.sum_nil];induction m with
  |nil=> rfl
  |cons b m ih=> simp only[List.map_cons,List.sum_cons,Nat.zero_add];exact ih
 |cons a l ih=>
  simp only[List.map_cons,List.sum_cons,ih]
  clear ih
  induction m with
  |nil=> rfl
  |cons b m ih=> simp only[List.map_cons,List.sum_cons]at ih⊢;omega
theorem tw {α:Type}{l:List α}{f g:α→Nat}(h:∀x∈l,f x≤g x):(l.map f).sum≤(l.map g).sum:=by
 induction l with
 |nil=> exact Nat.le_refl _
 |cons a l ih=>
  have h1:=h a (aj)
  have h2:=ih fun x hx=> h x (Xa _ hx)
  simp only[List.map_cons,List.sum_cons];omega
def gv (fs:List FV) (f:Nat) (v:Val):Nat:=match fs[f]? with
 |some p=> if cF v.1=cF p.name then v.2.size+1 else 0
 |none=> 0
theorem Bx (p:FV) (vs:List Val):∀i,(fm p vs i).2.length≤((vs.take i).map fun v=> if cF v.1=cF p.name then v.2.size+1 else 0).sum
 | 0=> by simp[fm]
 |i+1=> by
  have ih:=Bx p vs i
  cases hv:vs[i]? with
  |none=>
   have e:fm p vs (i+1)=fm p vs i:=by rw[fm,hv]
   have:vs.take (i+1)=vs.take i:=by rw[List.take_add_one,hv];simp
   rw[e,this];exact ih
  |some v=>
   rw[cP hv,List.map_append,List.sum_append]
   by_cases hn:cF v.1=cF p.name
   ·have h4:=pM p (cF v.2)
    rw[cJ]at h4
    rw[sX (b:=(fm p vs i).1) (out:=(fm p vs i).2) rfl hv hn]
    simp only[Ya,Yh,List.map_cons,List.map_nil,List.sum_cons,List.sum_nil,if_pos hn]
    omega
   ·rw[wO (b:=(fm p vs i).1) (out:=(fm p vs i).2) rfl hv hn];simp only;omega
theorem CQ (fs:List FV) (f:Nat) (vs:List Val):(dF fs f vs).length≤(vs.map (gv fs f)).sum:=by
 unfold dF
 cases hp:fs[f]? with
 |none=> simp
 |some p=>
  have h:=Bx p vs vs.length
  rw[List.take_length]at h
  simp only
  have e:(fun v:Val=> if cF v.1=cF p.name then v.2.size+1 else 0)=gv fs f:=by funext v;rw[gv,hp]
  rwa [e]at h
theorem Bv {fs:List FV}{v:Val}:∀n,(∀j p,j<n→fs[j]? =some p→cF v.1≠cF p.name)→((List.range n).map fun f=> gv fs f v).sum=0
 | 0,_=> rfl
 |n+1,h=> by
  rw[List.range_succ,List.map_append,List.sum_append,Bv n fun j p hj=> h j p (a8)]
  simp only[List.map_cons,List.map_nil,List.sum_cons,List.sum_nil,gv]
  cases hp:fs[n]? with
  |none=> rfl
  |some p=> simp only;rw[if_neg (h n p (a8) hp)];all_goals rfl
theorem FB {fs:List FV}(hd:(fs.map fun f=> cF f.name).Nodup) (v:Val):∀n,((List.range n).map fun f=> gv fs f v).sum≤v.2.size+1
 | 0=> aj
 |n+1=> by
  have ih:=FB hd v n
  rw[List.range_succ,List.map_append,List.sum_append]
  simp only[List.map_cons,List.map_nil,List.sum_cons,List.sum_nil,Nat.add_zero]
  by_cases hg:gv fs n v=0
  ·omega
  ·obtain⟨p,hp,hn⟩:∃p,fs[n]? =some p∧cF v.1=cF p.name:=by
    unfold gv at hg
    cases hp:fs[n]? with
    |none=> rw[hp]at hg;exact absurd rfl hg
    |some p=>
     rw[hp]at hg
     by_cases h:cF v.1=cF p.name
     ·exact⟨p,rfl,h⟩
     ·exact absurd (by simp only;rw[if_neg h]) hg
   have hz:=Bv (fs:=fs) (v:=v) n fun j q hj hq he=> by
    have h1:(fs.map fun f=> cF f.name)[j]? =some (cF v.1):=by rw[Xd,hq,he];all_goals rfl
    have h2:(fs.map fun f=> cF f.name)[n]? =some (cF v.1):=by rw[Xd,hp,hn];all_goals rfl
    have h3:=(Yk.1 h2).1
    have:=(List.getElem?_inj (a8) hd).1 (h1.trans h2.symm)
    omega
   have hb:gv fs n v≤v.2.size+1:=by rw[gv,hp];simp only;rw[if_pos hn];exact Nat.le_refl _
   omega
def tsz (ds:List Doc):Nat:=(ds.map fun d=> (d.2.map fun v=> v.2.size+1).sum).sum
theorem vU (fs:List FV) (f:Nat):∀(ds:List Doc) (k:Nat),(fN fs f k ds).length=(ds.map fun d=> (dF fs f d.2).length).sum
 | [],_=> rfl
 |d::ds,k=> by
  rw[fN,Ya,vU fs f ds (k+1)]
  simp[nB]
theorem Gj {fs:List FV}(hc:e7 fs=true) (ds:List Doc):(gA fs ds).length≤tsz ds:=by
 have hd:=(pE fs [] (by simp only[e7,Bool.and_eq_true]at hc;exact hc.2)).2
 have h1:(gA fs ds).length=((List.range fs.length).map fun f=> (ds.map fun d=> (dF fs f d.2).length).sum).sum:=by
  rw[gA,List.length_flatMap]
  congr 1
  exact List.map_congr_left fun f _=> vU fs f ds 0
 rw[h1,xz]
 refine tw fun d _=> ?_
 have h2:((List.range fs.length).map fun f=> (dF fs f d.2).length).sum≤((List.range fs.length).map fun f=> (d.2.map (gv fs f)).sum).sum:=tw fun f _=> CQ fs f d.2
 rw[xz]at h2
 exact Xi h2 (tw fun v _=> FB hd v _)
theorem vm {fs:List FV}:∀{n:Nat}{l:List Nat}{vs:List Val}{c:Nat},(∀x∈l,x<256)→gK fs n l=some (vs,c)→vsz vs≤10*c∧(vs.map fun v=> v.2.size+1).sum≤c
 | 0,l,vs,c,_,h=> by simp[gK]at h;obtain⟨rfl,rfl⟩:=h;simp[vsz]
 |n+1,l,vs,c,hb,h=> by
  rw[gK]at h
  split at h
  ·cases h
  ·rename_i f m hf
   split at h
   ·cases h
   ·rename_i q k hq
    split at h
    ·cases h
    ·rename_i r e hr
     simp only[Option.some.injEq,Prod.mk.injEq]at h
     obtain⟨rfl,rfl⟩:=h
     obtain⟨_,_,_,h1⟩:=dI hb hf
     obtain⟨h2,h3,h4,h5⟩:=jm (fun x hx=> hb x (Yp hx)) hq
     obtain⟨h6,h7⟩:=vm (fun x hx=> hb x (Yp hx)) hr
     have h8:=congrArg List.length h5
     rw[Yg,Ya]at h8
     have h9:1≤(uv q.length).length:=ju _
     simp only[vsz,List.map_cons,List.sum_cons,fg]at h6 h7⊢
     omega
theorem vq {fs:List FV}:∀{ids:List Int}{l:List Nat}{ds:List Doc}{c:Nat},(∀x∈l,x<256)→gf fs ids l=some (ds,c)→dsz ds≤10*c∧tsz ds≤c
 | [],l,ds,c,_,h=> by simp[gf]at h;obtain⟨rfl,rfl⟩:=h;simp[dsz,tsz]
 |d::ids,l,ds,c,hb,h=> by
  rw[gf]at h
  split at h
  ·cases h
  ·rename_i n m hn
   split at h
   ·cases h
   ·rename_i vs k hv
    split at h
    ·cases h
    ·rename_i r e hr
     simp only[Option.some.injEq,Prod.mk.injEq]at h
     obtain⟨rfl,rfl⟩:=h
     obtain⟨h3,h4⟩:=vm (fun x hx=> hb x (Yp hx)) hv
     obtain⟨h6,h7⟩:=vq (fun x hx=> hb x (Yp hx)) hr
     simp only[dsz,tsz,List.map_cons,List.sum_cons]at h6 h7⊢
     omega
theorem rD {fs:List FV}(hc:e7 fs=true) {ids body:List Nat}{ds:List Doc}(hb:∀x∈ids,x<256) (hb2:∀x∈body,x<256) (hl:body.length≤2000000) (h:gi fs ids body=some ds):ds.length≤4096∧(∀d∈ds,d.2.length≤64∧∀v∈d.2,v.2.size≤4096)∧dsz ds≤30000000∧(gA fs ds).length≤2000000:=by
 rw[gi]at h
 split at h
 ·cases h
 ·rename_i l m hr
  split at h
  ·cases h
  ·split at h
   ·cases h
   ·rename_i ds' c hd
    split at h
    ·cases h
    ·obtain rfl:=Option.some.inj h
     have hll:l.length≤4096:=by
      rw[dL]at hr
      split at hr
      ·cases hr
      ·rename_i n0 m0 hr0
       split at hr
       ·cases hr
       ·rename_i r0 m1 hr1
        obtain⟨hr2,_⟩:=(by simpa using hr:r0=l∧m0+m1=m)
        obtain⟨k1,_⟩:=dI hb hr0
        obtain⟨k2,_⟩:=lh _ _ _ _ _ (fun x hx=> hb x (Yp hx)) (Int.le_refl _) hr1
        rw[←hr2];omega
     obtain⟨h1,h2,h3⟩:=tQ hb2 hd
     obtain⟨h4,h5⟩:=vq hb2 hd
     have h6:=Gj hc ds'
     exact⟨a8,h3,a8,a8⟩
def fM (fs:List FV) (xs:List Nat):Option (List Doc):=match eZ 83 xs with
 |none=> none
 |some bl=> if bl.length=6 then
  match gi fs (bl.getD 1 (0, [])).2 (bl.getD 5 (0, [])).2 with
  |none=> none
  |some ds=> if k8 fs ds=0∧rb fs ds=xs then some ds else none
  else none
theorem Ls {xs:List Nat}{bl:List (Nat×List Nat)}(hb:∀x∈xs,x<256) (h:eZ 83 xs=some bl):∀q∈bl,(∀x∈q.2,x<256)∧q.2.length≤xs.length:=by
 obtain⟨i1,_,i3⟩:=jS hb h
 have h1:=congrArg List.length i1
 rw[kA]at h1
 exact fun q hq=> ⟨(i3 q hq).2,by have:=ic hq;omega⟩
theorem xQ {fs:List FV}{xs:List Nat}{bl:List (Nat×List Nat)}{q1 q5:Nat×List Nat}(h:eZ 83 xs=some bl) (hl:bl.length=6) (h1:bl[1]? =some q1) (h5:bl[5]? =some q5):fM fs xs=match gi fs q1.2 q5.2 with
 |none=> none
 |some ds=> if k8 fs ds=0∧rb fs ds=xs then some ds else none:=by
 rw[fM,h];simp only
 rw[if_pos hl,List.getD_eq_getElem?_getD,List.getD_eq_getElem?_getD,h1,h5];all_goals rfl
theorem kL.at6 {F:cG}{l:List (Nat×SV)}{bl:List (Nat×List Nat)}(h:kL F l bl) {i:Nat}(hi:i<bl.length):∃(p:Nat×SV) (q:Nat×List Nat),l[i]? =some p∧bl[i]? =some q∧Sl F p.2 eB q.2:=by
 obtain⟨p,hp⟩:∃p,l[i]? =some p:=⟨_,Yi (by rw[h.1];exact hi)⟩
 obtain⟨q,hq⟩:∃q,bl[i]? =some q:=⟨_,Yi hi⟩
 exact⟨p,q,hp,hq,(h.2 i p q hp hq).2⟩
theorem Ea (l:List Nat):eY 0 (l.take (min l.length 10))=eY 0 l:=by
 by_cases h:l.length≤10
 ·rw[Nat.min_eq_left h,List.take_length]
 ·rw[Nat.min_eq_right (a8),rf l 0 10 (a8) (a8)]
theorem tI {G:cM}{H:cG}{s:SV}{xs:List Nat} [hs:Sl H s eB xs] (kind:Nat) (hk:kind<256) (hn:xs.length≤1000000000) (hb:∀x∈xs,x<256):SC G Tryz.prog 50 [.int .u8 ((kind:Nat):Int),s.val] H (fun v H'=>
 (eZ kind xs=none∧H'=H∧∃e:Int,e≠0∧v= .tuple #[.slice none 0 0, .int .i64 e])∨(∃bl l F,∃s':SV,eZ kind xs=some bl∧kL F l bl∧v= .tuple #[s'.val, .int .i64 0]∧H'=Row s' eK l::dH F::H)):=by
 refine sWk Tryz.func50 Tryz.ntmps50 ?_
 refine go ?_
 refine wi_ (k:=fun h1=>?_) (m:=fun h1=>?_)
 ·have hN:eZ kind xs=none:=by rw[eZ,if_pos (a8)]
  refine gk (k:=rt_ Tryz.results50 (k:=?_))
  exact⟨_,hsb, .inl ⟨hN,rfl,1,ag,rfl⟩⟩
 have e0:eZ kind xs=if jt (xs.drop (xs.length - 4))=lN (xs.take (xs.length - 4))then if kind=0∨xs.take 4≠ [99,110,99,100]∨xs[4]? ≠some kind then none else
  match eY 0 ((xs.take (xs.length - 4)).drop 5)with
  | .error _=> none
  | .ok (n,m)=> gM n (((xs.take (xs.length - 4)).drop 5).drop m)
  else none:=by rw[eZ,if_neg (a8),Ea];all_goals rfl
 obtain⟨x4,hx4⟩:∃x,xs[4]? =some x:=⟨_,Yi (a8)⟩
 have hx4b:=hb x4 (Yj hx4)
 have hzl:lN (xs.take (xs.length - 4))<4294967296:=tC (fun y hy=> hb y (Yq hy))
 have hwe:=AH (l:=xs.drop (xs.length - 4)) (z:=lN (xs.take (xs.length - 4))) (aC) (fun y hy=> hb y (Yp hy)) hzl
 rw[List.take_of_length_le (l:=xs.drop (xs.length - 4)) (aC)]at hwe
 refine go ?_
 refine di cL (fun i=> [3,4,5].contains i) (fun k H=> (k=2→Sl H s eB xs)∧(k=8→Sl H s eB xs)∧(k=9→Sl H (s.cut 1 (xs.length - 4) xs.length) eB (xs.drop (xs.length - 4)))) (?_)
 haveI c1:Sl H (s.cut 1 0 (xs.length - 4)) eB (xs.take (xs.length - 4)):=by
  have:=Sl.cut (e:=eB) hs (lo:=0) (hi:=xs.length - 4) (Yl _) (a8)
  rw[List.drop_zero]at this;exact this
 haveI c2:Sl H (s.cut 1 (xs.length - 4) xs.length) eB (xs.drop (xs.length - 4)):=by
  have:=Sl.cut (e:=eB) hs (lo:=xs.length - 4) (hi:=xs.length) (a8) (a8)
  rw[List.take_length]at this;exact this
 haveI c3:Sl H (s.cut 1 0 4) eB (xs.take 4):=by
  have:=Sl.cut (e:=eB) hs (lo:=0) (hi:=4) (Yl _) (a8)
  rw[List.drop_zero]at this;exact this
 refine af_ 0 (q:=cE fun H hH=>mv) (k:=af_ 1 (q:=cE fun H hH=>mv) (k:=?_))
 refine cH 2 rfl rfl (aa) rfl (cE fun H hH=>by have hN:=hH.1 rfl;exact ef rfl (aI) 0 (xs.length - 4) rfl ⟨_,_,rfl,a8⟩ (a8) (a8)) (?_)
 refine af_ 6 (q:=cE fun H hH=>mv) (k:=af_ 7 (q:=cE fun H hH=>mv) (k:=?_))
 refine cH 8 rfl rfl (aa) rfl (cE fun H hH=>by have hN:=hH.2.1 rfl;exact ef rfl (aI) (xs.length - 4) xs.length ⟨_,_,rfl,a8⟩ rfl (a8) (a8)) (?_)
 refine cH 9 rfl rfl (aa) rfl (cE fun H hH=>by have hN:=hH.2.2 rfl;exact cV rfl) (?_)
 refine cQ 3 rfl (aa) rfl (fun k hk=> ⟨fun hi=> ab,fun hi=> ab,fun hi=> ab⟩) (dm (vs:= [_]) rfl (B5 (xs:=xs.take (xs.length - 4)) (ax) (fun y hy=> hb y (Yq hy)))) ?_
 rintro _ H ⟨rfl,rfl⟩
 refine cQ 4 rfl (aa) rfl (fun k hk=> ⟨fun hi=> absurd hk (ad),fun hi=> ab,fun hi=> ab⟩) (dm (vs:= [_]) rfl (sR (lN (xs.take (xs.length - 4))) hzl)) ?_
 rintro _ _ ⟨s6,rfl,rfl⟩
 refine cQ 5 rfl (aa) rfl (fun k hk=> ⟨fun hi=> absurd hk (ad),fun hi=> ab,fun hi=> ab⟩) ((cV rfl).st) ?_
 rintro _ _ ⟨rfl,rfl⟩
 refine cH 10 rfl rfl (aa) rfl (cE fun H hH=>kC rfl rfl (tk _) (dK (fun y hy=> hb y (Yp hy)))) (?_)
 refine db (aa) (fun k hk=> ⟨fun hi=> absurd hk (ad),fun hi=> ab,fun hi=> ab⟩) (gk (k:=wi_ (k:=fun h2=>?_) (m:=fun h2=>?_)))
 ·have hN:eZ kind xs=none:=by rw[e0,if_neg (fun h=> h2 (hwe.2 h))]
  refine gk (k:=rt_ Tryz.results50 (k:=?_))
  exact⟨_,hsb, .inl ⟨hN,rfl,7,ag,rfl⟩⟩
 rw[if_pos (hwe.1 h2)]at e0
 refine wk_ (qn_ (ws_ (?_)))
 refine nt ([(0, .int .u8 ((kind:Nat):Int)),(1,s.val),(6, .int .i64 (((xs.length:Nat):Int) - 4)),(47, .bool (decide (kind=0∨xs.take 4≠ [99,110,99,100]∨x4≠kind)))]) ?_ ?_
 ·refine wr_ (e_ mv (k:=e_ ieq (k:=sp_ (mv) (k:=fun h3=>?_) (m:=fun h3=>?_))))
  ·refine of_ (k:=of_ (k:=of_ (k:=of_ (k:=e_ pkt (k:=e_ mv (k:=of_ (k:=of_ (k:=of_ (k:=of_ (k:=of_ (k:=e_ pkt (k:=on_ (⟨rfl,?_,rfl⟩)))))))))))))
   repeat (first|exact Sub.nil|refine Sub.cons rfl ?_|refine Sub.cons (congrArg (fun b=> some (Value.bool b)) (uJ (a8))) ?_|refine Sub.cons (congrArg (fun b=> some (Value.bool b)) (oY (a8))) ?_|refine Sub.cons (congrArg (fun b=> some (Value.bool b)) (qD (a8))) ?_|refine Sub.cons (congrArg (fun b=> some (Value.bool b)) (by first|exact oY (by simp_all)|exact G8 ⟨fun h=> .inr (.inr (a8)),fun h=> by rcases h with h|h|h <;> first|omega|exact absurd (ay) h⟩|exact qD ⟨fun h=> .inr (.inr (a8)),fun h=> by rcases h with h|h|h <;> first|omega|exact absurd (ay) h⟩)) ?_)
  refine eg_ mv (k:=?_)
  refine eg_ (ef rfl (aI) 0 4 rfl ⟨_,_,rfl,rfl⟩ (a8) (a8)) (k:=?_)
  refine eg_ (cV rfl) (k:=?_)
  refine eg_ (kC rfl rfl (fun y hy=> hb y (Yq hy)) (ys:= [99,110,99,100]) (an)) (k:=?_)
  refine e_ pkf (k:=sp_ (mv) (k:=fun h4=>?_) (m:=fun h4=>?_))
  ·refine of_ (k:=of_ (k:=of_ (k:=of_ (k:=of_ (k:=e_ pkt (k:=on_ (⟨rfl,?_,rfl⟩)))))))
   repeat (first|exact Sub.nil|refine Sub.cons rfl ?_|refine Sub.cons (congrArg (fun b=> some (Value.bool b)) (uJ (a8))) ?_|refine Sub.cons (congrArg (fun b=> some (Value.bool b)) (oY (a8))) ?_|refine Sub.cons (congrArg (fun b=> some (Value.bool b)) (qD (a8))) ?_|refine Sub.cons (congrArg (fun b=> some (Value.bool b)) (by first|exact oY (by simp_all)|exact G8 ⟨fun h=> .inr (.inr (a8)),fun h=> by rcases h with h|h|h <;> first|omega|exact absurd (ay) h⟩|exact qD ⟨fun h=> .inr (.inr (a8)),fun h=> by rcases h with h|h|h <;> first|omega|exact absurd (ay) h⟩)) ?_)
  refine eg_ mv (k:=?_)
  refine eg_ (cO rfl rfl 4 rfl (a8)) (k:=?_)
  refine eg_ (dq rfl (aI) (aI) x4 hx4) (k:=?_)
  refine eg_ mv (k:=eg_ ine (k:=e_ pkf (k:=on_ (⟨rfl,?_,rfl⟩))))
  repeat (first|exact Sub.nil|refine Sub.cons rfl ?_|refine Sub.cons (congrArg (fun b=> some (Value.bool b)) (uJ (a8))) ?_|refine Sub.cons (congrArg (fun b=> some (Value.bool b)) (oY (a8))) ?_|refine Sub.cons (congrArg (fun b=> some (Value.bool b)) (qD (a8))) ?_|refine Sub.cons (congrArg (fun b=> some (Value.bool b)) (by first|exact oY (by simp_all)|exact G8 ⟨fun h=> .inr (.inr (a8)),fun h=> by rcases h with h|h|h <;> first|omega|exact absurd (ay) h⟩|exact qD ⟨fun h=> .inr (.inr (a8)),fun h=> by rcases h with h|h|h <;> first|omega|exact absurd (ay) h⟩)) ?_)
 refine wi_ (k:=fun h5=>?_) (m:=fun h5=>?_)
 ·have hN:eZ kind xs=none:=by
   rw[e0,if_pos]
   rcases h5 with h|h|h
   ·exact .inl h
   ·exact .inr (.inl h)
   ·exact .inr (.inr (by rw[hx4];intro e;exact h (Option.some.inj e)))
  refine gk (k:=rt_ Tryz.results50 (k:=?_))
  exact⟨_,hsb, .inl ⟨hN,rfl,6,ag,rfl⟩⟩
 rw[if_neg (by
  rintro(h|h|h)
  ·exact h5 (.inl h)
  ·exact h5 (.inr (.inl h))
  ·rw[hx4]at h;exact h5 (.inr (.inr (fun e=> h (by rw[e])))))]at e0
 refine wk_ (qn_ (ws_ (wr_ (?_))))
 obtain⟨rs,hrs⟩:∃rs,rs=(xs.take (xs.length - 4)).drop 5:=⟨_,rfl⟩
 have hbr:∀y∈rs,y<256:=fun y hy=> hb y (Yq (Yp (hrs ▸ hy)))
 have hlr:rs.length=xs.length - 9:=by rw[hrs,Yo,Yg];omega
 haveI c4:Sl H (s.cut 1 5 (xs.length - 4)) eB rs:=by
  have:=Sl.cut (e:=eB) hs (lo:=5) (hi:=xs.length - 4) (a8) (a8)
  rw[←hrs]at this;exact this
 rw[←hrs]at e0
 refine e_ mv (k:=e_ mv (k:=?_))
 refine e_ (ef rfl (aI) 5 (xs.length - 4) ⟨_,_,rfl,rfl⟩ ⟨_,_,rfl,a8⟩ (a8) (a8)) (k:=?_)
 refine d1_ rfl (vk (xs:=rs) (a8) hbr) (k:=?_)
 rcases hr:eY 0 rs with e|⟨n,m⟩
 all_goals rw[hr]at e0
 all_goals simp only[]at e0
 all_goals simp only[Kq]
 ·have he:=mr _ _ _ hr
  have hne:kG e≠0:=by rcases he with rfl|rfl <;> decide
  refine go ?_
  refine gk (k:=ir_ (k:=fun h6=>?_) (m:=fun h6=>?_))
  ·refine gk (k:=rt_ Tryz.results50 (k:=?_))
   exact⟨_,hsb, .inl ⟨e0,rfl,_,hne,rfl⟩⟩
  exact absurd hne (of_decide_eq_false h6)
 obtain⟨p1,p2,p3,p4,p5,p6⟩:=gZ rs 0 n m hbr (a8) hr
 refine go ?_
 refine gk (k:=dw (k:=go ?_))
 refine gk (k:=wl_ (SV×Nat×Nat×List (Nat×SV)×List (Nat×List Nat)×cG) (fun y=> y.2.1≤n∧y.2.2.1≤rs.length∧kL y.2.2.2.2.2 y.2.2.2.1 y.2.2.2.2.1∧y.2.2.2.1.length≤y.2.2.1∧eZ kind xs=vM y.2.2.2.2.1 (gM (n - y.2.1) (rs.drop y.2.2.1))) (fun y=> [(1,s.val),(6, .int .i64 (((xs.length:Nat):Int) - 4)),(7, .int .u64 ((n:Nat):Int)),(10, .int .i64 ((y.2.2.1+5:Nat):Int)),(11,y.1.val),(12, .int .u64 ((y.2.1:Nat):Int))]) (fun y=> Row y.1 eK y.2.2.2.1::dH y.2.2.2.2.2::Row s6 eB (w32 (lN (xs.take (xs.length - 4))))::H) (fun y=> n - y.2.1) ((SV.nil,0,m, [], [], [])) (hs:=?_) (h0:=?_) (k:=?_))
 ·rw[show((m+5:Nat):Int)=5+((m:Nat):Int)from a8];repeat (first|exact Sub.nil|refine Sub.cons rfl ?_)
 ·try dsimp only
  refine⟨Yl _,a8,kL.nil,Yl _,?_⟩
  rw[e0,Nat.sub_zero]
  cases gM n (rs.drop m)with
  |none=> rfl
  |some r=> rfl
 rintro⟨sb,k,a,l,bl,F⟩ ⟨hk2,ha,hB,hll,hI⟩
 try dsimp only at*
 refine gk (k:=wi_ (k:=fun h7=>?_) (m:=fun h7=>?_))
 ·obtain⟨d,hd⟩:∃d,n - k=d+1:=⟨n - k - 1,a8⟩
  rw[hd,gM]at hI
  haveI c5:Sl H (s.cut 1 (a+5) (xs.length - 4)) eB (rs.drop a):=by
   have:=Sl.cut (e:=eB) hs (lo:=a+5) (hi:=xs.length - 4) (a8) (a8)
   rw[hrs,List.drop_drop,Nat.add_comm 5 a];exact this
  refine wk_ (qn_ (ws_ (wb_ (ws_ (wr_ (e_ mv (k:=e_ mv (k:=e_ mv (k:=?_)))))))))
  refine e_ (ef rfl (aI) (a+5) (xs.length - 4) ⟨_,_,rfl,rfl⟩ ⟨_,_,rfl,a8⟩ (a8) (a8)) (k:=?_)
  refine c1_ rfl (Cn (xs:=rs.drop a) (aC) (fun y hy=> hbr y (Yp hy))) (k:=?_)
  rintro v1 H1 hK
  rcases hK with⟨he2,rfl,e,hne,rfl⟩|⟨f,q,x,s5,he2,hft,htl,hx,rfl,rfl⟩
  all_goals rw[he2]at hI
  all_goals simp only[]at hI
  ·refine gk (k:=alc (k:=fun b13=>?_))
   refine gk (k:=ir_ (k:=fun h8=>?_) (m:=fun h8=>?_))
   ·refine go ?_
    refine rt_ Tryz.results50 (k:=?_)
    exact⟨_,hsb, .inl ⟨hI,rfl,_,hne,rfl⟩⟩
   exact absurd hne (of_decide_eq_false h8)
  rw[Yo]at htl
  refine gk (k:=alc (k:=fun b13=>?_))
  refine gk (k:=dw (k:=go ?_))
  refine gk (k:=dD eK (k:=fun s1=>?_))
  refine app (k:=fun s2=>?_)
  refine e_ asn (k:=on_ (qn_ (wr_ (e_ mv (k:=e_ mv (k:=e_ iad (k:=e_ asn (k:=on_ (bn_ (qn_ (wr_ (e_ mv (k:=?_)))))))))))))
  refine e_ ((bt)) (k:=?_)
  refine go ?_
  refine ln_ ((s2,k+1,a+(q+4),l++ [(x,s5)],bl++ [(x,((rs.drop a).take q).drop f)],Row s5 eB (((rs.drop a).take q).drop f)::F)) (h3:=?_) (k:=?_)
  ·rw[show((a+(q+4)+5:Nat):Int)=((a+5:Nat):Int)+((q+4:Nat):Int)from a8];repeat (first|exact Sub.nil|refine Sub.cons rfl ?_)
  try dsimp only
  refine⟨a8,a8,hB.snoc x s5 _,by rw[Ya];simp only[Yb,Yc];omega,?_⟩
  rw[hI,vJ hx,List.drop_drop,show n - (k+1)=d from a8]
  cases gM d (rs.drop (a+(q+4)))with
  |none=> rfl
  |some r'=> simp[vM]
 obtain rfl:k=n:=a8
 rw[Nat.sub_self,gM,Yo]at hI
 refine gk (k:=wi_ (k:=fun h9=>?_) (m:=fun h9=>?_))
 ·rw[if_neg (a8)]at hI
  refine gk (k:=rt_ Tryz.results50 (k:=?_))
  exact⟨_,hsb, .inl ⟨hI,rfl,5,ag,rfl⟩⟩
 rw[if_pos (a8)]at hI
 refine gk (k:=rt_ Tryz.results50 (k:=?_))
 exact⟨_,hsb, .inr ⟨bl,l,F,sb,by rw[hI];simp[vM],hB,rfl,rfl⟩⟩
theorem I4 {e:Nat}(h:e=2∨e=3):kG e≠0:=by rcases h with rfl|rfl <;> decide
theorem wA {G:cM}{H:cG}{s:SV}{xs:List Nat}{most:Nat} [hs:Sl H s eB xs] (hn:xs.length≤1000000000) (hm:most≤1000000) (hb:∀x∈xs,x<256):SC G Tryz.prog 146 [s.val, .int .i64 0, .int .i64 ((most:Nat):Int)] H (fun v H'=>
 (∃e,dL most xs= .error e∧∃(s':SV) (c:Int),c≠0∧v= .tuple #[s'.val, .int .i64 0, .int .i64 c]∧H'=Row s' eI []::H)∨(∃l m,∃s':SV,dL most xs= .ok (l,m)∧v= .tuple #[s'.val, .int .i64 ((m:Nat):Int), .int .i64 0]∧H'=Row s' eI l::H)):=by
 refine sWk Tryz.func146 Tryz.ntmps146 ?_
 refine go ?_
 refine d3_ rfl (lg (p:=0) (most:=most) (a8) (Yl _) (a8) hb) (k:=?_)
 rw[List.drop_zero]
 rcases hr:ec most xs with e|⟨n,m⟩
 all_goals simp only[Cz,Nat.zero_add]
 ·have hne:=ll (jR hr)
  refine e_ mv (k:=e_ exr (k:=e_ exr (k:=e_ exr (k:=e_ asn (k:=e_ asn (k:=e_ asn (k:=on_ (qn_ (ws_ (ws_ (wr_ (e_ mv (k:=e_ ine (k:=?_))))))))))))))
  refine gk (k:=wi_ (k:=fun h1=>?_) (m:=fun h1=>?_))
  ·refine go ?_
   refine s_ (cZ eI rfl) (k:=?_)
   rintro _ _ ⟨s27,rfl,rfl⟩
   refine gk (k:=rt_ Tryz.results146 (k:=?_))
   exact⟨_,hsb, .inl ⟨e,by rw[dL,hr],s27,_,hne,rfl,rfl⟩⟩
  exact absurd h1 hne
 obtain⟨q1,q2,q3,q4⟩:=dI hb hr
 refine e_ mv (k:=e_ exr (k:=e_ exr (k:=e_ exr (k:=e_ asn (k:=e_ asn (k:=e_ asn (k:=on_ (qn_ (ws_ (ws_ (wr_ (e_ mv (k:=e_ ine (k:=?_))))))))))))))
 refine gk (k:=dw (k:=go ?_))
 refine s_ (cZ eI rfl) (k:=?_)
 rintro _ _ ⟨s30,rfl,rfl⟩
 refine gk (k:=dn (SV×Nat×(List Int)×Nat) (fun y=> m≤y.2.2.2∧y.2.2.2≤xs.length∧y.2.2.1.length≤n∧y.2.1≤9223372036854775808∧iV n (-1) (xs.drop m)=sl y.2.2.1 (y.2.2.2 - m) (iV (n - y.2.2.1.length) (((y.2.1:Nat):Int) - 1) (xs.drop y.2.2.2))) (fun y=> [(10, .int .i64 ((y.2.2.2:Nat):Int)),(12,y.1.val),(13, .int .u64 ((y.2.1:Nat):Int))]) [(0,_),(1,_),(9,_)] (fun y=> [Row y.1 eI y.2.2.1]) _ (fun y=> n - y.2.2.1.length) ((s30,0, [],m)) (h0:=?_) (k:=?_))
 ·try dsimp only
  refine⟨a8,a8,Yl _,a8,?_⟩
  rw[Nat.sub_self,Yc,Nat.sub_zero,show(((0:Nat):Int)) - 1= -1 from rfl]
  cases iV n (-1) (xs.drop m)with
  |ok p=> simp[sl]
  |error e=> rfl
 rintro⟨u,lst,zs,a⟩ ⟨hma,ha,hzl,hls,hI⟩
 try dsimp only[Yd,Ye]at*
 refine gk (k:=wi_ (k:=fun h2=>?_) (m:=fun h2=>?_))
 ·obtain⟨d,hd⟩:∃d,n - zs.length=d+1:=⟨n - zs.length - 1,a8⟩
  rw[hd,iV]at hI
  refine go ?_
  refine d2_ rfl (xX (p:=a) (a8) ha hb) (k:=?_)
  rcases hr2:eY 0 (xs.drop a)with e|⟨v,c⟩
  all_goals rw[hr2]at hI
  all_goals simp only[]at hI
  all_goals simp only[Ks]
  ·have hne:=I4 (mr _ _ _ hr2)
   refine e_ mv (k:=e_ exr (k:=e_ exr (k:=e_ exr (k:=e_ asn (k:=e_ asn (k:=e_ asn (k:=on_ (qn_ (ws_ (ws_ (wr_ (e_ mv (k:=e_ ine (k:=?_))))))))))))))
   refine gk (k:=wi_ (k:=fun h3=>?_) (m:=fun h3=>?_))
   ·refine go ?_
    refine s_ (cZ eI rfl) (k:=?_)
    rintro _ _ ⟨s44,rfl,rfl⟩
    refine gk (k:=rt_ Tryz.results146 (k:=?_))
    exact⟨_,hsb, .inl ⟨e,by rw[dL,hr];simp only[];rw[hI];all_goals rfl,s44,_,hne,rfl,rfl⟩⟩
   exact absurd h3 hne
  obtain⟨p1,p2,p3,p4,p5,_⟩:=gZ _ 0 v c (fun x hx=> hb x (Yp hx)) (a8) hr2
  rw[Yo]at p4
  refine e_ mv (k:=e_ exr (k:=e_ exr (k:=e_ exr (k:=e_ asn (k:=e_ asn (k:=e_ asn (k:=on_ (qn_ (ws_ (ws_ (wr_ (e_ mv (k:=e_ ine (k:=?_))))))))))))))
  refine on_ (qn_ (dw (k:=wk_ (qn_ (ws_ (ws_ (wr_ (e_ mv (k:=e_ igt (k:=e_ mv (k:=dQ 5 54 (k:=fun h4=>eg_ mv (k:=eg_ mv (k:=eg_ (qv 18446744073709551616 rfl rfl rfl rfl 9223372036854775807 _ rfl rfl (a8) (a8)) (k:=eg_ igt (k:=e_ pkf (k:=on_ (edq))))))) (q:=on_ (qn_ (?_))))))))))))))
  refine wi_ (k:=fun h5=>?_) (m:=fun h5=>?_)
  ·refine go ?_
   refine s_ (cZ eI rfl) (k:=?_)
   rintro _ _ ⟨s55,rfl,rfl⟩
   refine gk (k:=rt_ Tryz.results146 (k:=?_))
   exact⟨_,hsb, .inl ⟨4,by rw[dL,hr];simp only[];rw[hI,if_pos (a8)];all_goals rfl,s55,3,ag,rfl,rfl⟩⟩
  refine wk_ (qn_ (ws_ (wr_ (e_ mv (k:=e_ mv (k:=e_ mv (k:=?_)))))))
  refine e_ ((bn)) (k:=?_)
  refine e_ (dS rfl (a8)) (k:=?_)
  refine dD eI (k:=fun s62=>?_)
  refine app (k:=fun s63=>?_)
  refine e_ asn (k:=on_ (qn_ (ws_ (wr_ (e_ mv (k:=e_ mv (k:=?_)))))))
  refine e_ ((bt)) (k:=?_)
  refine e_ ((bn)) (k:=?_)
  refine go ?_
  refine ln_ ((s63,lst+(v+1),zs++ [((lst+v:Nat):Int)],a+c)) (h2:=?_) (k:=?_)
  ·try dsimp only
   simp;omega
  try dsimp only
  refine⟨a8,a8,au,a8,?_⟩
  rw[hI,if_neg (a8),List.drop_drop,show n - (zs++ [((lst+v:Nat):Int)]).length=d from au,show((lst:Nat):Int) - 1+((v:Nat):Int)+1=((lst+v:Nat):Int)from a8,show((lst+(v+1):Nat):Int) - 1=((lst+v:Nat):Int)from a8]
  cases iV d ((lst+v:Nat):Int) (xs.drop (a+c))with
  |error e=> rfl
  |ok p=>
   obtain⟨r,c'⟩:=p
   simp only[sl,Except.ok.injEq,Prod.mk.injEq,Yf,Yd,Ye]
   exact⟨trivial,a8⟩
 have hzn:n - zs.length=0:=a8
 rw[hzn,iV]at hI
 have hR:dL most xs= .ok (zs,a):=by rw[dL,hr];simp only[];rw[hI];simp[sl];omega
 refine go ?_
 refine gk (k:=rt_ Tryz.results146 (k:=?_))
 exact⟨_,hsb, .inr ⟨zs,a,u,hR,rfl,rfl⟩⟩
theorem HC {G:cM}{H:cG}{fv si sb:SV}{fs:List FV}{ids body:List Nat} [hf:Sl H fv eF fs] [hsi:Sl H si eB ids] [hsc:Sl H sb eB body] (hc:e7 fs=true) (hn:ids.length≤100000000) (hm:body.length≤100000000) (hb:∀x∈ids,x<256) (hb2:∀x∈body,x<256):
 SC G Tryz.prog 123 [.agg [fv.val].toArray,si.val,sb.val] H (fun v H'=> (gi fs ids body=none∧∃s':SV,v= .tuple #[s'.val, .bool false]∧H'=H)∨(∃(zs:List DG) (s':SV),gi fs ids body=some (zs.map dgD)∧v= .tuple #[s'.val, .bool true]∧H'=Row s' eD (zs.map dgV)::Cl dgH zs::H)):=by
 obtain⟨hc1,hc2⟩:=eG hc
 refine sWk Tryz.func123 Tryz.ntmps123 ?_
 refine gk (k:=bxx (k:=fun b3=>?_))
 refine go ?_
 refine c3_ rfl (wA (most:=4096) (a8) (a8) hb) (k:=?_)
 rintro _ _ (⟨e,hr,s8,c,hne,rfl,rfl⟩|⟨l,m,s8,hr,rfl,rfl⟩)
 ·have hD:gi fs ids body=none:=by rw[gi,hr]
  refine go ?_
  refine gk (k:=dQ 5 37 (k:=fun h1=>gk (k:=edq)) (q:=gk (k:=wi_ (k:=fun h2=>?_) (m:=fun h2=>?_))))
  ·refine go ?_
   refine s_ (cZ eD rfl) (k:=?_)
   rintro _ _ ⟨s38,rfl,rfl⟩
   refine gk (k:=rt_ Tryz.results123 (k:=?_))
   exact⟨_,hsb, .inl ⟨hD,s38,rfl,rfl⟩⟩
  exact absurd (h2).1 hne
 obtain⟨g1,g2,g3,g4,g5⟩:=gx hb hr
 have hll:l.length≤4096:=by
  rw[dL]at hr
  split at hr
  ·cases hr
  ·rename_i n0 m0 hr0
   split at hr
   ·cases hr
   ·rename_i r0 m1 hr1
    obtain⟨hr2,_⟩:=(by simpa using hr:r0=l∧m0+m1=m)
    obtain⟨k1,_⟩:=dI hb hr0
    obtain⟨k2,_⟩:=lh _ _ _ _ _ (fun x hx=> hb x (Yp hx)) (Int.le_refl _) hr1
    rw[←hr2];omega
 refine go ?_
 refine gk (k:=wi_ (k:=fun h3=>?_) (m:=fun h3=>?_))
 ·have hD:gi fs ids body=none:=by rw[gi,hr];simp only[];rw[if_pos (a8)]
  refine go ?_
  refine s_ (cZ eD rfl) (k:=?_)
  rintro _ _ ⟨s38,rfl,rfl⟩
  refine gk (k:=rt_ Tryz.results123 (k:=?_))
  exact⟨_,hsb, .inl ⟨hD,s38,rfl,rfl⟩⟩
 have hD:gi fs ids body=match gf fs l body with
  |none=> none
  |some (ds,c)=> if c<body.length then none else some ds:=by
  rw[gi,hr];simp only[];rw[if_neg (a8)]
  all_goals (cases gf fs l body <;> rfl)
 refine go ?_
 refine s_ (cZ eD rfl) (k:=?_)
 rintro _ _ ⟨s39,rfl,rfl⟩
 refine e_ asn (k:=on_ (qn_ (ws_ (wr_ (e_ asn (k:=on_ (qn_ (ws_ (ws_ (wr_ (?_)))))))))))
 rw[show Row s39 eD ([]:List (Int×SV))=Row s39 eD (([]:List DG).map dgV)from rfl]
 refine dE (eA (f:=dgH) cK.refl) ?_
 refine gk (k:=dn (Nat×SV×(List DG)×Nat) (fun y=> y.1≤l.length∧y.2.2.2≤body.length∧y.2.2.1.length=y.1∧gf fs l body=lT (y.2.2.1.map dgD) y.2.2.2 (gf fs (l.drop y.1) (body.drop y.2.2.2))) (fun y=> [(9, .int .i64 ((y.2.2.2:Nat):Int)),(11,y.2.1.val),(42, .int .i64 ((y.1:Nat):Int))]) [(2,_),(3,_),(40,_),(41,_)] (fun y=> [Row y.2.1 eD (y.2.2.1.map dgV),Cl dgH y.2.2.1]) (Row s8 eI l::Vr b3 [fv.val]::H) (fun y=> l.length - y.1) ((0,s39, [],0)) (h0:=?_) (k:=?_))
 ·try dsimp only
  exact⟨Yl _,Yl _,rfl,by rw[List.drop_zero,List.drop_zero];exact(sW _).symm⟩
 rintro⟨i,u,zs,a⟩ ⟨hi,ha,hzl,hI⟩
 try dsimp only[Yd,Ye]at*
 refine gk (k:=wi_ (k:=fun h4=>?_) (m:=fun h4=>?_))
 ·obtain⟨d,hdi⟩:∃d,l[i]? =some d:=⟨_,Yi (a8)⟩
  have hzm:(zs.map dgV).length=zs.length:=Yh ..
  rw[dV hdi,gf]at hI
  refine go ?_
  refine go ?_
  refine d3_ rfl (lg (p:=a) (most:=64) (a8) ha (ag) hb2) (k:=?_)
  rcases hr2:ec 64 (body.drop a)with e|⟨n,m2⟩
  all_goals rw[hr2]at hI
  all_goals simp only[]at hI
  all_goals simp only[Cz]
  ·have hne:=ll (jR hr2)
   refine go ?_
   refine gk (k:=wi_ (k:=fun h5=>?_) (m:=fun h5=>?_))
   ·refine go ?_
    refine s_ (cZ eD rfl) (k:=?_)
    rintro _ _ ⟨s55,rfl,rfl⟩
    refine gk (k:=rt_ Tryz.results123 (k:=?_))
    exact⟨_,hsb, .inl ⟨by rw[hD,hI];all_goals rfl,s55,rfl,rfl⟩⟩
   exact absurd h5 hne
  obtain⟨q1,q2,q3,q4⟩:=dI (fun x hx=> hb2 x (Yp hx)) hr2
  rw[Yo]at q2
  rw[List.drop_drop]at hI
  refine go ?_
  refine gk (k:=dw (k:=go ?_))
  refine e_ (bld [(0,_)]) (k:=alc (k:=fun b17=>?_))
  refine gk (k:=dn (SV×(List Val)×Nat) (fun y=> y.2.2≤body.length∧a+m2≤y.2.2∧y.2.1.length≤n∧gK fs n (body.drop (a+m2))=lT y.2.1 (y.2.2 - (a+m2)) (gK fs (n - y.2.1.length) (body.drop y.2.2))) (fun y=> [(9, .int .i64 ((y.2.2:Nat):Int))]) [(2,_),(3,_),(11,_),(14,_),(17,_),(40,_),(41,_),(42,_)] (fun y=> [Vr b17 [.int .i64 d,y.1.val],Row y.1 eVl y.2.1]) (Row u eD (zs.map dgV)::Cl dgH zs::Row s8 eI l::Vr b3 [fv.val]::H) (fun y=> n - y.2.1.length) ((SV.nil, [],a+m2)) (h0:=?_) (k:=?_))
  ·try dsimp only
   exact⟨a8,Nat.le_refl _,Yl _,by rw[Nat.sub_self,Yc,Nat.sub_zero];exact(sW _).symm⟩
  rintro⟨sv,vs,e⟩ ⟨he,hae,hvl,hV⟩
  try dsimp only[Yd,Ye]at*
  refine go ?_
  refine gk (k:=wi_ (k:=fun h6=>?_) (m:=fun h6=>?_))
  ·obtain⟨k,hk⟩:∃k,n - vs.length=k+1:=⟨n - vs.length - 1,a8⟩
   rw[hk,gK]at hV
   refine wk_ (qn_ (wb_ (ws_ (wr_ (e_ mv (k:=e_ mv (k:=e_ fla (k:=e_ ldv (k:=e_ lnn (k:=?_))))))))))
   refine e_ (evq isb (congrArg (Value.int .i64) (by omega:((fs.length:Nat):Int) - 1=((fs.length - 1:Nat):Int)))) (k:=?_)
   refine d3_ rfl (lg (p:=e) (most:=fs.length - 1) (a8) he (a8) hb2) (k:=?_)
   rcases hr3:ec (fs.length - 1) (body.drop e)with e9|⟨f,m3⟩
   all_goals rw[hr3]at hV
   all_goals simp only[]at hV
   all_goals simp only[Cz]
   ·have hne:=ll (jR hr3)
    refine go ?_
    refine gk (k:=wi_ (k:=fun h7=>?_) (m:=fun h7=>?_))
    ·refine go ?_
     refine s_ (cZ eD rfl) (k:=?_)
     rintro _ _ ⟨s77,rfl,rfl⟩
     refine go ?_
     refine gk (k:=rt_ Tryz.results123 (k:=?_))
     exact⟨_,hsb, .inl ⟨by rw[hD,hI,hV];all_goals rfl,s77,rfl,rfl⟩⟩
    exact absurd h7 hne
   obtain⟨p1,p2,p3,p4⟩:=dI (fun x hx=> hb2 x (Yp hx)) hr3
   rw[Yo]at p2
   rw[List.drop_drop]at hV
   refine go ?_
   refine gk (k:=dw (k:=go ?_))
   refine d3_ rfl (tJ (p:=e+m3) (most:=4096) (a8) (a8) (ag) hb2) (k:=?_)
   rcases hr4:hX 4096 (body.drop (e+m3))with e9|⟨q,m4⟩
   all_goals rw[hr4]at hV
   all_goals simp only[]at hV
   all_goals simp only[Kr]
   ·have hne:=ll (tN hr4)
    refine go ?_
    refine gk (k:=wi_ (k:=fun h8=>?_) (m:=fun h8=>?_))
    ·refine go ?_
     refine s_ (cZ eD rfl) (k:=?_)
     rintro _ _ ⟨s87,rfl,rfl⟩
     refine go ?_
     refine gk (k:=rt_ Tryz.results123 (k:=?_))
     exact⟨_,hsb, .inl ⟨by rw[hD,hI,hV];all_goals rfl,s87,rfl,rfl⟩⟩
    exact absurd h8 hne
   obtain⟨r1,r2,r3,r4⟩:=jm (fun x hx=> hb2 x (Yp hx)) hr4
   rw[Yo]at r1
   obtain⟨fp,hfp⟩:∃fp,fs[f]? =some fp:=⟨_,Yi (a8)⟩
   rw[List.drop_drop,hfp]at hV
   refine go ?_
   refine gk (k:=dw (k:=go ?_))
   refine di cL (fun i=> [10,11,13].contains i) (fun k H=> (k=1→dh H b17 [.int .i64 d,sv.val])∧(k=3→dh H b3 [fv.val])∧(k=5→Sl H fv eF fs)∧(k=6→Sl H fv eF fs)∧(k=7→Sl H fv eF fs)) (af_ 0 (q:=cE fun H hH=>fla) (k:=?_))
   refine cH 1 rfl rfl (aa) rfl (cE fun H hH=>aD) (?_)
   refine af_ 2 (q:=cE fun H hH=>fla) (k:=?_)
   refine cH 3 rfl rfl (aa) rfl (cE fun H hH=>aO) (?_)
   refine af_ 4 (q:=cE fun H hH=>mv) (k:=?_)
   refine cH 5 rfl rfl (aa) rfl (cE fun H hH=>by have hN:=hH.2.2.1 rfl;exact ixa) (?_)
   refine cH 6 rfl rfl (aa) rfl (cE fun H hH=>by have hN:=hH.2.2.2.1 rfl;exact fle) (?_)
   refine cH 7 rfl rfl (aa) rfl (cE fun H hH=>by have hN:=hH.2.2.2.2 rfl;exact lfl) (?_)
   refine af_ 8 (q:=cE fun H hH=>mv) (k:=af_ 9 (q:=cE fun H hH=>bld [(0,_),(1,_)]) (k:=?_))
   refine cQ 10 rfl (aa) rfl (fun k hk=> ⟨fun hi=> ab,fun hi=> ab,fun hi=> ab,fun hi=> ab,fun hi=> ab⟩) (dW eVl rfl rfl) ?_
   rintro _ _ ⟨s99,rfl,rfl⟩
   refine cQ 11 rfl (aa) rfl (fun k hk=> ⟨fun hi=> ab,fun hi=> ab,fun hi=> ab,fun hi=> ab,fun hi=> ab⟩) (ek rfl rfl rfl rfl (af) (af)) ?_
   rintro _ _ ⟨s100,rfl,rfl⟩
   refine af_ 12 (q:=cE fun H hH=>fla) (k:=?_)
   refine cQ 13 rfl (aa) rfl (fun k hk=> ⟨fun hi=> absurd hk (ad),fun hi=> ab,fun hi=> ab,fun hi=> ab,fun hi=> ab⟩) (dk rfl rfl rfl) ?_
   rintro _ _ ⟨rfl,rfl⟩
   refine db (aa) (fun k hk=> ⟨fun hi=> absurd hk (ad),fun hi=> absurd hk (ad),fun hi=> absurd hk (ad),fun hi=> absurd hk (ad),fun hi=> absurd hk (ad)⟩) (go ?_)
   refine ln_ ((s100,vs++ [(fp.name,dO q)],e+m3+m4)) (h2:=?_) (k:=?_)
   ·try dsimp only
    simp;omega
   try dsimp only
   refine⟨a8,a8,au,?_⟩
   rw[hV,show n - (vs++ [(fp.name,dO q)]).length=k from au,show e+m3+m4 - (a+m2)=e - (a+m2)+(m3+m4)from a8,Nat.add_assoc e m3 m4]
   cases gK fs k (body.drop (e+(m3+m4)))with
   |none=> rfl
   |some p=> simp only[lT,Yf,Yd,Ye,Option.map_some,Option.getD_some,Nat.add_assoc]
  have hkn:n - vs.length=0:=a8
  rw[hkn,gK]at hV
  have hV2:gK fs n (body.drop (a+m2))=some (vs,e - (a+m2)):=by rw[hV];simp[lT]
  rw[hV2]at hI
  simp only[]at hI
  refine gk (k:=dD eD (k:=fun s104=>?_))
  refine app (k:=fun s105=>?_)
  rw[show zs.map dgV++ [(d,sv)]=(zs++ [(⟨d,sv,vs⟩:DG)]).map dgV from by simp[dgV]]
  refine dE (cK.trans (H':=Row sv eVl vs::Cl dgH zs::Row s105 eD ((zs++ [(⟨d,sv,vs⟩:DG)]).map dgV)::Row s8 eI l::Vr b3 [fv.val]::H) (hsb) (BE ⟨d,sv,vs⟩)) ?_
  refine go ?_
  refine ln_ ((i+1,s105,zs++ [⟨d,sv,vs⟩],e)) (k:=?_)
  try dsimp only
  refine⟨a8,he,au,?_⟩
  rw[hI,show(zs++ [(⟨d,sv,vs⟩:DG)]).map dgD=zs.map dgD++ [(d,vs)]from by simp[dgD],List.drop_drop,show m2+(e - (a+m2))=e - a from a8,show a+(e - a)=e from a8]
  cases gf fs (l.drop (i+1)) (body.drop e)with
  |none=> rfl
  |some p=> simp only[lT,Yf,Yd,Ye,Option.some.injEq,Prod.mk.injEq,true_and];omega
 have hii:i=l.length:=a8
 rw[hii,List.drop_length,gf]at hI
 have hD2:gi fs ids body=if a<body.length then none else some (zs.map dgD):=by rw[hD,hI];simp[lT]
 refine go ?_
 refine gk (k:=rt_ Tryz.results123 (k:=?_))
 by_cases hal:a<body.length
 ·rw[if_pos hal]at hD2
  exact⟨_,hsb, .inl ⟨hD2,u,by rw[show decide (((a:Nat):Int)=((body.length:Nat):Int))=false from Yr (a8)];all_goals rfl,rfl⟩⟩
 ·rw[if_neg hal]at hD2
  exact⟨_,hsb, .inr ⟨zs,u,hD2,by rw[show decide (((a:Nat):Int)=((body.length:Nat):Int))=true from Ys (a8)];all_goals rfl,rfl⟩⟩
end Go.Sx
