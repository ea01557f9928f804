import Derived.Test.YtcbidldebfibkaaGreatDoorQ11
set_option linter.unusedVariables false
set_option linter.unusedSimpArgs false
set_option linter.unusedSectionVars false
set_option linter.unnecessarySimpa false
set_option maxHeartbeats 0
namespace Go.Sx
open Go Go.Proofs
set_option maxRecDepth 100000
def mkF (q:List Nat) (k:Nat):FV:=⟨dO q,((k &&& 3:Nat):Int),decide (((k &&& 4:Nat):Int)≠0),decide (((k &&& 8:Nat):Int)≠0),decide (((k &&& 16:Nat):Int)≠0)⟩
def lj:Nat→Bool→List Nat→Option (List FV×Bool×Nat)
 | 0,odd,_=> some ([],odd,0)
 |n+1,odd,l=>
  match hX 32 l with
  | .error _=> none
  | .ok (q,m)=>
   match l[m]? with
   |none=> none
   |some k=>
    match lj n (odd ||decide (31<k)) (l.drop (m+1))with
    |none=> none
    |some (r,o,c)=> some (mkF q k::r,o,m+1+c)
def rdS (l:List Nat):Option (List FV):=
 match ec 16 l with
 | .error _=> none
 | .ok (n,m)=>
  match lj n false (l.drop m)with
  |none=> none
  |some (fs,odd,c)=> if m+c<l.length∨odd=true then none else some fs
def nu (fs:List FV) (a:Nat):Option (List FV×Bool×Nat)→Option (List FV×Bool×Nat)
 |none=> none
 |some (r,o,c)=> some (fs++r,o,a+c)
theorem jm {most:Nat}{l q:List Nat}{m:Nat}(hb:∀x∈l,x<256) (h:hX most l= .ok (q,m)):m≤l.length∧q.length≤most∧(∀x∈q,x<256)∧l.take m=uv q.length++q:=by
 unfold hX at h
 split at h
 ·cases h
 ·rename_i n m' hr
  obtain⟨h1,h2,h3,h4⟩:=dI hb hr
  split at h
  ·cases h
  ·simp only[Except.ok.injEq,Prod.mk.injEq]at h
   obtain⟨rfl,rfl⟩:=h
   have hl:((l.drop m').take n).length=n:=by rw[Yg,Yo];omega
   refine⟨a8,a8,fun x hx=> hb x (Yp (Yq hx)),?_⟩
   rw[hl,←h3,List.take_add]
theorem px:∀(n:Nat) (odd:Bool) (l:List Nat) (fs:List FV) (o:Bool) (c:Nat),(∀x∈l,x<256)→lj n odd l=some (fs,o,c)→fs.length=n∧∀f∈fs,f.name.size≤32
 | 0,odd,l,fs,o,c,hb,h=> by
  simp only[lj,Option.some.injEq,Prod.mk.injEq]at h
  obtain⟨rfl,_,_⟩:=h
  exact⟨rfl,fun f hf=> by cases hf⟩
 |n+1,odd,l,fs,o,c,hb,h=> by
  rw[lj]at h
  split at h
  ·cases h
  ·rename_i q m hr
   obtain⟨p1,p2,p3,p4⟩:=jm hb hr
   split at h
   ·cases h
   ·split at h
    ·cases h
    ·rename_i r o' c' hrr
     simp only[Option.some.injEq,Prod.mk.injEq]at h
     obtain⟨rfl,_,_⟩:=h
     obtain⟨q1,q2⟩:=px n _ _ r o' c' (fun y hy=> hb y (Yp hy)) hrr
     refine⟨by simp[q1],fun f hf=> ?_⟩
     rcases List.mem_cons.1 hf with rfl|hf
     ·simp only[mkF,fg];exact p2
     ·exact q2 f hf
theorem vo {l:List Nat}{fs:List FV}(hb:∀x∈l,x<256) (h:rdS l=some fs):fs.length≤16∧∀f∈fs,f.name.size≤32:=by
 rw[rdS]at h
 split at h
 ·cases h
 ·rename_i n m hu
  obtain⟨u1,u2,u3,u4⟩:=dI hb hu
  split at h
  ·cases h
  ·rename_i g odd c hf
   split at h
   ·cases h
   ·simp only[Option.some.injEq]at h
    subst h
    obtain⟨q1,q2⟩:=px n _ _ g odd c (fun y hy=> hb y (Yp hy)) hf
    exact⟨a8,q2⟩
def kI (l:List Nat):Option (List FV):=
 match rdS l with
 |none=> none
 |some fs=> if e7 fs=true then some fs else none
section
variable {G:cM}{P:Program}{t:Tm}{H:cG}{dst:Option Tmp}{ty:TypeId}{pos:String}{after:Array Edge}{g:Option (Nat×Bool)}
theorem qw {a b c:Operand}{p q:Bool}(hc:evo t c=some (.bool true)) (hp:p=true) (ha:evo t a=some (.bool true)):Ev G P ⟨dst, .pick c a b,ty,pos,after,g⟩ t H (.bool (p ||q)):=by
 rw[hp,Bool.true_or];exact oA hc ha
theorem qx {a b c:Operand}{p q:Bool}(hc:evo t c=some (.bool false)) (hp:p=false) (hb:evo t b=some (.bool q)):Ev G P ⟨dst, .pick c a b,ty,pos,after,g⟩ t H (.bool (p ||q)):=by
 rw[hp,Bool.false_or];exact oB hc hb
end
theorem Hn {G:cM}{H R:cG}{b:Nat}{xs:List Nat} [hg:Glb G R] [hr:Rem H Rd b (xs,0) R] (hn:xs.length≤1000000000) (hb:∀x∈xs,x<256):SC G Tryz.prog 84 [.pointer (some ⟨b,0,none⟩)] H (fun v H'=>
 (rdS xs=none∧H'=R∧∃(s':SV) (e:Nat),v= .tuple #[.agg [s'.val].toArray,G.err e])∨(∃fs,∃s':SV,rdS xs=some fs∧v= .tuple #[.agg [s'.val].toArray, .nilIface]∧H'=Row s' eF fs::R)):=by
 refine SC.rem (h:=hr) ?_
 refine sWk Tryz.func84 Tryz.ntmps84 ?_
 refine gk (k:=alc (k:=fun b1=>?_))
 refine gk (k:=alc (k:=fun b2=>?_))
 refine go ?_
 refine c2_ rfl (tR (most:=16) (Yl _) (a8) hb (a8)) (k:=?_)
 rintro v1 H1 hK
 rw[List.drop_zero]at hK
 rcases hK with⟨e,he,rfl,rfl⟩|⟨n,m,he,rfl,rfl⟩
 ·refine e_ mv (k:=e_ exr (k:=e_ exr (k:=e_ asn (k:=e_ asn (k:=on_ (qn_ (ws_ (ws_ (wr_ (e_ mv (k:=?_)))))))))))
  refine e_ (cR rfl) (k:=?_)
  refine gk (k:=ift (k:=gk (k:=rt_ Tryz.results84 (k:=?_))))
  exact⟨_,hsb, .inl ⟨by rw[rdS,he],rfl,SV.nil,e,rfl⟩⟩
 rw[Nat.zero_add m]
 obtain⟨q1,q2,q3,q4⟩:=dI hb he
 refine e_ mv (k:=e_ exr (k:=e_ exr (k:=e_ asn (k:=e_ asn (k:=on_ (qn_ (ws_ (ws_ (wr_ (e_ mv (k:=?_)))))))))))
 refine e_ (cN rfl) (k:=?_)
 refine gk (k:=dw (k:=go ?_))
 refine gk (k:=wl_ (SV×Nat×Bool×List FV×Nat) (fun y=> y.2.1≤n∧m+y.2.2.2.2≤xs.length∧y.2.2.2.1.length=y.2.1∧lj n false (xs.drop m)=nu y.2.2.2.1 y.2.2.2.2 (lj (n - y.2.1) y.2.2.1 (xs.drop (m+y.2.2.2.2)))) (fun y=> [(0, .pointer (some ⟨b,0,none⟩)),(2, .pointer (some ⟨b1,0,none⟩)),(4, .pointer (some ⟨b2,0,none⟩)),(7, .bool y.2.2.1),(21, .int .i64 ((n:Nat):Int)),(22, .int .i64 ((y.2.1:Nat):Int))]) (fun y=> Vr b2 [y.1.val]::Row y.1 eF y.2.2.2.1::Rd b (xs,m+y.2.2.2.2)::Vr b1 [SV.nil.val]::R) (fun y=> n - y.2.1) ((SV.nil,0,false, [],0)) (h0:=?_) (k:=?_))
 ·try dsimp only
  refine⟨Yl _,a8,rfl,?_⟩
  rw[Nat.add_zero,Nat.sub_zero]
  cases lj n false (xs.drop m)with
  |none=> rfl
  |some p=> simp[nu]
 rintro⟨s,j,odd,fs,a⟩ ⟨hj,ha,hfl,hI⟩
 try dsimp only at*
 refine gk (k:=wi_ (k:=fun h1=>?_) (m:=fun h1=>?_))
 ·obtain⟨d,hd⟩:∃d,n - j=d+1:=⟨n - j - 1,a8⟩
  rw[hd,lj]at hI
  refine go ?_
  refine c2_ rfl (Ee (most:=32) ha (a8) hb (a8)) (k:=?_)
  rintro v1 H1 hK
  rcases hK with⟨e,he2,rfl,rfl⟩|⟨q,c,he2,rfl,rfl⟩
  all_goals rw[he2]at hI
  all_goals simp only[]at hI
  ·refine e_ mv (k:=e_ exr (k:=e_ exr (k:=e_ asn (k:=e_ asn (k:=on_ (qn_ (ws_ (ws_ (wr_ (e_ mv (k:=?_)))))))))))
   refine e_ (cR rfl) (k:=?_)
   refine gk (k:=ift (k:=go ?_))
   refine gk (k:=rt_ Tryz.results84 (k:=?_))
   exact⟨_,hsb, .inl ⟨by rw[rdS,he];simp only[];rw[hI];rfl,rfl,s,e,rfl⟩⟩
  obtain⟨p1,p2,p3,p4⟩:=jm (fun x hx=> hb x (Yp hx)) he2
  rw[Yo]at p1
  rw[Xh]at hI
  refine e_ mv (k:=e_ exr (k:=e_ exr (k:=e_ asn (k:=e_ asn (k:=on_ (qn_ (ws_ (ws_ (wr_ (e_ mv (k:=?_)))))))))))
  refine e_ (cN rfl) (k:=?_)
  refine gk (k:=dw (k:=go ?_))
  refine c1_ rfl (Md (a8) (a8)) (k:=?_)
  rintro v1 H1 hK
  rcases hK with⟨he3,rfl,rfl⟩|⟨x,he3,rfl,rfl⟩
  ·rw[List.getElem?_eq_none (a8)]at hI
   refine e_ mv (k:=e_ exr (k:=e_ exr (k:=e_ asn (k:=e_ asn (k:=on_ (qn_ (ws_ (ws_ (wr_ (e_ mv (k:=?_)))))))))))
   refine e_ (cR rfl) (k:=?_)
   refine gk (k:=ift (k:=go ?_))
   refine gk (k:=rt_ Tryz.results84 (k:=?_))
   exact⟨_,hsb, .inl ⟨by rw[rdS,he];simp only[];rw[hI];rfl,rfl,s,_,rfl⟩⟩
  rw[he3]at hI
  simp only[List.drop_drop]at hI
  have hxb:=hb x (Yj he3)
  have hxl:=(Yk.1 he3).1
  have ha3:x &&& 3≤3:=Nat.and_le_right
  have ha4:x &&& 4≤4:=Nat.and_le_right
  have ha8:x &&& 8≤8:=Nat.and_le_right
  have ha16:x &&& 16≤16:=Nat.and_le_right
  have hdec:decide ((31:Int)<((x:Nat):Int))=decide (31<x):=by rw[decide_eq_decide];omega
  refine e_ mv (k:=e_ exr (k:=e_ exr (k:=e_ asn (k:=e_ asn (k:=on_ (qn_ (ws_ (ws_ (wr_ (e_ mv (k:=?_)))))))))))
  refine e_ (cN rfl) (k:=?_)
  refine gk (k:=dw (k:=wk_ (qn_ (ws_ (wr_ (e_ mv (k:=sr_ (mv) (k:=fun h2=>?_) (m:=fun h2=>?_))))))))
  ·have ho:odd=true:=h2
   refine of_ (k:=of_ (k:=?_))
   refine e_ ((bD)) (k:=?_)
   refine e_ asn (k:=on_ (qn_ (wr_ (?_))))
   try rw[hdec]
   refine e_ fla (k:=e_ ldv (k:=e_ mv (k:=e_ mv (k:=?_))))
   refine e_ (fV 256 rfl rfl rfl rfl _ 3 rfl rfl (ai) (ai)) (k:=?_)
   refine e_ (dS rfl (a8)) (k:=?_)
   refine e_ mv (k:=?_)
   refine e_ (fV 256 rfl rfl rfl rfl _ 4 rfl rfl (ai) (ai)) (k:=?_)
   refine e_ ine (k:=e_ mv (k:=?_))
   refine e_ (fV 256 rfl rfl rfl rfl _ 8 rfl rfl (ai) (ai)) (k:=?_)
   refine e_ ine (k:=e_ mv (k:=?_))
   refine e_ (fV 256 rfl rfl rfl rfl _ 16 rfl rfl (ai) (ai)) (k:=?_)
   refine e_ ine (k:=e_ (bld [(0,_),(1,_),(2,_),(3,_),(4,_)]) (k:=dD eF (k:=fun sx=>?_)))
   refine app (hlim:=by first|omega|(simp;omega)) (hlim2:=by first|omega|(simp;omega)) (k:=fun sy=>?_)
   refine go ?_
   refine ln_ ((sy,j+1,odd ||decide (31<x),fs++ [mkF q x],a+(c+1))) (h4:=?_) (k:=?_)
   ·try dsimp only
    rw[show m+(a+(c+1))=m+a+c+1 from a8]
    exact hsb
   try dsimp only
   refine⟨a8,a8,au,?_⟩
   rw[hI,show n - (j+1)=d from a8,show m+(a+(c+1))=m+a+(c+1)from a8]
   cases lj d (odd ||decide (31<x)) (xs.drop (m+a+(c+1)))with
   |none=> rfl
   |some p=> simp[nu];omega
  have ho:odd=false:=h2
  refine eg_ mv (k:=eg_ igt (k:=?_))
  refine e_ ((bD)) (k:=?_)
  refine e_ asn (k:=on_ (qn_ (wr_ (?_))))
  try rw[hdec]
  refine e_ fla (k:=e_ ldv (k:=e_ mv (k:=e_ mv (k:=?_))))
  refine e_ (fV 256 rfl rfl rfl rfl _ 3 rfl rfl (ai) (ai)) (k:=?_)
  refine e_ (dS rfl (a8)) (k:=?_)
  refine e_ mv (k:=?_)
  refine e_ (fV 256 rfl rfl rfl rfl _ 4 rfl rfl (ai) (ai)) (k:=?_)
  refine e_ ine (k:=e_ mv (k:=?_))
  refine e_ (fV 256 rfl rfl rfl rfl _ 8 rfl rfl (ai) (ai)) (k:=?_)
  refine e_ ine (k:=e_ mv (k:=?_))
  refine e_ (fV 256 rfl rfl rfl rfl _ 16 rfl rfl (ai) (ai)) (k:=?_)
  refine e_ ine (k:=e_ (bld [(0,_),(1,_),(2,_),(3,_),(4,_)]) (k:=dD eF (k:=fun sx=>?_)))
  refine app (hlim:=by first|omega|(simp;omega)) (hlim2:=by first|omega|(simp;omega)) (k:=fun sy=>?_)
  refine go ?_
  refine ln_ ((sy,j+1,odd ||decide (31<x),fs++ [mkF q x],a+(c+1))) (h4:=?_) (k:=?_)
  ·try dsimp only
   rw[show m+(a+(c+1))=m+a+c+1 from a8]
   exact hsb
  try dsimp only
  refine⟨a8,a8,au,?_⟩
  rw[hI,show n - (j+1)=d from a8,show m+(a+(c+1))=m+a+(c+1)from a8]
  cases lj d (odd ||decide (31<x)) (xs.drop (m+a+(c+1)))with
  |none=> rfl
  |some p=> simp[nu];omega
 obtain rfl:j=n:=a8
 rw[Nat.sub_self,lj]at hI
 refine go ?_
 refine c1_ rfl (mj (a8)) (k:=?_)
 rintro v1 H1 ⟨rfl,hK⟩
 rcases hK with⟨hlt,rfl⟩|⟨heq,rfl⟩
 ·refine e_ asn (k:=on_ (qn_ (ws_ (wr_ (e_ mv (k:=?_))))))
  refine e_ (cR rfl) (k:=?_)
  refine gk (k:=ift (k:=gk (k:=rt_ Tryz.results84 (k:=?_))))
  exact⟨_,hsb, .inl ⟨by rw[rdS,he];simp only[];rw[hI];simp only[nu,Ym,Nat.add_zero];rw[if_pos (.inl hlt)],rfl,s,_,rfl⟩⟩
 refine e_ asn (k:=on_ (qn_ (ws_ (wr_ (e_ mv (k:=?_))))))
 refine e_ (cN rfl) (k:=?_)
 refine gk (k:=dw (k:=gk (k:=wi_ (k:=fun h3=>?_) (m:=fun h3=>?_))))
 ·refine go ?_
  refine di cL (fun i=> [2].contains i) (fun k H=> (k=0→dh H b2 [s.val])∧(k=1→dh H 0 [G.err 0])) (?_)
  refine cH 0 rfl rfl (aa) rfl (cE fun H hH=>aF) (?_)
  refine cH 1 rfl rfl (aa) rfl (cE fun H hH=>aK) (?_)
  refine cQ 2 rfl (aa) rfl (fun k hk=> ⟨fun hi=> ab,fun hi=> ab⟩) (dk rfl rfl rfl) ?_
  rintro _ _ ⟨rfl,rfl⟩
  refine af_ 3 (q:=cE fun H hH=>asn) (k:=db (aa) (fun k hk=> ⟨fun hi=> absurd hk (ad),fun hi=> ab⟩) (gk (k:=rt_ Tryz.results84 (k:=?_))))
  exact⟨_,hsb, .inl ⟨by rw[rdS,he];simp only[];rw[hI];simp only[nu,Ym,Nat.add_zero];rw[if_pos (.inr (ay))],rfl,s,_,rfl⟩⟩
 refine gk (k:=rt_ Tryz.results84 (k:=?_))
 refine⟨_,hsb, .inr ⟨fs,s,?_,rfl,rfl⟩⟩
 rw[rdS,he];simp only[];rw[hI];simp only[nu,Ym,Nat.add_zero]
 rw[if_neg (by rintro(h|h)
               ·omega
               ·simp_all)]
theorem Hq {G:cM}{H:cG}{s:SV}{xs:List Nat} [hg:Glb G H] [hs:Sl H s eB xs] (hn:xs.length≤1000000000) (hb:∀x∈xs,x<256):SC G Tryz.prog 44 [s.val] H (fun v H'=>
 (kI xs=none∧H'=H∧∃(s':SV) (e:Nat),v= .tuple #[.agg [s'.val].toArray,G.err e])∨(∃fs,∃s':SV,kI xs=some fs∧v= .tuple #[.agg [s'.val].toArray, .nilIface]∧H'=Row s' eF fs::H)):=by
 refine sWk Tryz.func44 Tryz.ntmps44 ?_
 refine gk (k:=alc (k:=fun b1=>?_))
 refine go ?_
 refine c1_ rfl (jo (a8)) (k:=?_)
 rintro _ _ ⟨br,rfl,rfl⟩
 refine c1_ rfl (Hn hn hb) (k:=?_)
 rintro v1 H1 hK
 rcases hK with⟨he,rfl,s2,e,rfl⟩|⟨fs,s2,he,rfl,rfl⟩
 ·refine gk (k:=alc (k:=fun b2=>?_))
  refine sto (k:=e_ asn (k:=on_ (qn_ (ws_ (ws_ (wr_ (e_ mv (k:=?_))))))))
  refine e_ (gR rfl) (k:=?_)
  refine gk (k:=dw (k:=go ?_))
  refine e_ (cR rfl) (k:=?_)
  refine gk (k:=ift (k:=ws_ (wr_ (e_ (bld []) (k:=gk (k:=rt_ Tryz.results44 (k:=?_)))))))
  exact⟨_,hsb, .inl ⟨by rw[kI,he],rfl,SV.nil,e,rfl⟩⟩
 obtain⟨k1,k2⟩:=vo hb he
 refine gk (k:=alc (k:=fun b3=>?_))
 refine sto (k:=e_ asn (k:=on_ (qn_ (ws_ (ws_ (wr_ (e_ mv (k:=?_))))))))
 refine e_ (gS rfl) (k:=?_)
 refine gk (k:=ift (k:=go ?_))
 refine c1_ rfl (po (a8) (fun f hf=> by have:=k2 f hf;omega)) (k:=?_)
 rintro v1 H1 ⟨rfl,hK⟩
 rcases hK with⟨hc,rfl⟩|⟨hc,rfl⟩
 ·refine e_ asn (k:=on_ (qn_ (ws_ (ws_ (wr_ (e_ mv (k:=?_)))))))
  refine e_ (cR rfl) (k:=?_)
  refine gk (k:=ift (k:=ws_ (wr_ (e_ (bld []) (k:=gk (k:=rt_ Tryz.results44 (k:=?_)))))))
  exact⟨_,hsb, .inl ⟨by rw[kI,he];simp only[hc];rfl,rfl,SV.nil,0,rfl⟩⟩
 refine e_ asn (k:=on_ (qn_ (ws_ (ws_ (wr_ (e_ mv (k:=?_)))))))
 refine e_ (cN rfl) (k:=?_)
 refine gk (k:=dw (k:=gk (k:=rt_ Tryz.results44 (k:=?_))))
 exact⟨_,hsb, .inr ⟨fs,s2,by rw[kI,he];simp only[hc];rfl,rfl,rfl⟩⟩
theorem lK (n:Nat):(w32 n).length=4:=rfl
theorem su (l:List (Nat×List Nat)) (q:Nat×List Nat):da (l++ [q])=da l++fK q.1 q.2:=bu
theorem rB:∀(l:List (Nat×List Nat)) (i:Nat),(da (l.take i)).length≤(da l).length
 | [],i=> aj
 |q::l,0=> bu
 |q::l,i+1=> by
  have:=rB l i
  simp only[da,List.take_succ_cons,List.flatMap_cons,Ya]at this⊢
  omega
theorem qI {l:List (Nat×List Nat)}{q:Nat×List Nat}(h:q∈l):q.2.length≤(da l).length:=by
 induction l with
 |nil=> cases h
 |cons a l ih=>
  simp only[da,List.flatMap_cons,Ya]at ih⊢
  rcases List.mem_cons.1 h with rfl|h
  ·simp only[fK,k7,Ya];omega
  ·have:=ih h;omega
theorem Jt {G:cM}{H:cG}{s:SV}{l:List (Nat×SV)}{bl:List (Nat×List Nat)} [hg:Glb G H] [Tab H 26 ig] [Tab H 24 fF] [Sl H s eK l] (kind:Nat) (hk0:kind≠0) (hk:kind<256) (hB:kL H l bl) (ht:∀q∈bl,0<q.1∧q.1<256∧∀x∈q.2,x<256) (hn:(da bl).length≤1000000000) (hm:bl.length≤1000000000):SC G Tryz.prog 40 [.int .u8 ((kind:Nat):Int),s.val] H (fun v H'=> ∃s':SV,v= .tuple #[s'.val, .nilIface]∧H'=Row s' eB (jW kind bl)::H):=by
 obtain⟨hlen,hbod⟩:=hB
 have hul:=dc (n:=bl.length) (a8)
 have hql:(kQ kind bl).length≤10000000000:=by simp only[kQ,Ya,Yb,Yc];omega
 refine sWk Tryz.func40 Tryz.ntmps40 ?_
 refine gk (k:=wi_ (k:=fun h1=>?_) (m:=fun h1=>?_))
 ·exfalso;omega
 refine go ?_
 refine c0_ rfl (fC) (k:=?_)
 rintro _ _ ⟨b1,rfl,rfl⟩
 refine go ?_
 refine s_ (ve eB rfl rfl rfl rfl rfl) (k:=?_)
 rintro _ _ ⟨s1,rfl,rfl⟩
 refine s_ (xG rfl (aj)) (k:=?_)
 rintro _ _ ⟨rfl,rfl⟩
 refine d2_ rfl (zn (aj) (aj)) (k:=go ?_)
 refine d2_ rfl (nE kind (aj)) (k:=on_ (qn_ (ws_ (wr_ (e_ mv (k:=e_ mv (k:=e_ lnn (k:=?_))))))))
 refine e_ (cS 18446744073709551616 rfl rfl rfl bl.length (a8) (a8)) (k:=?_)
 refine d2_ rfl (eC bl.length (a8) (aj)) (k:=gk (k:=wl_ (Nat×List Nat) (fun y=> y.1≤bl.length∧y.2= [99,110,99,100]++ [kind]++uv bl.length++da (bl.take y.1)) (fun y=> [(6, .pointer (some ⟨b1,0,none⟩)),(27,s.val),(28, .int .i64 ((bl.length:Nat):Int)),(29, .int .i64 ((y.1:Nat):Int))]) (fun y=> Wr b1 y.2::H) (fun y=> bl.length - y.1) ((0, [99,110,99,100]++ [kind]++uv bl.length)) (hs:=?_) (h0:=?_) (k:=?_)))
 ·rw[hlen]
  repeat (first|exact Sub.nil|refine Sub.cons rfl ?_)
 ·try dsimp only
  exact⟨Yl _,bu⟩
 rintro⟨i,zs⟩ ⟨hi,hI⟩
 try dsimp only at*
 have hzl:zs.length≤10000000000:=by
  have:=rB bl i
  rw[hI];simp only[Ya,Yb,Yc];omega
 refine go ?_
 refine gk (k:=wi_ (k:=fun h2=>?_) (m:=fun h2=>?_))
 ·obtain⟨p,hp⟩:∃p,l[i]? =some p:=⟨_,Yi (a8)⟩
  obtain⟨q,hq⟩:∃q,bl[i]? =some q:=⟨_,Yi (a8)⟩
  obtain⟨hpq,hS⟩:=hbod i p q hp hq
  obtain⟨ht1,ht2,ht3⟩:=ht q (Yj hq)
  have hbl:=qI (Yj hq)
  have hel:(fK q.1 q.2).length≤10000000000:=by
   have hu:=dc (n:=q.2.length) (a8)
   simp only[fK,k7,Ya,Yb,Yc,lK];omega
  refine gk (k:=alc (k:=fun b1=>?_))
  refine go ?_
  refine c2_ rfl (Iu p.1 (a8) (a8) ht3 (a8)) (k:=?_)
  rintro _ _ ⟨s2,rfl,rfl⟩
  rw[hpq]
  refine e_ mv (k:=e_ exr (k:=e_ exr (k:=e_ asn (k:=e_ asn (k:=on_ (qn_ (ws_ (ws_ (wr_ (e_ mv (k:=?_)))))))))))
  refine e_ (cN rfl) (k:=?_)
  refine gk (k:=dw (k:=go ?_))
  refine d2_ rfl (zn (a8) (a8)) (k:=go ?_)
  refine ln_ ((i+1,zs++fK q.1 q.2)) (k:=?_)
  try dsimp only
  refine⟨a8,?_⟩
  rw[cP hq,su,hI];simp
 obtain rfl:i=bl.length:=a8
 rw[List.take_length]at hI
 have hI':zs=kQ kind bl:=hI
 subst hI'
 refine go ?_
 refine c1_ rfl (iB (a8)) (k:=?_)
 rintro _ _ ⟨s2,rfl,rfl⟩
 refine d1_ rfl (DP (a8) (ow hk fun q hq=> (ht q hq).2)) (k:=?_)
 refine d2_ rfl (AM (lN (kQ kind bl)) (a8)) (k:=go ?_)
 refine c1_ rfl (iB (xs:=jW kind bl) (by simp only[jW,Ya,lK];omega)) (k:=?_)
 rintro _ _ ⟨s3,rfl,rfl⟩
 refine gk (k:=rt_ Tryz.results40 (k:=?_))
 exact⟨_,hsb,s3,rfl,rfl⟩
theorem pc {n:Nat}(r:List Nat) (h:n<4294967296):jt (w32 n++r)=n:=by
 simp only[w32,Yd,jt];omega
theorem pd {l:List Nat}(hl:4≤l.length) (hb:∀x∈l,x<256):w32 (jt l)=l.take 4:=by
 match l,hl with
 |a::b::c::d::r,_=>
  have ha:=hb a (aj)
  have h2:=hb b (aj)
  have hc:=hb c (aj)
  have hd:=hb d (aj)
  simp only[jt,w32,List.take_succ_cons,List.take_zero,List.cons.injEq,and_true]
  omega
theorem pW {v:Nat}(r:List Nat) (h:v<18446744073709551616):eY 0 (uv v++r)= .ok (v,(uv v).length):=
 HB v 0 r (a8) (bY) (fun h=> absurd h (Nat.lt_irrefl 0))
theorem gL {most v:Nat}(r:List Nat) (h:v<18446744073709551616) (hm:v≤most):ec most (uv v++r)= .ok (v,(uv v).length):=by
 rw[ec,pW r h];simp only[];rw[if_neg (a8)]
theorem xu {a b:List Nat}{n:Nat}(h:a.length≤n):(a++b).take n=a++b.take (n - a.length):=by
 rw[List.take_append,List.take_of_length_le h]
theorem qB (tag:Nat) (body:List Nat):(k7 tag body).length=1+(uv body.length).length+body.length:=by
 simp only[k7,Ya,List.length_singleton]
theorem ft (tag:Nat) (body:List Nat):(fK tag body).length=1+(uv body.length).length+body.length+4:=by
 rw[fK,Ya,qB,lK]
theorem zQ (tag:Nat) (r:List Nat):iu (tag::r)=if tag=0 then none else
 match eY 0 (((tag::r).take (min (tag::r).length 11)).drop 1)with
 | .error _=> none
 | .ok (n,m)=> if(tag::r).length - (1+m)<4∨(tag::r).length - (1+m) - 4<n then none else
  if jt ((tag::r).drop (1+m+n))=mN ((tag::r).take (1+m+n))then some (1+m,1+m+n)else none:=rfl
theorem zP {tag:Nat}{body:List Nat}(r:List Nat) (h0:tag≠0) (ht:tag<256) (hb:∀x∈body,x<256) (hl:body.length<18446744073709551616):
 iu (fK tag body++r)=some (1+(uv body.length).length,1+(uv body.length).length+body.length):=by
 have h10:=dc hl
 have hlen:=ft tag body
 have hpl:=qB tag body
 have hx:fK tag body++r=tag::(uv body.length++(body++(w32 (mN (k7 tag body))++r))):=by
  simp[fK,k7]
 have hrd:eY 0 (((fK tag body++r).take (min (fK tag body++r).length 11)).drop 1)= .ok (body.length,(uv body.length).length):=by
  rw[hx]
  have:min (tag::(uv body.length++(body++(w32 (mN (k7 tag body))++r)))).length 11=(min (uv body.length++(body++(w32 (mN (k7 tag body))++r))).length 10)+1:=by
   rw[Yb];omega
  rw[this,List.take_succ_cons,List.drop_succ_cons,List.drop_zero,xu (aS)]
  exact pW _ hl
 rw[hx,zQ,if_neg h0,←hx,hrd]
 simp only[]
 rw[if_neg (aS)]
 have hd:(fK tag body++r).drop (1+(uv body.length).length+body.length)=w32 (mN (k7 tag body))++r:=by
  rw[fK,Yf,←hpl,List.drop_left]
 have ht:(fK tag body++r).take (1+(uv body.length).length+body.length)=k7 tag body:=by
  rw[fK,Yf,←hpl,List.take_left]
 rw[hd,ht,pc _ (wc (qA (ay) hb)),if_pos rfl]
theorem G1 {tag:Nat}{body:List Nat}(r:List Nat):((fK tag body++r).take (1+(uv body.length).length+body.length)).drop (1+(uv body.length).length)=body:=by
 have hpl:=qB tag body
 have ht:(fK tag body++r).take (1+(uv body.length).length+body.length)=k7 tag body:=by
  rw[fK,Yf,←hpl,List.take_left]
 rw[ht,k7,show 1+(uv body.length).length=([tag]++uv body.length).length by simp[Nat.add_comm],List.drop_left]
theorem oV:∀(bl:List (Nat×List Nat)),(∀q∈bl,0<q.1∧q.1<256∧(∀x∈q.2,x<256)∧q.2.length<18446744073709551616)→gM bl.length (da bl)=some bl
 | [],_=> rfl
 |q::bl,h=> by
  obtain⟨h1,h2,h3,h4⟩:=h q (aj)
  have ih:=oV bl fun p hp=> h p (by simp[hp])
  have he:da (q::bl)=fK q.1 q.2++da bl:=bu
  rw[Yb,gM,he,zP _ (a8) h2 h3 h4]
  simp only[]
  have hd:(fK q.1 q.2++da bl).drop (1+(uv q.2.length).length+q.2.length+4)=da bl:=by
   rw[←ft q.1 q.2,List.drop_left]
  rw[hd,ih,G1]
  simp only[Option.some.injEq,List.cons.injEq,and_true]
  simp[fK,k7]
theorem uo (kind:Nat) (bl:List (Nat×List Nat)):(kQ kind bl).length=5+(uv bl.length).length+(da bl).length:=by
 simp only[kQ,Ya,Yb,Yc]
theorem kA (kind:Nat) (bl:List (Nat×List Nat)):(jW kind bl).length=5+(uv bl.length).length+(da bl).length+4:=by
 rw[jW,Ya,uo,lK]
theorem tO {kind:Nat}{bl:List (Nat×List Nat)}(hk0:kind≠0) (hk:kind<256) (hn:bl.length<18446744073709551616) (h:∀q∈bl,0<q.1∧q.1<256∧(∀x∈q.2,x<256)∧q.2.length<18446744073709551616):eZ kind (jW kind bl)=some bl:=by
 have hl:=kA kind bl
 have hq:=uo kind bl
 have h10:=dc hn
 have h1:=ju bl.length
 have ht:(jW kind bl).take ((jW kind bl).length - 4)=kQ kind bl:=by
  rw[hl,jW,show 5+(uv bl.length).length+(da bl).length+4 - 4=(kQ kind bl).length from a8,List.take_left]
 have hd:(jW kind bl).drop ((jW kind bl).length - 4)=w32 (lN (kQ kind bl)):=by
  rw[hl,jW,show 5+(uv bl.length).length+(da bl).length+4 - 4=(kQ kind bl).length from a8,List.drop_left]
 have hlt:∀q∈bl,q.1<256∧∀x∈q.2,x<256:=fun q hq=> ⟨(h q hq).2.1,(h q hq).2.2.1⟩
 rw[eZ,ht,hd]
 have hw:=pc [] (tC (ow hk hlt))
 rw[Ym]at hw
 have hlen10:¬(jW kind bl).length<10:=by
  rw[hl]
  rcases Nat.lt_or_ge ((uv bl.length).length+(da bl).length) 1 with h0|h0
  ·omega
  ·omega
 rw[if_neg hlen10,if_pos hw]
 have ht4:(jW kind bl).take 4= [99,110,99,100]:=by simp[jW,kQ]
 have h4:(jW kind bl)[4]? =some kind:=by simp[jW,kQ]
 rw[ht4,h4,if_neg (by simp[hk0])]
 have hrs:(kQ kind bl).drop 5=uv bl.length++da bl:=by simp[kQ]
 rw[hrs,xu (aS),pW _ hn]
 simp only[]
 rw[List.drop_left,oV bl h]
theorem zR {l:List Nat}{f t:Nat}(hb:∀x∈l,x<256) (h:iu l=some (f,t)):f≤t∧t+4≤l.length∧l.headD 0≠0∧l.take (t+4)=fK (l.headD 0) ((l.take t).drop f):=by
 match l,hb,h with
 |tag::r,hb,h=>
  rw[iu]at h
  split at h
  ·cases h
  ·rename_i h0
   split at h
   ·cases h
   ·rename_i n m hr
    split at h
    ·cases h
    ·rename_i hle
     split at h
     ·rename_i hw
      simp only[Option.some.injEq,Prod.mk.injEq]at h
      obtain⟨rfl,rfl⟩:=h
      have hb2:∀x∈(((tag::r).take (min (tag::r).length 11)).drop 1),x<256:=fun y hy=> hb y (Yq (Yp hy))
      obtain⟨p1,p2,p3,p4,p5,p6⟩:=gZ _ 0 n m hb2 (a8) hr
      have hlen:(tag::r).length=r.length+1:=rfl
      rw[Yo,Yg]at p4
      have hm:r.take m=uv n:=by
       rw[hlen,show min (r.length+1) 11=min r.length 10+1 from a8,List.take_succ_cons,List.drop_succ_cons,List.drop_zero,List.take_take]at p5
       rw[←p5];congr 1;omega
      have hbod:((tag::r).take (1+m+n)).drop (1+m)=(r.drop m).take n:=by
       rw[show 1+m+n=m+n+1 from a8,List.take_succ_cons,show 1+m=m+1 from a8,List.drop_succ_cons,List.drop_take,show m+n - m=n from a8]
      have hbl:((r.drop m).take n).length=n:=by rw[Yg,Yo];omega
      have htk:(tag::r).take (1+m+n)=k7 tag ((r.drop m).take n):=by
       rw[show 1+m+n=m+n+1 from a8,List.take_succ_cons,List.take_add,hm,k7,hbl];rfl
      refine⟨a8,a8,h0,?_⟩
      show(tag::r).take (1+m+n+4)=fK tag _
      rw[hbod,fK,List.take_add,htk]
      congr 1
      rw[←htk,←hw,pd (aC) (fun y hy=> hb y (Yp hy))]
     ·cases h
theorem rW:∀(n:Nat) (l:List Nat) (bl:List (Nat×List Nat)),(∀x∈l,x<256)→gM n l=some bl→bl.length=n∧l=da bl∧(∀q∈bl,q.1≠0)∧(∀q∈bl,q.1<256∧∀x∈q.2,x<256)
 | 0,l,bl,hb,h=> by
  rw[gM]at h
  split at h
  ·cases h
   exact⟨rfl,List.length_eq_zero_iff.1 (ay),fun q hq=> (by cases hq),fun q hq=> (by cases hq)⟩
  ·cases h
 |n+1,l,bl,hb,h=> by
  rw[gM]at h
  split at h
  ·cases h
  ·rename_i f t hr
   split at h
   ·cases h
   ·rename_i r hrr
    simp only[Option.some.injEq]at h
    subst h
    obtain⟨p1,p2,p3,p4⟩:=zR hb hr
    obtain⟨q1,q2,q3,q4⟩:=rW n _ r (fun y hy=> hb y (Yp hy)) hrr
    refine⟨by simp[q1],?_,?_,?_⟩
    ·rw[show da ((l.headD 0,(l.take t).drop f)::r)=fK (l.headD 0) ((l.take t).drop f)++da r from bu,←p4,←q2,List.take_append_drop]
    ·intro q hq
     rcases List.mem_cons.1 hq with rfl|hq
     ·exact p3
     ·exact q3 q hq
    ·intro q hq
     rcases List.mem_cons.1 hq with rfl|hq
     ·refine⟨?_,fun x hx=> hb x (Yq (Yp hx))⟩
      cases l with
      |nil=> simp at p2
      |cons a l=> exact hb a (aj)
     ·exact q4 q hq
theorem jS {kind:Nat}{l:List Nat}{bl:List (Nat×List Nat)}(hb:∀x∈l,x<256) (h:eZ kind l=some bl):l=jW kind bl∧(∀q∈bl,q.1≠0)∧(∀q∈bl,q.1<256∧∀x∈q.2,x<256):=by
 rw[eZ]at h
 split at h
 ·cases h
 ·rename_i hlen
  split at h
  ·rename_i hw
   split at h
   ·cases h
   ·rename_i hk
    split at h
    ·cases h
    ·rename_i n m hr
     have hb2:∀x∈(l.take (l.length - 4)).drop 5,x<256:=fun y hy=> hb y (Yq (Yp hy))
     obtain⟨p1,p2,p3,p4,p5,p6⟩:=gZ _ 0 n m (fun y hy=> hb2 y (Yq hy)) (a8) hr
     obtain⟨q1,q2,q3,q4⟩:=rW n _ bl (fun y hy=> hb2 y (Yp hy)) h
     refine⟨?_,q3,q4⟩
     have hm:((l.take (l.length - 4)).drop 5).take m=uv n:=by
      rw[List.take_take]at p5
      rw[←p5];congr 1
      rw[Yg]at p4;omega
     have hq:l.take (l.length - 4)=kQ kind bl:=by
      have h5:(l.take (l.length - 4)).take 5= [99,110,99,100]++ [kind]:=by
       have e1:(l.take (l.length - 4)).take 5=l.take 5:=by rw[List.take_take];congr 1;omega
       have e2:l.take 4= [99,110,99,100]:=Classical.byContradiction fun e=> hk (.inr (.inl e))
       have e3:l[4]? =some kind:=Classical.byContradiction fun e=> hk (.inr (.inr e))
       rw[e1,cP e3,e2]
      rw[kQ,←h5,q1,←hm,←q2,Yf,List.take_append_drop,List.take_append_drop]
     have e4:(l.drop (l.length - 4)).take 4=l.drop (l.length - 4):=List.take_of_length_le (aC)
     rw[jW,←hq,←hw,pd (aC) (fun y hy=> hb y (Yp hy)),e4,List.take_append_drop]
  ·cases h
end Go.Sx
