import Derived.Test.YtcokhbglfaakjaaGreatDoorQ15
set_option linter.all false
set_option maxHeartbeats 0
namespace Go.Sx
open Go Go.Proofs Tryz
set_option maxRecDepth 100000
theorem JO {G:dJ}{H:dD}{fv dv xv:SV}{fs:List FV}{l:List (Int×SV)}{ds:List Doc}{dead:List Int} [hf:Sl H fv eF fs] [hd:Sl H dv eD l] [hx:Sl H xv eI dead] (h:gK H l ds) (hfn:fs.length≤1000000) (hn:ds.length≤1000000) (hv:∀d∈ds,d.2.length≤1000000) (hxl:dead.length≤1000000000):
 SC G prog 9 [.agg #[fv.val],.agg #[dv.val,xv.val]] H (λv w=>∃(s1 s2 s3:SV) (zs:List DG) (D:List Bool),zs.map dgD=ds∧D.length=ds.length∧(∀j,j<ds.length→D[j]? =some (decide (((j:Nat):Int)∈dead)))∧v=.agg #[s1.val,s2.val,s3.val]∧w=Row s1 eF fs::Row s2 eD (zs.map dgV)::Cl dgH zs::Row s3 eBo D::H):=by
 have s:=h.1;refine sWk func9 ?_;refine ws_ (wr_ (bxx (k:=λu=>?_)));refine bxx (k:=λt=>?_);refine alc (k:=λb4=>?_);refine on_ (qn_ (ws_ (wr_ (e_ fla (e_ ldv ?_)))));refine e_ (evq lnn (congrArg (λn:Nat=>iN n) s)) ?_;refine s_ (gn eBo false rfl rfl _ _ rfl rfl rfl a8 a8 a8) ?_;rintro _ _ ⟨c,rfl,hs11n,hs11c,rfl⟩;refine e_ asn (on_ (qn_ (ws_ (ws_ (wr_ (e_ fla (e_ ldv (e_ lnn (e_ mv (on_ (qn_ (wb_ (e8 (Nat×(List Bool)) (λy=>y.1≤dead.length∧y.2.length=ds.length∧∀j,j<ds.length→y.2[j]? =some (decide (((j:Nat):Int)∈dead.take y.1))) (λy=>[(15,iN y.1)]) [(2,_),(3,_),(4,_),(5,_),(13,_),(14,_)] (λy=>[Row c eBo y.2]) _ (λy=>dead.length-y.1) ((0,List.replicate ds.length false)) (h0:=?_) (k:=?_))))))))))))))
 ·try dsimp only
  exact⟨Yl _,Xe ..,λj hj=>by rw[S2,if_pos hj];simp⟩
 rintro⟨i,D⟩ ⟨hi,b,p⟩
 try dsimp only[Yd,Ye]at*
 refine ws_ (wr_ (e_ ilt (on_ (qn_ (ws_ (wi_ (k:=λh1=>?_) (m:=λh1=>?_)))))))
 ·obtain⟨e,he⟩:∃e,dead[i]? =some e:=⟨_,Yi ao⟩;refine wk_ (qn_ (ws_ (wb_ (ws_ (wr_ (e_ ixa (e_ (lel (hy:=he)) (e_ asn (on_ (qn_ (ws_ (wr_ (e_ mv ?_)))))))))))));refine e_ ige (e_ mv (dV 5 26 (k:=λh2=>eg_ mv (eg_ mv (eg_ (evq lnn (congrArg (λn:Nat=>iN n) b)) (eg_ ilt (e_ pkt (on_ edq)))))) (q:=on_ (qn_ (wi_ (k:=λh3=>?_) (m:=λh3=>?_))))))
  ·obtain⟨n,rfl⟩:∃n:Nat,e=(n:Int):=⟨e.toNat,aD⟩;have hnl:n<ds.length:=aD;refine wr_ (e_ mv (e_ mv (e_ ixa ?_)));refine s_ (et (i:=n) (a:=true) rfl rfl bH a8) ?_;rintro _ _ ⟨rfl,rfl⟩;refine on_ (bn_ (qn_ (wr_ (e_ iad (e_ mv (on_ ?_))))));refine lN ((i+1,D.set n true)) ?_
   try dsimp only
   exact⟨a8,by rw[Ub];exact b,λj hj=>by
   rw[Vf,dK he]
   by_cases hjn:n=j
   ·subst hjn;rw[if_pos rfl,if_pos a8];simp
   ·rw[if_neg hjn,p j hj];simp[show ¬((j:Nat):Int)=(n:Int)from a8]⟩
  refine wk_ (bn_ (qn_ (wr_ (e_ iad (e_ mv (on_ ?_))))));refine lN ((i+1,D)) ?_
  try dsimp only
  exact⟨a8,b,λj hj=>by
  have h8:=h3;rw[p j hj,dK he];have r:¬((j:Nat):Int)=e:=λh7=>a8;simp[r]⟩
 obtain rfl:i=dead.length:=ao;rw[Xn]at p;refine we_ (qe_ (le_ (bh_ (qn_ (ws_ ?_)))));refine wD [1,4,7] (λk H=>(k=0→dQ H u [fv.val])∧(k=3→dQ H t [dv.val,xv.val])) ?_;refine aN 0 rfl (λH hH=>aX) ?_;refine aF 2 (k:=?_);refine aN 3 rfl (λH hH=>aM) ?_;refine aF 5 (k:=?_);refine aS 1 rfl (lU (vs:= [_]) rfl (wZ a8)) ?_;rintro _ _ ⟨g,rfl,rfl⟩;refine aS 4 rfl (v1_ (JW (ds:=ds) (h.less hsb) hn hv)) ?_;rintro _ _ ⟨f,zs,hzs,rfl,rfl⟩;refine af_ 6 (q:=ea λH hH=>bld [(0,_),(1,_),(2,_)]) (k:=?_);refine aS 7 rfl (ej rfl rfl rfl) ?_;rintro _ _ ⟨rfl,rfl⟩;refine aZ (qn_ (wt_ (rT (k:=?_))));exact⟨Row g eF fs::Row f eD (zs.map dgV)::Cl dgH zs::Row c eBo D::H,hsb,g,f,c,zs,D,hzs,b,p,rfl,rfl⟩
end Go.Sx
