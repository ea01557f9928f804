import Derived.Test.YtefgpomabdplbaaGreatDoorQ35
set_option linter.unusedVariables false
set_option linter.unusedSimpArgs false
set_option linter.unusedSectionVars false
set_option linter.unnecessarySimpa false
set_option maxHeartbeats 0
namespace Go.Sx
open Go Go.Proofs
set_option maxRecDepth 100000
section
variable {G:cK}{P:Program}{t:Tm}{H:cG}{dst:Option Tmp}{ty:TypeId}{pos:String}{after:Array Edge}{g:Option (Nat×Bool)}
theorem o4 {T U:TypeId}{x y:Operand}{a b:Bool} [hT:Und P T .bool] (hx:evo t x=some (.bool a)) (hy:evo t y=some (.bool b)):Ev G P ⟨dst, .binOp .neq T x y U,ty,pos,after,g⟩ t H (.bool (a !=b)):=fun ρ hρ w _=> by
 have h2:=iO (P:=P) (w:=w) (T:=T) (x:= .bool a) (y:= .bool b) (r:=(a==b)) (fun d=> aD)
 simp[execOp,hρ _ _ hx,hρ _ _ hy,eqGuard,binOp,h2,bne]
theorem K9 {x y z:Operand}{ats:Array TypeId}{k:IntKind}{a b c:Int}(hx:evo t x=some (.int k a)) (hy:evo t y=some (.int k b)) (hz:evo t z=some (.int k c)):
 Ev G P ⟨dst, .call ⟨.builtin .max, #[x,y,z],ats⟩,ty,pos,after,g⟩ t H (.int k (max (max a b) c)):=
 fun ρ hρ w _=> by
  have e:∀a b:Int,(if b > a then b else a)=max a b:=fun a b=> by rw[Int.max_def];split <;> split <;> omega
  simp[execOp,resolve,invoke,builtin,Builtin.max_,Builtin.max2,hρ _ _ hx,hρ _ _ hy,hρ _ _ hz,e]
theorem uN {T E U:TypeId}{x:Operand} [hT:Und P T (.slice E)] (hx:evo t x=some (.slice none 0 0)):Ev G P ⟨dst, .binOp .eql T x (.const (.slice none 0 0)) U,ty,pos,after,g⟩ t H (.bool true):=
 fun ρ hρ w hw=> by
  have h1:=fU (P:=P) (op:= .eql) (T:=T) (x:=x) (y:= .const (.slice none 0 0)) (w:=w) (a:= .slice none 0 0) (b:= .slice none 0 0) (.inr rfl) (fun c h=> aW)
  have h2:=iO (P:=P) (w:=w) (T:=T) (x:= .slice none 0 0) (y:= .slice none 0 0) (r:=true) (fun d=> by simp only[Op.equalIn,Sem.run_bind,da (T:=T),Result.andThen_ok,Sem.run_pure,Option.isNone_none])
  have h5:(binOp .eql T (.slice none 0 0) (.slice none 0 0)).run P w= .ok (.bool true) w:=by
   simp only[binOp,Sem.run_bind,h2,Result.andThen_ok,Sem.run_pure]
  simp only[execOp,hρ _ _ hx,hρ (.const (.slice none 0 0)) _ rfl,Sem.run_bind,h1,Result.andThen_ok,h5,Sem.run_pure]
end
def ohI:Option Nat→Int
 |none=> -1
 |some h=> (h:Int)
abbrev hsI (hs:Hs):List Int:=hs.map ohI
theorem sB {hs:Hs}{i:Nat}(hi:i<hs.length):(hsI hs)[i]? =some (ohI (hs.getD i none)):=by
 rw[Xd,List.getD_eq_getElem?_getD,Yi hi];all_goals rfl
theorem C9 {hs:Hs}{i h:Nat}:(hsI hs).set i ((h:Nat):Int)=hsI (hs.set i (some h)):=by
 rw[hsI,hsI,List.map_set];all_goals rfl
theorem yw {hs hs':Hs}{i h:Nat}(he:jC hs i h=some hs'):hs'.length=hs.length:=by
 unfold jC at he
 split at he
 ·cases he;exact List.length_set
 ·split at he
  ·cases he;rfl
  ·cases he
theorem u7 {hs:Hs}{i h:Nat}(hi:i<hs.length):(hs.set i (some h)).getD i none=some h:=by
 rw[List.getD_eq_getElem?_getD,List.getElem?_set_self hi];all_goals rfl
theorem KS {G:cK}{H R:cG}{sl:SV}{hs:Hs}{b i h:Nat} [hb:cQ R b [sl.val]] [hr:na H sl eI (hsI hs) R] (hi:i<hs.length):SC G Tryz.prog 126 [.int .i64 ((i:Nat):Int), .int .i64 ((h:Nat):Int), .pointer (some ⟨b,0,none⟩)] H (fun v H'=> ((∃hs',jC hs i h=some hs'∧v= .bool true∧H'=Row sl eI (hsI hs')::R)∨(jC hs i h=none∧v= .bool false∧H'=R))):=by
 refine SC.less (gB hr cJ.refl) ?_
 have hil:i<(hsI hs).length:=by rw[Yh];exact hi
 refine sWk Tryz.func126 Tryz.ntmps126 ?_
 refine ws_ (wr_ (e_ asn (k:=on_ (qn_ (ws_ (ws_ (wr_ (e_ ldv (k:=e_ mv (k:=e_ ixa (k:=e_ (lel (hy:=sB hi)) (k:=go ?_))))))))))))
 refine gk (k:=wi_ (k:=fun h1=>?_) (m:=fun h1=>?_))
 ·obtain hno:hs.getD i none=none:=by
   have h9:=h1
   cases hc:hs.getD i none with
   |none=> rfl
   |some q=> rw[hc,ohI]at h9;omega
  have hset:=u7 (h:=h) hi
  have hil2:i<(hs.set i (some h)).length:=by rw[List.length_set];exact hi
  have hil3:i<(hsI (hs.set i (some h))).length:=by rw[Yh];exact hil2
  refine go ?_
  refine s_ (dH rfl rfl (bQ) hil) (k:=?_)
  rintro _ _ ⟨rfl,rfl⟩
  rw[C9]
  refine on_ (qn_ (ws_ (wr_ (e_ ldv (k:=e_ mv (k:=e_ ixa (k:=e_ (lel (hy:=(sB hil2).trans (by rw[hset,ohI]))) (k:=go ?_))))))))
  refine rt_ Tryz.results126 (k:=?_)
  exact⟨_,hsb, .inl ⟨_,by rw[jC,hno],by simp[gF],rfl⟩⟩
 obtain⟨q,hq⟩:∃q,hs.getD i none=some q:=by
  have h9:=h1
  cases hc:hs.getD i none with
  |none=> rw[hc,ohI]at h9;exact absurd (ag) h9
  |some q=> exact⟨q,rfl⟩
 refine wk_ (qn_ (ws_ (wr_ (e_ ldv (k:=e_ mv (k:=e_ ixa (k:=e_ (lel (hy:=(sB hi).trans (by rw[hq,ohI]))) (k:=go ?_))))))))
 refine rt_ Tryz.results126 (k:=?_)
 by_cases hqh:q=h
 ·exact⟨_,hsb, .inl ⟨hs,by rw[jC,hq];simp[hqh],by simp[gF,hqh],rfl⟩⟩
 ·exact⟨_,hsb, .inr ⟨by rw[jC,hq];simp[hqh],by simp[gF];omega,rfl⟩⟩
theorem uV {fs:List FV}(hfl:fs.length≤16):∀(vs:List Val) (r:List Nat),(∀v∈vs,v.2.size≤4096∧∃k,fk fs (cF v.1)=some k)→ll fs vs.length (vs.flatMap (eG fs)++r)=some (vs,(vs.flatMap (eG fs)).length)
 | [],r,_=> rfl
 |v::vs,r,h=> by
  obtain⟨h1,k,hk⟩:=h v (an)
  have ih:=uV hfl vs r fun x hx=> h x (Xa _ hx)
  have hk2:=hk
  unfold fk at hk2
  rw[List.findIdx?_eq_some_iff_getElem]at hk2
  obtain⟨hlt,hp,_⟩:=hk2
  have hn:(((fs[k]?).map (·.name)).getD ByteArray.empty)=v.1:=by
   rw[Yi hlt]
   exact kM.1 (Yt hp)
  have hbl:=cL v.2
  have e:(v::vs).flatMap (eG fs)++r=uv k++(uv (cF v.2).length++cF v.2++(vs.flatMap (eG fs)++r)):=by
   rw[List.flatMap_cons,eG,hk,Option.getD_some,hbl];simp only[Yf]
  have el:((v::vs).flatMap (eG fs)).length=(uv k).length+((uv (cF v.2).length).length+(cF v.2).length)+(vs.flatMap (eG fs)).length:=by
   rw[List.flatMap_cons,eG,hk,Option.getD_some,hbl];simp only[Ya,hbl];(try omega)
  rw[e,Yb,ll,ey _ (aa) (aa)]
  simp only[]
  rw[List.drop_left,vl _ (aa) (aa)]
  simp only[]
  rw[←List.drop_drop,List.drop_left,←Ya,List.drop_left,ih,gO,hn,el]
  simp only[Ya]
theorem vP {fs:List FV}(hfl:fs.length≤16):∀(ds:List Doc) (r:List Nat),(∀d∈ds,gy fs d.2=0)→ku fs (ds.map (·.1)) (ep fs ds++r)=some (ds,(ep fs ds).length)
 | [],r,_=> rfl
 |d::ds,r,h=> by
  obtain⟨h1,h2⟩:=nW (h d (an))
  have ih:=vP hfl ds r fun x hx=> h x (Xa _ hx)
  have e:ep fs (d::ds)++r=uv d.2.length++(d.2.flatMap (eG fs)++(ep fs ds++r)):=by
   simp only[ep,List.flatMap_cons,pK,Yf]
  have el:(ep fs (d::ds)).length=(uv d.2.length).length+(d.2.flatMap (eG fs)).length+(ep fs ds).length:=by
   simp only[ep,List.flatMap_cons,pK,Ya]
  rw[e,List.map_cons,ku,ey _ (aa) (aa)]
  simp only[]
  rw[List.drop_left,uV hfl _ _ h2]
  simp only[]
  rw[←List.drop_drop,List.drop_left,List.drop_left,ih,el]
theorem zf {fs:List FV}{ds:List Doc}(h:jF fs ds):kJ fs (mH ds) (ep fs ds)=some ds:=by
 have hfew:=h.few
 have h1:=yd (l:=ds.map (·.1)) h.pos h.up (fun x hx=> bC) (bW)
 rw[Yh]at h1
 have h2:eH 4096 (mH ds)= .ok (ds.map (·.1),(mH ds).length):=by
  unfold eH at h1⊢
  unfold mH
  rw[ey _ (aa) (by have:=mu (ds.map (·.1)) (-1);rw[Yh]at this;simp only[Ya];omega)]at h1
  rw[ey _ (aa) hfew]
  exact h1
 have h3:=vP h.flen ds [] h.vals
 rw[Ym]at h3
 rw[kJ,h2]
 simp only[]
 rw[if_neg (aa),h3]
 simp only[]
 rw[if_neg (aa)]
theorem Bw {G:cK}{H:cG}{g n:Nat}{fi ca:List Value}{p:Nat→Bool}(hn:n≤1000000000000) (hf:∀i:Nat,i<n→SC G Tryz.prog g (fi++ [.int .i64 ((i:Nat):Int)]++ca) H (fun v H'=> v= .bool (p i)∧H'=H)) (hmono:∀a b,a≤b→b<n→p a=true→p b=true):
 SC G Tryz.prog 119 [.int .i64 ((n:Nat):Int), .func (.func g) fi.toArray ca.toArray] H (fun v H'=> (∃k:Nat,v= .int .i64 ((k:Nat):Int)∧k≤n∧(∀i,i<k→p i=false)∧∀i,k≤i→i<n→p i=true)∧H'=H):=by
 refine sWk Tryz.func119 Tryz.ntmps119 ?_
 refine go ?_
 refine dt (Nat×Nat) (fun y=> y.1≤y.2∧y.2≤n∧(∀m,m<y.1→p m=false)∧∀m,y.2≤m→m<n→p m=true) (fun y=> [(5, .int .i64 ((y.1:Nat):Int)),(6, .int .i64 ((y.2:Nat):Int))]) [(1,_)] (fun y=> []) _ (fun y=> y.2 - y.1) ((0,n)) (h0:=?_) (k:=?_)
 ·try dsimp only
  exact⟨Yl _,Nat.le_refl _,fun m hm=> absurd hm (aa),fun m h1 h2=> absurd h1 (aa)⟩
 rintro⟨i,j⟩ ⟨hij,hjn,hlo,hhi⟩
 try dsimp only[Yd,Ye]at*
 refine gk (k:=wi_ (k:=fun h1=>?_) (m:=fun h1=>?_))
 ·obtain⟨h,hh⟩:∃h,h=(i+j) / 2:=⟨_,rfl⟩
  refine wk_ (qn_ (wb_ (ws_ (wr_ (e_ mv (k:=e_ mv (k:=?_)))))))
  refine e_ (evq iad (congrArg (Value.int .i64) (show _=((i+j:Nat):Int)from aa))) (k:=?_)
  refine e_ ((ae)) (k:=?_)
  refine e_ (evq (fC rfl rfl (i+j) 1 rfl rfl (ag)) (congrArg (fun n:Nat=> Value.int .u64 (n:Int)) (show(i+j) / 2 ^ 1=h from aa))) (k:=?_)
  refine e_ (dy rfl (aa)) (k:=?_)
  refine go ?_
  refine s_ (nJ (fi:=fi) (ca:=ca) (vs:= [_]) rfl rfl (hf h (aa))) (k:=?_)
  rintro _ H ⟨rfl,rfl⟩
  refine gk (k:=wi_ (k:=fun h2=>?_) (m:=fun h2=>?_))
  ·have hp0:p h=false:=by simpa using h2
   refine go ?_
   refine ln_ ((h+1,j)) (k:=?_)
   try dsimp only
   refine⟨aa,hjn,fun m hm=> ?_,hhi⟩
   cases hpm:p m with
   |false=> rfl
   |true=> rw[hmono m h (aa) (aa) hpm]at hp0;cases hp0
  have hp1:p h=true:=by simpa using h2
  refine go ?_
  refine ln_ ((i,h)) (k:=?_)
  try dsimp only
  exact⟨aa,aa,hlo,fun m h1 h2=> hmono h m h1 h2 hp1⟩
 refine gk (k:=rt_ Tryz.results119 (k:=?_))
 exact⟨_,hsb,⟨i,rfl,aa,hlo,fun m h1 h2=> hhi m (aa) h2⟩,rfl⟩
theorem wz {l:List En}(h:rV l):∀(d i:Nat) (a b:En),l[i]? =some a→l[i+d+1]? =some b→cF a.key<cF b.key
 | 0,i,a,b,ha,hb=> h.2 i a b ha hb
 |d+1,i,a,b,ha,hb=> by
  have hlt:=(Yk.1 hb).1
  have hc:l[i+d+1]? =some l[i+d+1]:=Yi (aa)
  exact List.lt_trans (wz h d i a _ ha hc) (h.2 (i+d+1) _ b hc hb)
def geK (l:List En) (key:ByteArray) (i:Nat):Bool:=match l[i]? with
 |some e=> !decide (cF e.key<cF key)
 |none=> true
theorem GW {l:List En}(h:rV l) {key:ByteArray}(a b:Nat) (hab:a≤b) (hb:b<l.length) (ha:geK l key a=true):geK l key b=true:=by
 have h1:l[a]? =some l[a]:=Yi (aa)
 have h2:l[b]? =some l[b]:=Yi hb
 rw[geK,h1]at ha
 rw[geK,h2]
 simp only[Bool.not_eq_true',decide_eq_false_iff_not]at ha⊢
 rcases Nat.lt_or_eq_of_le hab with h3|rfl
 ·intro h4
  have:=wz h (b - a - 1) a _ l[b] h1 (by rw[show a+(b - a - 1)+1=b from aa];exact h2)
  exact ha (List.lt_trans this h4)
 ·exact ha
theorem LH {G:cK}{H:cG}{bd bk w i:Nat}{ev:SV}{key:ByteArray}{l:List En} [cQ H bd [.pointer (some ⟨w,0,none⟩)]] [cQ H bk [.string key]] [cQ H w [ev.val]] [hs:Sl H ev eEn l] (hi:i<l.length):SC G Tryz.prog 120 [.int .i64 ((i:Nat):Int), .pointer (some ⟨bd,0,none⟩), .pointer (some ⟨bk,0,none⟩)] H (fun v H'=> v= .bool (geK l key i)∧H'=H):=by
 obtain⟨e,he⟩:∃e,l[i]? =some e:=⟨_,Yi hi⟩
 refine sWk Tryz.func120 Tryz.ntmps120 ?_
 refine go ?_
 refine cX cI (as_ 0 (q:=ldv) (k:=as_ 1 (q:=nck) (k:=as_ 2 (q:=fla) (k:=as_ 3 (q:=ldv) (k:=as_ 4 (q:=mv) (k:=as_ 5 (q:=ixa) (k:=as_ 6 (q:=fle) (k:=as_ 7 (q:=lfl (hy:=he)) (k:=as_ 8 (q:=ldv) (k:=?_))))))))))
 refine cE 9 rfl rfl (a8) rfl (dz (Q6)) (?_)
 refine as_ 10 (q:=asn) (k:=az_ (k:=gk (k:=rt_ Tryz.results120 (k:=?_))))
 exact⟨_,hsb,by rw[geK,he];all_goals rfl,rfl⟩
theorem NU {G:cK}{H:cG}{w:Nat}{ev:SV}{key:ByteArray}{l:List En} [cQ H w [ev.val]] [hs:Sl H ev eEn l] (hok:rV l) (hl:l.length≤1000000000):SC G Tryz.prog 66 [.pointer (some ⟨w,0,none⟩), .string key] H (fun v H'=> (∃k:Nat,v= .int .i64 ((k:Nat):Int)∧k≤l.length∧(∀i,i<k→geK l key i=false)∧∀i,k≤i→i<l.length→geK l key i=true)∧H'=H):=by
 refine sWk Tryz.func66 Tryz.ntmps66 ?_
 refine gk (k:=bxx (k:=fun b2=>?_))
 refine bxx (k:=fun b3=>?_)
 refine e_ asn (k:=on_ (qn_ (ws_ (wr_ (e_ ldv (k:=e_ nck (k:=e_ fla (k:=e_ ldv (k:=e_ lnn (k:=e_ mkf (k:=?_)))))))))))
 refine c2_ rfl (Bw (n:=l.length) (fi:= []) (ca:= [.pointer (some ⟨b2,0,none⟩), .pointer (some ⟨b3,0,none⟩)]) (p:=geK l key) (aa) (fun i hi=> LH (w:=w) (ev:=ev) (key:=key) hi) (fun a b h1 h2 h3=> GW hok a b h1 h2 h3)) (k:=?_)
 rintro _ _ ⟨⟨k,rfl,hk1,hk2,hk3⟩,rfl⟩
 refine gk (k:=rt_ Tryz.results66 (k:=?_))
 exact⟨_,hsb,⟨k,rfl,hk1,hk2,hk3⟩,rfl⟩
theorem M7 {G:cK}{H:cG}{w:Nat}{ev:SV}{key:ByteArray}{l:List En} [cQ H w [ev.val]] [hs:Sl H ev eEn l] (hok:rV l) (hl:l.length≤1000000000):SC G Tryz.prog 32 [.pointer (some ⟨w,0,none⟩), .string key] H (fun v H'=> ((∃(i:Nat) (e:En),l[i]? =some e∧cF e.key=cF key∧v= .tuple #[.int .i64 ((i:Nat):Int), .bool true])∨((∀e∈l,cF e.key≠cF key)∧v= .tuple #[.int .i64 0, .bool false]))∧H'=H):=by
 refine sWk Tryz.func32 Tryz.ntmps32 ?_
 refine go ?_
 refine c2_ rfl (NU hok hl) (k:=?_)
 rintro _ _ ⟨⟨k,rfl,hk1,hk2,hk3⟩,rfl⟩
 refine e_ asn (k:=on_ (qn_ (ws_ (ws_ (wr_ (e_ mv (k:=e_ mv (k:=e_ nck (k:=e_ fla (k:=e_ ldv (k:=e_ lnn (k:=e_ ilt (k:=sp_ (mv) (k:=fun h1=>?_) (m:=fun h1=>?_))))))))))))))
 ·obtain⟨e,he⟩:∃e,l[k]? =some e:=⟨_,Yi (aa)⟩
  refine eg_ mv (k:=eg_ nck (k:=eg_ fla (k:=eg_ ldv (k:=eg_ mv (k:=eg_ ixa (k:=eg_ fle (k:=eg_ (lfl (hy:=he)) (k:=gk (k:=eg_ y5 (k:=gk (k:=wi_ (k:=fun h2=>?_) (m:=fun h2=>?_))))))))))))
  ·have hke:cF e.key=cF key:=h2
   refine gk (k:=rt_ Tryz.results32 (k:=?_))
   exact⟨_,hsb, .inl ⟨k,e,he,hke,rfl⟩,rfl⟩
  have hnone:∀e∈l,cF e.key≠cF key:=by
   intro x hx hxe
   obtain⟨i,hi⟩:=List.getElem?_of_mem hx
   have hil:=(Yk.1 hi).1
   rcases Nat.lt_trichotomy i k with h1|h1|h1
   ·have:=hk2 i h1
    rw[geK,hi]at this
    simp only[Bool.not_eq_false',decide_eq_true_eq,hxe]at this
    exact pb _ this
   ·subst h1
    rw[he]at hi;cases hi;exact absurd hxe (by first|exact h2|simpa using h2)
   ·have hkl2:l[k]? =some l[k]:=Yi (aa)
    have h2:=wz hok (i - k - 1) k _ x hkl2 (by rw[show k+(i - k - 1)+1=i from aa];exact hi)
    have:=hk3 k (Nat.le_refl _) (aa)
    rw[geK,hkl2]at this
    simp only[Bool.not_eq_true',decide_eq_false_iff_not]at this
    rw[hxe]at h2
    exact this h2
  refine gk (k:=rt_ Tryz.results32 (k:=?_))
  exact⟨_,hsb, .inr ⟨hnone,rfl⟩,rfl⟩
 have hkl:k=l.length:=aa
 have hnone:∀e∈l,cF e.key≠cF key:=by
  intro x hx hxe
  obtain⟨i,hi⟩:=List.getElem?_of_mem hx
  have hil:=(Yk.1 hi).1
  have:=hk2 i (aa)
  rw[geK,hi]at this
  simp only[Bool.not_eq_false',decide_eq_true_eq,hxe]at this
  exact pb _ this
 refine gk (k:=eg (k:=?_))
 refine gk (k:=rt_ Tryz.results32 (k:=?_))
 exact⟨_,hsb, .inr ⟨hnone,rfl⟩,rfl⟩
theorem Q0 {G:cK}{H:cG}{w i:Nat}{ev:SV}{l:List En}{e:En} [cQ H w [ev.val]] [hs:Sl H ev eEn l] (he:l[i]? =some e):SC G Tryz.prog 34 [.pointer (some ⟨w,0,none⟩), .int .i64 ((i:Nat):Int)] H (fun v H'=> v= .tuple #[.agg [.string e.key, .int .i64 ((e.docs:Nat):Int), .int .i64 ((e.tot:Nat):Int), .int .i64 ((e.at_:Nat):Int), .int .i64 ((e.size:Nat):Int)].toArray, .bool true]∧H'=H):=by
 have hlt:=(Yk.1 he).1
 refine sWk Tryz.func34 Tryz.ntmps34 ?_
 refine ws_ (wr_ (alc (k:=fun b4=>?_)))
 refine e_ asn (k:=on_ (qn_ (ws_ (ws_ (wr_ (e_ mv (k:=e_ ilt (k:=e_ mv (k:=dN 8 16 (k:=fun h1=>eg_ mv (k:=eg_ mv (k:=eg_ nck (k:=eg_ fla (k:=eg_ ldv (k:=eg_ lnn (k:=eg_ ige (k:=e_ pkf (k:=on_ (edq)))))))))) (q:=on_ (qn_ (wi_ (k:=fun h2=>?_) (m:=fun h2=>?_)))))))))))))
 ·exact absurd h2 (aa)
 refine wk_ (qn_ (ws_ (wr_ (e_ mv (k:=e_ nck (k:=e_ fla (k:=e_ ldv (k:=e_ mv (k:=e_ ixa (k:=e_ (jn (hy:=he)) (k:=sto (k:=e_ asn (k:=on_ (?_))))))))))))))
 refine qn_ (wt_ (rt_ Tryz.results34 (k:=?_)))
 exact⟨_,hsb,rfl,rfl⟩
def qn (fs:List FV) (ds:List Doc) (f:Nat) (s:ByteArray):List Po:=iD (ofK (eE fs ds) (f % 256::cF s))
theorem JR {ts:List Tri}{k:List Nat}(h:k ∉ ts.map (·.1)):iD (ofK ts k)= []:=by
 have:ofK ts k= []:=by
  rw[ofK,List.map_eq_nil_iff,List.filter_eq_nil_iff]
  intro t ht he
  exact h (List.mem_map.2 ⟨t,ht,Yt he⟩)
 rw[this];all_goals rfl
theorem vz (f:Nat) (s:ByteArray):cF (qb f s)=f % 256::cF s:=by
 rw[qb,fQ,fa (by intro x hx;simp at hx;omega)];all_goals rfl
theorem BX {ps:List Po}(h1:fW 0 ps) (h2:e8 ps) (h3:dg ps≤100000000):iK ⟨ps,0,0,false⟩:=⟨h1,h2,h3,Yl _,Yl _⟩
theorem KR {G:cK}{H:cG}{lp:Option Nat}:SC G Tryz.prog 65 [lpV lp] H (fun v H'=> ∃b,v= .pointer (some ⟨b,0,none⟩)∧H'=Vr b [.int .i64 (-1), .int .i64 0,lpV lp, .int .i64 (-1), .int .i64 (-1), .slice none 0 0, .bool false]::H):=by
 refine sWk Tryz.func65 Tryz.ntmps65 ?_
 refine ws_ (wr_ (e_ asn (k:=on_ (qn_ (ws_ (wr_ (e_ (bld [(0,_)]) (k:=e_ mv (k:=e_ (bld [(0,_),(1,_),(2,_),(3,_)]) (k:=bxx (k:=fun b6=>?_)))))))))))
 refine gk (k:=rt_ Tryz.results65 (k:=?_))
 exact⟨_,hsb,b6,rfl,rfl⟩
theorem Hv {b:Nat}{lp:Option Nat}{im sk:SV}{ps:List Po}{H:cG}(hk:iK ⟨ps,0,0,false⟩) (hl:lp=none→ps= []):cJ (Vr b [.int .i64 (-1), .int .i64 0,lpV lp, .int .i64 (-1), .int .i64 (-1), .slice none 0 0, .bool false]::LPh lp im sk ps::H) (CuH b ⟨ps,0,0,false⟩::H):=by
 refine cJ.trans (cJ.keep (cJ.keep ((fe (f:=pgH) cJ.refl).trans (cJ.nilRow (e:=ePo) cJ.refl)))) ?_
 exact m6 (c:=⟨ps,0,0,false⟩) (x:=⟨lp,im,sk,SV.nil, [], -1⟩) ⟨hk,hl, .inl rfl⟩
theorem IE {G:cK}{H:cG}:SC G Tryz.prog 31 [] H (fun v H'=> ∃b,v= .pointer (some ⟨b,0,none⟩)∧H'=CuH b ⟨[],0,0,false⟩::H):=by
 refine sWk Tryz.func31 Tryz.ntmps31 ?_
 refine go ?_
 refine c1_ rfl (KR (lp:=none)) (k:=?_)
 rintro _ _ ⟨b1,rfl,rfl⟩
 refine gk (k:=rt_ Tryz.results31 (k:=?_))
 exact⟨_,cJ.trans (cJ.keep (qC cJ.refl)) (Hv (lp:=none) (im:=SV.nil) (sk:=SV.nil) (BX (by simp[fW]) ⟨ag,an⟩ (ag)) (fun _=> rfl)),b1,rfl,rfl⟩
theorem LN {G:cK}{H:cG}{s:SV}{ps:List Po} [hg:Glb G H] [hs:Sl H s eB (dx ps)] (hok:fW 0 ps) (hsm:e8 ps) (ht:dg ps≤100000000) (hn:(dx ps).length≤10000000000):SC G Tryz.prog 35 [s.val] H (fun v H'=> ∃b,v= .tuple #[.pointer (some ⟨b,0,none⟩), .nilIface]∧H'=CuH b ⟨ps,0,0,false⟩::H):=by
 refine sWk Tryz.func35 Tryz.ntmps35 ?_
 refine go ?_
 refine c1_ rfl (LM hok hsm hn) (k:=?_)
 rintro _ _ ⟨bl,im,sk,rfl,rfl⟩
 refine e_ mv (k:=e_ exr (k:=e_ exr (k:=e_ asn (k:=e_ asn (k:=on_ (qn_ (ws_ (ws_ (wr_ (e_ mv (k:=?_)))))))))))
 refine e_ (cM rfl) (k:=?_)
 refine gk (k:=eg (k:=go ?_))
 refine c1_ rfl (KR (lp:=some bl)) (k:=?_)
 rintro _ _ ⟨b15,rfl,rfl⟩
 refine gk (k:=rt_ Tryz.results35 (k:=?_))
 exact⟨_,Hv (lp:=some bl) (BX hok hsm ht) (fun h=> aW),b15,rfl,rfl⟩
theorem II {G:cK}{H:cG}{a:PtA}{q:PtD}{f:Nat}{s:ByteArray} [hg:Glb G H] [hp:dq H a q] (hok:jF q.fs q.ds) (hf:f<q.fs.length) (hsz:s.size≤1000000000):SC G Tryz.prog 12 [.pointer (some ⟨a.g,0,none⟩), .int .i64 ((f:Nat):Int), .string s] H (fun v H'=> ∃b,v= .pointer (some ⟨b,0,none⟩)∧H'=CuH b ⟨qn q.fs q.ds f s,0,0,false⟩::H):=by
 have hGT:=hok.goodT
 have hR:=MP (eE q.fs q.ds)
 obtain⟨_,_,hEn,hPB⟩:=hok.blocks
 have hel:=gS (dm (eE q.fs q.ds)) 0
 have hrl:=pS (eE q.fs q.ds)
 have htk:=hok.toks
 obtain⟨g1,g2,g3⟩:fW 0 (qn q.fs q.ds f s)∧e8 (qn q.fs q.ds f s)∧dg (qn q.fs q.ds f s)≤(eE q.fs q.ds).length:=lU hGT
 have hpok:=g1
 refine sWk Tryz.func12 Tryz.ntmps12 ?_
 refine ws_ (wr_ (e_ asn (k:=on_ (qn_ (ws_ (ws_ (wr_ (e_ mv (k:=e_ ilt (k:=e_ mv (k:=dN 9 24 (k:=fun h1=>eg_ mv (k:=eg_ mv (k:=eg_ nck (k:=eg_ fla (k:=eg_ fla (k:=eg_ ldv (k:=eg_ lnn (k:=eg_ ige (k:=e_ pkf (k:=on_ (edq))))))))))) (q:=on_ (qn_ (?_))))))))))))))
 refine wi_ (k:=fun h2=>?_) (m:=fun h2=>?_)
 ·exact absurd h2 (aa)
 refine wk_ (qn_ (ws_ (?_)))
 refine df cI (fun i=> [7].contains i) (fun k H=> (k=3→cQ H a.g [a.fv.val,a.dv.val,a.lv.val, .pointer (some ⟨a.w,0,none⟩),a.bl.val,a.im.val])) (af_ 0 (q:=cD fun H hH=>mv) (k:=af_ 1 (q:=cD fun H hH=>nck) (k:=af_ 2 (q:=cD fun H hH=>fla) (k:=?_))))
 refine cE 3 rfl rfl (a8) rfl (cD fun H hH=>bA) (?_)
 refine af_ 4 (q:=cD fun H hH=>mv) (k:=af_ 5 (q:=cD fun H hH=>mv) (k:=?_))
 refine cE 6 rfl rfl (a8) rfl (fun H hH=> cW (vs:= [_,_]) rfl (NZ hsz)) (?_)
 refine cN 7 rfl (a8) rfl (fun k hk=> fun hi=> ab) (cW (vs:= [_,_]) rfl (M7 hEn (aa))) ?_
 rintro _ H ⟨(⟨i,e,hei,hek,rfl⟩|⟨hno,rfl⟩),rfl⟩
 ·refine af_ 8 (q:=cD fun H hH=>mv) (k:=af_ 9 (q:=cD fun H hH=>exr) (k:=af_ 10 (q:=cD fun H hH=>exr) (k:=af_ 11 (q:=cD fun H hH=>asn) (k:=af_ 12 (q:=cD fun H hH=>asn) (k:=db (a8) (fun k hk=> fun hi=> absurd hk (ad)) (qn_ (ws_ (ws_ (wr_ (e_ mv (k:=e_ k8 (k:=on_ (qn_ (?_))))))))))))))
  refine eg (k:=wk_ (qn_ (ws_ (wr_ (?_)))))
  have hil:i<(dm (eE q.fs q.ds)).length:=by have:=(Yk.1 hei).1;omega
  obtain⟨r,hr⟩:∃r,(dm (eE q.fs q.ds))[i]? =some r:=⟨_,Yi hil⟩
  have h2:=lX (n:=0) hr
  rw[h2]at hei
  obtain rfl:=Option.some.inj hei
  have hrm:=Yj hr
  have hrv:=hR.vals r hrm
  have hrt:r.1∈(eE q.fs q.ds).map (·.1):=(hR.keys _).1 (List.mem_map_of_mem hrm)
  have hrb:∀x∈r.1,x<256:=by
   obtain⟨t,ht,hte⟩:=List.mem_map.1 hrt
   rw[←hte];exact(hGT.small t ht).2.2.1
  have hrk:r.1=f % 256::cF s:=by
   have:cF (dL r.1)=cF (qb f s):=hek
   rwa [fa hrb,vz]at this
  have hrc:r.2=qn q.fs q.ds f s:=by rw[hrv,hrk];all_goals rfl
  have hpt:=nO hr
  have hsplit:dB (dm (eE q.fs q.ds))=dB ((dm (eE q.fs q.ds)).take i)++(dx r.2++dB ((dm (eE q.fs q.ds)).drop (i+1))):=by
   conv=> lhs;rw[←List.take_append_drop (i+1) (dm (eE q.fs q.ds)),dB,List.flatMap_append]
   show dB _++dB _=_
   rw[hpt,Yf]
  obtain⟨A,hA⟩:∃A,A=(dB ((dm (eE q.fs q.ds)).take i)).length:=⟨_,rfl⟩
  have hcutE:((dB (dm (eE q.fs q.ds))).take (A+(dx r.2).length)).drop A=dx r.2:=by
   rw[hsplit,List.drop_take,hA,List.drop_left,show(dB ((dm (eE q.fs q.ds)).take i)).length+(dx r.2).length - (dB ((dm (eE q.fs q.ds)).take i)).length=(dx r.2).length from aa,List.take_left]
  have hlenE:A+(dx r.2).length≤(dB (dm (eE q.fs q.ds))).length:=by rw[hsplit,Ya,Ya,hA];omega
  have hcutS:∀(H2:cG) [Sl H2 a.bl eB (dB (dm (eE q.fs q.ds)))],Sl H2 (a.bl.cut 1 A (A+(dx r.2).length)) eB (dx r.2):=fun H2 h=> by
   have:=Sl.cut h (lo:=A) (hi:=A+(dx r.2).length) (aa) hlenE
   rw[hcutE]at this;exact this
  rw[←hrc]at g1 g2 g3
  rw[Nat.zero_add,←hA]at h2
  refine e_ mv (k:=e_ nck (k:=e_ fla (k:=e_ ldv (k:=e_ mv (k:=?_)))))
  refine c2_ rfl (Q0 h2) (k:=?_)
  rintro _ H ⟨rfl,rfl⟩
  refine e_ mv (k:=e_ exr (k:=e_ exr (k:=alc (k:=fun b9=>?_))))
  refine sto (k:=e_ asn (k:=on_ (qn_ (ws_ (?_)))))
  refine df cI (fun i=> [12].contains i) (fun k H=> (k=3→cQ H a.g [a.fv.val,a.dv.val,a.lv.val, .pointer (some ⟨a.w,0,none⟩),a.bl.val,a.im.val])∧(k=5→cQ H b9 [.string (dL r.1), .int .i64 ((r.2.length:Nat):Int), .int .i64 ((dg r.2:Nat):Int), .int .i64 ((A:Nat):Int), .int .i64 (((dx r.2).length:Nat):Int)])∧(k=7→cQ H b9 [.string (dL r.1), .int .i64 ((r.2.length:Nat):Int), .int .i64 ((dg r.2:Nat):Int), .int .i64 ((A:Nat):Int), .int .i64 (((dx r.2).length:Nat):Int)])∧(k=9→cQ H b9 [.string (dL r.1), .int .i64 ((r.2.length:Nat):Int), .int .i64 ((dg r.2:Nat):Int), .int .i64 ((A:Nat):Int), .int .i64 (((dx r.2).length:Nat):Int)])∧(k=11→Sl H a.bl eB (dB (dm (eE q.fs q.ds))))) (af_ 0 (q:=cD fun H hH=>mv) (k:=af_ 1 (q:=cD fun H hH=>nck) (k:=af_ 2 (q:=cD fun H hH=>fla) (k:=?_))))
  refine cE 3 rfl rfl (a8) rfl (cD fun H hH=>ak) (?_)
  refine af_ 4 (q:=cD fun H hH=>fla) (k:=?_)
  refine cE 5 rfl rfl (a8) rfl (cD fun H hH=>ar) (?_)
  refine af_ 6 (q:=cD fun H hH=>fla) (k:=?_)
  refine cE 7 rfl rfl (a8) rfl (cD fun H hH=>aF) (?_)
  refine af_ 8 (q:=cD fun H hH=>fla) (k:=?_)
  refine cE 9 rfl rfl (a8) rfl (cD fun H hH=>by have hN:=hH.2.2.2.1 rfl;exact ldv) (?_)
  refine af_ 10 (q:=cD fun H hH=>iad) (k:=?_)
  refine cE 11 rfl rfl (a8) rfl (cD fun H hH=>by have hN:=hH.2.2.2.2 rfl;exact eL rfl (bQ) A (A+(dx r.2).length) ⟨_,_,rfl,rfl⟩ ⟨_,_,rfl,aa⟩ (aa) hlenE) (?_)
  refine cN 12 rfl (a8) rfl (fun k hk=> ⟨fun hi=> ab,fun hi=> ab,fun hi=> ab,fun hi=> ab,fun hi=> ab⟩) (cW (vs:= [_]) rfl (LN (ps:=r.2) g1 g2 (aa) (aa))) ?_
  rintro _ _ ⟨bc,rfl,rfl⟩
  refine af_ 13 (q:=cD fun H hH=>mv) (k:=af_ 14 (q:=cD fun H hH=>exr) (k:=af_ 15 (q:=cD fun H hH=>exr) (k:=af_ 16 (q:=cD fun H hH=>asn) (k:=af_ 17 (q:=cD fun H hH=>asn) (k:=db (a8) (fun k hk=> ⟨fun hi=> ab,fun hi=> ab,fun hi=> ab,fun hi=> ab,fun hi=> absurd hk (ad)⟩) (qn_ (ws_ (ws_ (wr_ (e_ mv (k:=?_)))))))))))
  refine e_ (cM rfl) (k:=?_)
  refine on_ (qn_ (eg (k:=wk_ (qn_ (ws_ (wr_ (e_ mv (k:=e_ asn (k:=on_ (qn_ (wt_ (rt_ Tryz.results12 (k:=?_)))))))))))))
  exact⟨CuH bc ⟨r.2,0,0,false⟩::H,hsb,bc,rfl,by rw[hrc]⟩
 have hnil:qn q.fs q.ds f s= []:=JR fun hm=> by
  have h1:=(hR.keys _).2 hm
  obtain⟨r,hr,hrk⟩:=List.mem_map.1 h1
  obtain⟨j,hj⟩:=List.getElem?_of_mem hr
  have h2:=lX (n:=0) hj
  refine hno _ (Yj h2) ?_
  show cF (dL r.1)=cF (qb f s)
  rw[hrk,vz,fa]
  intro x hx
  rcases List.mem_cons.1 hx with rfl|hx
  ·omega
  ·exact k7 _ x hx
 refine af_ 8 (q:=cD fun H hH=>mv) (k:=af_ 9 (q:=cD fun H hH=>exr) (k:=af_ 10 (q:=cD fun H hH=>exr) (k:=af_ 11 (q:=cD fun H hH=>asn) (k:=af_ 12 (q:=cD fun H hH=>asn) (k:=db (a8) (fun k hk=> fun hi=> absurd hk (ad)) (qn_ (ws_ (ws_ (wr_ (e_ mv (k:=e_ k8 (k:=on_ (qn_ (?_))))))))))))))
 refine ift (k:=ws_ (wr_ (?_)))
 refine c0_ rfl (IE) (k:=?_)
 rintro _ _ ⟨b39,rfl,rfl⟩
 refine e_ asn (k:=on_ (qn_ (wt_ (qr_ (rt_ Tryz.results12 (k:=?_))))))
 exact⟨_,hsb,b39,rfl,by rw[hnil]⟩
theorem all_nil {c:Cfg}{f:Nat}{s S:MS}(h:kS c (f+1) s=([],S)):dV c s=(none,S):=by
 rw[kS]at h
 cases hn:(dV c s).1 with
 |none=>
  rw[hn]at h
  have h2:(dV c s).2=S:=congrArg Prod.snd h
  exact Prod.ext hn h2
 |some x=>
  rw[hn]at h
  have h1:=congrArg Prod.fst h
  cases h1
theorem all_cons {c:Cfg}{f:Nat}{s S:MS}{x:Hit}{r:List Hit}(h:kS c (f+1) s=(x::r,S)):(dV c s).1=some x∧kS c f (dV c s).2=(r,S):=by
 rw[kS]at h
 cases hn:(dV c s).1 with
 |none=>
  rw[hn]at h
  have h1:=congrArg Prod.fst h
  cases h1
 |some y=>
  rw[hn]at h
  have h1:=congrArg Prod.fst h
  have h2:=congrArg Prod.snd h
  simp only[List.cons.injEq]at h1 h2
  exact⟨by rw[h1.1],Prod.ext h1.2 h2⟩
theorem HH {c:Cfg}{f:Nat}{s:MS}{x:Hit}(h:(dV c s).1=some x):kS c (f+1) s=(x::(kS c f (dV c s).2).1,(kS c f (dV c s).2).2):=by rw[kS,h]
theorem HI {c:Cfg}{f:Nat}{s:MS}(h:(dV c s).1=none):kS c (f+1) s=([],(dV c s).2):=by rw[kS,h]
structure uE (c:Cfg) (f:Nat) (s:MS):Prop where
 one:1≤f
 in_:(c.ids.length:Int)≤((f:Nat):Int)+s.pl
theorem pA {c:Cfg}{s:MS}(h: -1≤s.pl):uE c (c.ids.length+1) s:=⟨aa,aa⟩
theorem uE.next {c:Cfg}{pss:List (List Po)}{f:Nat}{s:MS}{x:Hit}(hl:uE c (f+1) s) (hdr:l3 c pss.length) (hn:c.ids.length≤2147483647) (h:jO c pss s) (hx:(dV c s).1=some x):uE c f (dV c s).2:=by
 obtain⟨h1,h2,h3,h4⟩:=qd hdr hn (c.ids.length+1) s h
 have h5:=h4 (by intro h9;rw[show(qU c (c.ids.length+1) s).1=(dV c s).1 from rfl,hx]at h9;cases h9)
 have h6:=hl.in_
 unfold dV
 exact⟨aa,aa⟩
theorem tJ {c:Cfg}{pss:List (List Po)}{s:MS}(hdr:l3 c pss.length) (hn:c.ids.length≤2147483647) (h:jO c pss s):jO c pss (dV c s).2∧s.steps≤(dV c s).2.steps:=
 let ⟨h1,h2,_,_⟩:=qd hdr hn (c.ids.length+1) s h
 ⟨h1,h2⟩
def iQ (p:PrG) (q:PtD):List (List Po):=p.curs.map fun c=> qn q.fs q.ds c.1.toNat c.2
def nv (p:PrG) (q:PtD):Except Nat (List Ins):=match gD p with
 |none=> .error 20
 |some _=> if q.fs.length=p.avgs.length then(match lr p with
  |none=> .error 20
  |some ins=> .ok ins)else .error 9
theorem JD {p:PrG}{q:PtD}{ins:List Ins}(h:nv p q= .ok ins):(∃tb,gD p=some tb∧zL p ins tb)∧q.fs.length=p.avgs.length∧lr p=some ins:=by
 unfold nv at h
 cases hc:gD p with
 |none=> rw[hc]at h;cases h
 |some tb=>
  rw[hc]at h
  simp only at h
  split at h
  ·rename_i hl
   cases hd:lr p with
   |none=> rw[hd]at h;cases h
   |some l=>
    rw[hd]at h
    cases h
    obtain⟨code,h2⟩:=vX hc
    have h1:=h2.dec
    rw[hd]at h1
    cases h1
    exact⟨⟨tb,rfl,h2⟩,hl,rfl⟩
  ·cases h
end Go.Sx
