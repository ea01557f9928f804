import Derived.Test.YtcbidldebfibkaaGreatDoorQ16
set_option linter.unusedVariables false
set_option linter.unusedSimpArgs false
set_option linter.unusedSectionVars false
set_option linter.unnecessarySimpa false
set_option maxHeartbeats 0
namespace Go.Sx
open Go Go.Proofs
set_option maxRecDepth 100000
section
variable {G:cM}{H:cG}{sf sp s:SV}{fs:List FV}{lp:List (SV×SV)}{ps:Pcs}{next:Int}{xs:List Nat}
theorem Ca [hg:Glb G H] [Tab H 26 ig] [Tab H 24 fF] [hs:Sl H s eB xs] (hu:unE xs=none) (hn:xs.length≤1000000000) (hb:∀x∈xs,x<256):SC G Tryz.prog 15 [s.val] H (fun v H'=> v= .tuple #[.agg [SV.nil.val, .int .i64 0,SV.nil.val].toArray,G.err 10]∧H'=H):=
 (nN hn hb).mono fun v H' h=> by
   rcases h with⟨_,h1,h2⟩|⟨_,_,_,_,_,_,_,he,_⟩
   ·exact⟨h1,h2⟩
   ·rw[hu]at he;cases he
theorem oh [hg:Glb G H] [Tab H 26 ig] [Tab H 24 fF] [hs:Sl H s eB xs] {n:Nat}(hu:unE xs=some (fs,n,ps)) (hn:xs.length≤1000000000) (hb:∀x∈xs,x<256):SC G Tryz.prog 15 [s.val] H (fun v H'=>
 ∃lp F,∃sf sp:SV,iA F lp ps∧v= .tuple #[.agg [sf.val, .int .i64 ((n:Nat):Int),sp.val].toArray, .nilIface]∧H'=Row sf eF fs::Row sp eP lp::dH F::H):=
 (nN hn hb).mono fun v H' h=> by
   rcases h with⟨he,_⟩|⟨fs',n',ps',lp,F,sf,sp,he,hP,h1,h2⟩
   ·rw[hu]at he;cases he
   ·rw[hu]at he
    simp only[Option.some.injEq,Prod.mk.injEq]at he
    obtain⟨rfl,rfl,rfl⟩:=he
    exact⟨lp,F,sf,sp,hP,h1,h2⟩
end
theorem vx:∀(ps:Pcs) (e:Nat),ee ps= .error e→e<24
 | [],e,h=> bC
 |p::ps,e,h=> by
  rw[ee]at h
  split at h
  ·cases h;decide
  ·split at h
   ·cases h;decide
   ·split at h
    ·rename_i e' he;cases h;exact vx ps e he
    ·cases h
theorem EC {fs:List FV}{next:Int}{ps:Pcs}{e:Nat}(h:fG fs next ps= .error e):e<24:=by
 rw[fG]at h
 split at h
 ·cases h;decide
 ·split at h
  ·cases h;decide
  ·split at h
   ·rename_i e' he;cases h;exact vx ps e he
   ·cases h
theorem I5:∀e:Fin 24,kG e.val≠0:=ag
theorem B7:∀(M:Nat) (bl:List (Nat×List Nat)) (ps:Pcs),(∀q∈bl,(∀x∈q.2,x<256)∧q.2.length≤M)→ky bl=some ps→∀p∈ps,(∀x∈p.1,x<256)∧p.1.length≤M∧(∀x∈p.2,x≤9223372036854775807)∧p.2.length≤M
 |M, [],ps,_,h=> by simp only[ky,Option.some.injEq]at h;subst h;intro p hp;cases hp
 |M, [_],ps,_,h=> bC
 |M,a::b::r,ps,hb,h=> by
  rw[ky]at h
  split at h
  ·cases h
  ·split at h
   ·cases h
   ·rename_i d m hr
    split at h
    ·cases h
    ·rename_i hm
     split at h
     ·cases h
     ·rename_i ps' hp
      simp only[Option.some.injEq]at h
      subst h
      have ih:=B7 M r ps' (fun q hq=> hb q (by simp[hq])) hp
      obtain⟨q1,q2,q3,q4,q5⟩:=gx (fun x hx=> (hb b (aj)).1 x hx) hr
      have h1:=congrArg List.length q2
      have h2:=jy d (-1)
      have h3:=(hb b (aj)).2
      rw[Ya,Yg]at h1
      intro p hp
      rcases List.mem_cons.1 hp with rfl|hp
      ·exact⟨(hb a (aj)).1,(hb a (aj)).2,fun x hx=> (q5 x hx).2,aP⟩
      ·exact ih p hp
theorem vy:∀(ps:Pcs) (bl:List (Nat×List Nat)),ee ps= .ok bl→jK ps≤20*(da bl).length∧bl.length=2*ps.length
 | [],bl,h=> by simp only[ee,Except.ok.injEq]at h;subst h;simp[jK]
 |p::ps,bl,h=> by
  rw[ee]at h
  split at h
  ·cases h
  ·split at h
   ·cases h
   ·split at h
    ·cases h
    ·rename_i bl' hp
     simp only[Except.ok.injEq]at h
     subst h
     obtain⟨ih,ih2⟩:=vy ps bl' hp
     have hrl:=jy p.2 (-1)
     have hu1:=ju p.2.length
     have hu2:=ju p.1.length
     have hu3:=ju (uv p.2.length++dz (-1) p.2).length
     have e:da ((3,p.1)::(4,uv p.2.length++dz (-1) p.2)::bl')=fK 3 p.1++(fK 4 (uv p.2.length++dz (-1) p.2)++da bl'):=bu
     refine⟨?_,aJ⟩
     rw[e,Ya,Ya,ft,ft,jK,List.map_cons,List.sum_cons,←jK]
     rw[Ya]at hu3⊢
     omega
theorem AR {xs:List Nat}{fs:List FV}{n:Nat}{ps:Pcs}(hb:∀x∈xs,x<256) (hl:xs.length≤40000000) (h:unE xs=some (fs,n,ps)):e7 fs=true∧n≤1099511627776∧sH ps∧ps.length≤40000000∧jK ps≤900000000:=by
 have hp:=Bf hb h
 rw[unE]at h
 split at h
 ·cases h
 ·rename_i bl hi
  obtain⟨e1,e2,e3⟩:=jS hb hi
  have hxl:=congrArg List.length e1
  rw[kA]at hxl
  match bl,e1,e3,hxl,h with
  |a::b::r,e1,e3,hxl,h=>
   have hel:da (a::b::r)=fK a.1 a.2++(fK b.1 b.2++da r):=bu
   have hrl:(da r).length≤40000000:=by
    rw[hel,Ya,Ya]at hxl;omega
   simp only[nG]at h
   split at h
   ·cases h
   ·split at h
    ·cases h
    ·split at h
     ·cases h
     ·rename_i fs' n' hh ps' hr
      simp only[Option.some.injEq,Prod.mk.injEq]at h
      obtain⟨rfl,rfl,rfl⟩:=h
      have hok:=B7 40000000 r ps' (fun q hq=> ⟨(e3 q (by simp[hq])).2,by have:=qI hq;omega⟩) hr
      have hpk:=rh r ps' (fun q hq=> (e3 q (by simp[hq])).2) hr
      obtain⟨g1,g2⟩:=vy ps' r hpk
      have g3:=oF r
      rw[fG]at hp
      split at hp
      ·cases hp
      ·rename_i hc
       simp only[Bool.not_eq_false]at hc
       split at hp
       ·cases hp
       ·exact⟨hc,a8,fun p hp=> by obtain⟨k1,k2,k3,k4⟩:=hok p hp;exact⟨k1,a8,k3,a8⟩,a8,a8⟩
def isD (b:Nat):Bool:=decide (48≤b) && decide (b≤57)
def isW (b:Nat):Bool:=decide (97≤b) && decide (b≤122) ||decide (65≤b) && decide (b≤90) ||isD b ||decide (b=95) ||decide (128≤b)
def kj (s:List Nat) (i:Nat):Bool:=decide (0<i) && decide (i+1<s.length) && (decide (at0 s i=39) && isW (at0 s (i - 1)) && isW (at0 s (i+1)) ||decide (at0 s i=46) && isD (at0 s (i - 1)) && isD (at0 s (i+1)))
def inW (s:List Nat) (i:Nat):Bool:=decide (i<s.length) && (isW (at0 s i) ||kj s i)
structure Tok where
 text:List Nat
 value:Nat
 pos:Nat
 st:Nat
 en:Nat
def eL (s:List Nat):Nat→Option Nat×List Tok
 | 0=> (none, [])
 |i+1=>
  let p:=eL s i
  match inW s i,p.1 with
  |true,none=> (some i,p.2)
  |false,some a=> (none,p.2++ [⟨(s.take i).drop a,0,p.2.length,a,i⟩])
  |_,_=> p
def fe (s:List Nat):List Tok:=(eL s (s.length+1)).2
theorem kW {s:List Nat}{i:Nat}{out:List Tok}(h:eL s i=(none,out)) (hin:inW s i=true):eL s (i+1)=(some i,out):=by
 unfold eL;simp only[h,hin]
theorem oc {s:List Nat}{i a:Nat}{out:List Tok}(h:eL s i=(some a,out)) (hin:inW s i=false):eL s (i+1)=(none,out++ [⟨(s.take i).drop a,0,out.length,a,i⟩]):=by
 unfold eL;simp only[h,hin]
theorem qS {s:List Nat}{i a:Nat}{out:List Tok}(h:eL s i=(some a,out)) (hin:inW s i=true):eL s (i+1)=(some a,out):=by
 unfold eL;simp only[h,hin]
theorem oa {s:List Nat}{i:Nat}{out:List Tok}(h:eL s i=(none,out)) (hin:inW s i=false):eL s (i+1)=(none,out):=by
 unfold eL;simp only[h,hin]
theorem we (w:List Nat):∀(i:Nat) (a:Option Nat) (out:List Tok),eL w i=(a,out)→out.length≤i∧∀b,a=some b→b<i∧out.length≤b:=by
 intro i
 induction i with
 |zero=> intro a out h;cases h;simp
 |succ i ih=>
  intro a out h
  obtain⟨a0,o0,h0⟩:∃a0 o0,eL w i=(a0,o0):=⟨_,_,rfl⟩
  obtain⟨h1,h2⟩:=ih a0 o0 h0
  cases hin:inW w i <;> cases a0 with
  |none=>
   first
   |(rw[oa h0 hin]at h;cases h;exact⟨a8,fun b hb=> by cases hb⟩)
   |(rw[kW h0 hin]at h;cases h;exact⟨a8,fun b hb=> by cases hb;omega⟩)
  |some a0=>
   have:=h2 a0 rfl
   first
   |(rw[oc h0 hin]at h;cases h;simp only[Ya,Yb,Yc];exact⟨a8,fun b hb=> by cases hb⟩)
   |(rw[qS h0 hin]at h;cases h;exact⟨a8,fun b hb=> by cases hb;omega⟩)
def stI:Option Nat→Int
 |none=> -1
 |some a=> (a:Int)
theorem AZ {o:Option Nat}:stI o<0↔o=none:=by
 cases o with
 |none=> simp[stI]
 |some a=> simp only[stI,reduceCtorEq,iff_false];omega
def jM (w:List Nat) (i:Nat):Bool:=(decide (65≤at0 w i) && decide (at0 w i≤90)) ||(decide (0<i) && decide (at0 w (i - 1)=195) && decide (128≤at0 w i) && decide (at0 w i≤158) && !decide (at0 w i=151))
def kH (w:List Nat) (i:Nat):Nat:=bif jM w i then at0 w i+32 else at0 w i
def j6 (w:List Nat):List Nat:=(List.range w.length).map (kH w)
def jL (w:List Nat) (i:Nat):List Nat:=(j6 w).take i++w.drop i
theorem fJ (w:List Nat):(j6 w).length=w.length:=by simp[j6]
theorem qp {w:List Nat}{i:Nat}(h:i≤w.length):(jL w i).length=w.length:=by
 simp only[jL,Ya,Yg,fJ,Yo];omega
theorem qK {w:List Nat}{i:Nat}(h:i<w.length):w[i]? =some (at0 w i):=by
 rw[at0,List.getD_eq_getElem?_getD,Yi h];all_goals rfl
theorem CN {w:List Nat}{i:Nat}(h:i<w.length):(j6 w)[i]? =some (kH w i):=by
 simp[j6,h]
theorem vO {w:List Nat}{i:Nat}(h:i<w.length):(jL w i)[i]? =some (at0 w i):=by
 rw[jL,Yu (by simp[fJ];omega),Yg,fJ,Nat.min_eq_left (a8),Nat.sub_self,Xh,Nat.add_zero,qK h]
theorem uz {w:List Nat}{i:Nat}(h:i<w.length):(j6 w).take (i+1)=(j6 w).take i++ [kH w i]:=by
 rw[List.take_add_one,CN h];all_goals rfl
theorem uy {w:List Nat}{i:Nat}(h:i<w.length):jL w (i+1)=(jL w i).set i (kH w i):=by
 have e:w.drop i=at0 w i::w.drop (i+1):=by
  rw[List.drop_eq_getElem_cons h];congr 1
  have:=qK h
  rw[Yi h]at this;exact Option.some.inj this
 have hl:((j6 w).take i).length=i:=by rw[Yg,fJ];omega
 rw[jL,jL,uz h,e,List.set_append_right _ _ (a8),hl,Nat.sub_self,List.set_cons_zero,Yf];all_goals rfl
theorem CL {w:List Nat}{i:Nat}(h:i<w.length) (hc:jM w i=true):(jL w i).set i (at0 w i+32)=jL w (i+1):=by
 rw[uy h,kH,hc];all_goals rfl
theorem FJ {w:List Nat}{i:Nat}(h:i<w.length) (hc:jM w i=false):jL w i=jL w (i+1):=by
 rw[uy h,kH,hc]
 apply List.ext_getElem?
 intro j
 by_cases hj:i=j
 ·subst hj
  rw[List.getElem?_set_self (by rw[qp (a8)];exact h),vO h];all_goals rfl
 ·rw[List.getElem?_set_ne hj]
theorem CM (w:List Nat):jL w w.length=j6 w:=by
 rw[jL,List.drop_of_length_le (Nat.le_refl _),List.take_of_length_le (by rw[fJ];exact Nat.le_refl _),Ym]
theorem Al (w:List Nat):jL w 0=w:=by simp[jL]
theorem CO {w:List Nat}(hw:∀x∈w,x<256) (i:Nat):kH w i<256:=by
 have h0:at0 w i<256:=by
  rw[at0,List.getD_eq_getElem?_getD]
  cases h:w[i]? with
  |none=> decide
  |some x=> exact hw x (Yj h)
 rw[kH]
 cases hc:jM w i with
 |false=> exact h0
 |true=>
  simp only[jM,Bool.or_eq_true,Bool.and_eq_true,decide_eq_true_eq]at hc
  simp only[cond_true];omega
def isV (b:Nat):Bool:=decide (b=97) ||decide (b=101) ||decide (b=105) ||decide (b=111) ||decide (b=117)
def pK:Option Bool→List Nat→List Bool
 |_, []=> []
 |p,b::r=>
  let v:=isV b ||(decide (b=121) && (match p with|some q=> !q|none=> false))
  v::pK (some v) r
def vow (w:List Nat):List Bool:=pK none w
def pA (w:List Nat):Bool:=(vow w).any id
def ma (w:List Nat):Bool:=decide (2≤w.length) && decide (at0 w (w.length - 1)=at0 w (w.length - 2)) && !((vow w).getD (w.length - 1) false)
def gr (w:List Nat):Bool:=decide (3≤w.length) && !(decide (at0 w (w.length - 1)=119) ||decide (at0 w (w.length - 1)=120) ||decide (at0 w (w.length - 1)=121)) && (!((vow w).getD (w.length - 3) false) && (vow w).getD (w.length - 2) false && !((vow w).getD (w.length - 1) false))
def cX (w e:List Nat):Bool:=decide (e.length≤w.length) && decide (w.drop (w.length - e.length)=e)
def jF (w e:List Nat):Bool:=decide (e.length≤w.length) && decide (w.take e.length=e)
abbrev fQ:=List Nat×List Nat
def lsC (w:List Nat) (best:Option fQ) (r:fQ):Bool:=cX w r.1 && (match best with|none=> true|some b=> decide (b.1.length<r.1.length))
def mz (w:List Nat) (best:Option fQ) (r:fQ):Option fQ:=bif lsC w best r then some r else best
def dR (rs:List fQ) (w:List Nat):Option fQ:=rs.foldl (mz w) none
theorem mQ:∀(w:List Nat) (p:Option Bool),(pK p w).length=w.length
 | [],_=> rfl
 |b::r,p=> by simp only[pK,Yb,mQ r]
theorem ew (w:List Nat):(vow w).length=w.length:=mQ w none
theorem v8:∀(w:List Nat) (p:Option Bool) (i:Nat),i<w.length→(pK p w)[i]? =some (isV (at0 w i) ||(decide (at0 w i=121) && (match (if i=0 then p else(pK p w)[i - 1]?)with|some q=> !q|none=> false)))
 | [],_,_,h=> aR
 |b::r,p,0,_=> by simp[pK,at0]
 |b::r,p,i+1,h=> by
  have ih:=v8 r (some (isV b ||(decide (b=121) && (match p with|some q=> !q|none=> false)))) i (bY)
  simp only[pK,Xc,ih,at0,List.getD_cons_succ,Nat.add_eq_zero_iff,Nat.add_sub_cancel]
  cases i with
  |zero=> simp
  |succ i=> simp
theorem AO {w:List Nat}{i:Nat}(h:i<w.length):(vow w)[i]? =some (isV (at0 w i) ||(decide (at0 w i=121) && (decide (0<i) && !((vow w).getD (i - 1) false)))):=by
 rw[vow,v8 w none i h]
 by_cases h0:i=0
 ·simp[h0]
 ·rw[if_neg h0]
  have hl:i - 1<(pK none w).length:=by rw[mQ];omega
  rw[List.getD_eq_getElem?_getD,Yi hl]
  simp[Nat.pos_of_ne_zero h0]
def vAt (w:List Nat) (i:Nat):Bool:=isV (at0 w i) ||(decide (at0 w i=121) && (decide (0<i) && !((vow w).getD (i - 1) false)))
def nF (w:List Nat) (i:Nat):List Bool:=(vow w).take i++List.replicate (w.length - i) false
theorem rN {w:List Nat}{i:Nat}(h:i≤w.length):(nF w i).length=w.length:=by
 simp only[nF,Ya,Yg,ew,List.length_replicate];omega
theorem BP (w:List Nat):nF w 0=List.replicate w.length false:=by simp[nF]
theorem Dj (w:List Nat):nF w w.length=vow w:=by
 rw[nF,List.take_of_length_le (by rw[ew];exact Nat.le_refl _),Nat.sub_self];simp
theorem Di {w:List Nat}{i j:Nat}(h:j<i) (hi:i≤w.length):(nF w i)[j]? =some ((vow w).getD j false):=by
 rw[nF,Yv (cB),List.getElem?_take_of_lt h,List.getD_eq_getElem?_getD,Yi (by rw[ew];omega)];all_goals rfl
theorem tm {w:List Nat}{i:Nat}(h:i<w.length) {b:Bool}(hb:vAt w i=b):(nF w i).set i b=nF w (i+1):=by
 have hl:((vow w).take i).length=i:=cB
 have hg:=AO h
 rw[show(isV (at0 w i) ||(decide (at0 w i=121) && (decide (0<i) && !((vow w).getD (i - 1) false))))=b from hb]at hg
 rw[nF,nF,List.take_add_one,hg,List.set_append_right _ _ (a8),hl,Nat.sub_self,show w.length - i=(w.length - (i+1))+1 from a8,List.replicate_succ,List.set_cons_zero,Yf];all_goals rfl
theorem BQ {w:List Nat}{i:Nat}(h:i<w.length) (hb:vAt w i=false):nF w i=nF w (i+1):=by
 rw[←tm h hb]
 apply List.ext_getElem?
 intro j
 by_cases hj:i=j
 ·subst hj
  rw[List.getElem?_set_self (by rw[rN (a8)];exact h),nF,Yu (cB),Yg,ew,Nat.min_eq_left (a8),Nat.sub_self,show w.length - i=(w.length - (i+1))+1 from a8,List.replicate_succ];all_goals rfl
 ·rw[List.getElem?_set_ne hj]
theorem iC {w:List Nat}{i:Nat}(h:i<w.length):(vow w)[i]? =some ((vow w).getD i false):=by
 rw[List.getD_eq_getElem?_getD,Yi (by rw[ew];exact h)];all_goals rfl
def iz (rs:List fQ):List (List Nat):=rs.flatMap fun r=> [r.1,r.2]
theorem wR (rs:List fQ):(iz rs).length=2*rs.length:=by
 induction rs with
 |nil=> rfl
 |cons r rs ih=> simp only[iz,List.flatMap_cons,Ya,Yb,Yc]at ih⊢;omega
theorem vQ:∀{rs:List fQ}{k:Nat}{r:fQ},rs[k]? =some r→(iz rs)[2*k]? =some r.1∧(iz rs)[2*k+1]? =some r.2
 |r0::rs,0,r,h=> by cases h;exact⟨rfl,rfl⟩
 |r0::rs,k+1,r,h=> by
  have ih:=vQ (rs:=rs) (k:=k) (r:=r) (bY)
  have e:iz (r0::rs)=r0.1::r0.2::iz rs:=rfl
  rw[e,show 2*(k+1)=(2*k+1)+1 from a8,Xc,Xc,show(2*k+1)+1+1=(2*k+2)+1 from a8,Xc,show 2*k+2=(2*k+1)+1 from a8,Xc]
  exact ih
def iS (strs:List ByteArray) (rs:List fQ):Prop:=strs.map cF=iz rs
theorem iS.length {strs:List ByteArray}{rs:List fQ}(h:iS strs rs):strs.length=2*rs.length:=by
 rw[←wR,←show strs.map cF=iz rs from h,Yh]
theorem iS.get {strs:List ByteArray}{rs:List fQ}(h:iS strs rs) {k:Nat}{r:fQ}(hr:rs[k]? =some r):∃a b:ByteArray,strs[2*k]? =some a∧cF a=r.1∧strs[2*k+1]? =some b∧cF b=r.2:=by
 obtain⟨h1,h2⟩:=vQ hr
 rw[←show strs.map cF=iz rs from h,Xd]at h1 h2
 cases h3:strs[2*k]? with
 |none=> rw[h3]at h1;cases h1
 |some a=>
  cases h4:strs[2*k+1]? with
  |none=> rw[h4]at h2;cases h2
  |some b=> rw[h3]at h1;rw[h4]at h2;exact⟨a,b,rfl,Option.some.inj h1,rfl,Option.some.inj h2⟩
def atI:Option (Nat×fQ)→Int
 |none=> -1
 |some p=> ((2*p.1:Nat):Int)
theorem BJ {o:Option (Nat×fQ)}:atI o<0↔o=none:=by
 cases o with
 |none=> simp[atI]
 |some p=> simp only[atI,reduceCtorEq,iff_false];omega
def lR (v:List Bool):Nat→Nat
 | 0=> 0
 |i+1=> lR v i+(bif decide (0<i) && v.getD (i - 1) false && !(v.getD i false)then 1 else 0)
def gm (w:List Nat):Nat:=lR (vow w) w.length
theorem uc (v:List Bool):∀i,lR v i≤i
 | 0=> Nat.le_refl _
 |i+1=> by have:=uc v i;simp only[lR];cases(decide (0<i) && v.getD (i - 1) false && !(v.getD i false)) <;> simp <;> omega
theorem ou (v:List Bool):lR v 1=0:=by simp[lR]
theorem z7 {v:List Bool}{i:Nat}(h:v[i]? =some true):v.any id=true:=List.any_eq_true.2 ⟨true,Yj h,rfl⟩
theorem w5 {v:List Bool}(h:∀j,j<v.length→v[j]? =some false):v.any id=false:=by
 rw[List.any_eq_false]
 intro x hx
 obtain⟨j,hj⟩:=List.mem_iff_getElem?.1 hx
 have hl:=(Yk.1 hj).1
 rw[h j hl]at hj
 cases hj;simp
theorem qe {rs:List fQ}{w:List Nat}{i:Nat}{r:fQ}(h:rs[i]? =some r):(rs.take (i+1)).foldl (mz w) none=mz w ((rs.take i).foldl (mz w) none) r:=by
 rw[List.take_add_one,h,Option.toList_some,List.foldl_append];all_goals rfl
def gY:List fQ:= [([115,115,101,115], [115,115]),([105,101,115], [105]),([115,115], [115,115]),([115], [])]
def jx:List fQ:= [([101,101,100], [101,101]),([101,100], []),([105,110,103], [])]
def ir:List fQ:= [([97,116,105,111,110,97,108], [97,116,101]),([116,105,111,110,97,108], [116,105,111,110]),([101,110,99,105], [101,110,99,101]),([97,110,99,105], [97,110,99,101]),([105,122,101,114], [105,122,101]),([97,98,108,105], [97,98,108,101]),([97,108,108,105], [97,108]),([101,110,116,108,105], [101,110,116]),([101,108,105], [101]),([111,117,115,108,105], [111,117,115]),([105,122,97,116,105,111,110], [105,122,101]),([97,116,105,111,110], [97,116,101]),([97,116,111,114], [97,116,101]),([97,108,105,115,109], [97,108]),([105,118,101,110,101,115,115], [105,118,101]),([102,117,108,110,101,115,115], [102,117,108]),([111,117,115,110,101,115,115], [111,117,115]),([97,108,105,116,105], [97,108]),([105,118,105,116,105], [105,118,101]),([98,105,108,105,116,105], [98,108,101])]
def iZ:List fQ:= [([105,99,97,116,101], [105,99]),([97,116,105,118,101], []),([97,108,105,122,101], [97,108]),([105,99,105,116,105], [105,99]),([105,99,97,108], [105,99]),([102,117,108], []),([110,101,115,115], [])]
def eQ:List fQ:= [([97,108], []),([97,110,99,101], []),([101,110,99,101], []),([101,114], []),([105,99], []),([97,98,108,101], []),([105,98,108,101], []),([97,110,116], []),([101,109,101,110,116], []),([109,101,110,116], []),([101,110,116], []),([105,111,110], []),([111,117], []),([105,115,109], []),([97,116,101], []),([105,116,105], []),([111,117,115], []),([105,118,101], []),([105,122,101], [])]
def im:List (List Nat):= [[97], [97,110], [97,110,100], [97,114,101], [97,115], [97,116], [98,101], [98,117,116], [98,121], [102,111,114], [102,114,111,109], [104,97,115], [104,101], [105,102], [105,110], [105,110,116,111], [105,115], [105,116], [105,116,115], [110,111], [110,111,116], [111,102], [111,110], [111,114], [115,104,101], [115,111], [115,117,99,104], [116,104,97,116], [116,104,101], [116,104,101,105,114], [116,104,101,110], [116,104,101,114,101], [116,104,101,115,101], [116,104,101,121], [116,104,105,115], [116,111], [119,97,115], [119,101], [119,101,114,101], [119,105,108,108], [119,105,116,104], [121,111,117]]
def kV (w e:List Nat):List Nat:=w.take (w.length - e.length)
def dt (w:List Nat):List Nat:=w.take (w.length - 1)
def fA (rs:List fQ) (most:Nat) (w:List Nat):List Nat:=
 match dR rs w with
 |some r=> bif decide (most<gm (kV w r.1))then kV w r.1++r.2 else w
 |none=> w
def gI (w:List Nat):List Nat:=
 match dR gY w with
 |some r=> kV w r.1++r.2
 |none=> w
def kN (w:List Nat):List Nat:=
 bif cX w [97,116] ||cX w [98,108] ||cX w [105,122]then w++ [101]
 else bif ma w && !(decide (at0 w (w.length - 1)=108) ||decide (at0 w (w.length - 1)=115) ||decide (at0 w (w.length - 1)=122))then dt w
 else bif decide (gm w=1) && gr w then w++ [101]else w
def gq (w:List Nat):List Nat:=
 match dR jx w with
 |none=> w
 |some r=> bif decide (r.1= [101,101,100])then(bif decide (0<gm (kV w r.1))then kV w r.1++r.2 else w)else bif pA (kV w r.1)then kN (kV w r.1)else w
def jc (w:List Nat):List Nat:=bif cX w [121] && pA (dt w)then dt w++ [105]else w
def l8 (w:List Nat):List Nat:=
 match dR eQ w with
 |some r=> bif decide (r.1= [105,111,110]) && !cX (kV w r.1) [115] && !cX (kV w r.1) [116]then w else fA eQ 1 w
 |none=> w
def gX (w:List Nat):List Nat:=bif cX w [101] && (decide (1<gm (dt w)) ||decide (gm (dt w)=1) && !gr (dt w))then dt w else w
def nL (w:List Nat):List Nat:=bif cX (gX w) [108,108] && decide (1<gm (gX w))then dt (gX w)else gX w
def nT (b:Nat):Bool:=decide (97≤b) && decide (b≤122)
def kp (w:List Nat):List Nat:=bif decide (2<w.length) && cX w [39,115]then w.take (w.length - 2)else w
def rQ (w:List Nat):List Nat:=bif decide (w.length<3) || !(w.all nT)then w else nL (l8 (fA iZ 0 (fA ir 0 (jc (gq (gI w))))))
def iD (w:List Nat):List Nat:=rQ (kp w)
theorem CC {w:List Nat}{rs:List fQ}:∀{best:Option fQ}{r:fQ},rs.foldl (mz w) best=some r→(best=some r)∨(r∈rs∧cX w r.1=true):=by
 induction rs with
 |nil=> intro best r h;exact .inl h
 |cons x rs ih=>
  intro best r h
  rcases ih (best:=mz w best x) (r:=r) h with h1|⟨h1,h2⟩
  ·rw[mz]at h1
   cases hc:lsC w best x with
   |true=>
    rw[hc]at h1;cases h1
    simp only[lsC,Bool.and_eq_true]at hc
    exact .inr ⟨aj,hc.1⟩
   |false=> rw[hc]at h1;exact .inl h1
  ·exact .inr ⟨Xa _ h1,h2⟩
theorem lS {w:List Nat}{rs:List fQ}{r:fQ}(h:dR rs w=some r):r∈rs∧cX w r.1=true:=by
 rcases CC h with h|h
 ·cases h
 ·exact h
theorem uK (w e:List Nat):(kV w e).length≤w.length:=by simp only[kV,Yg];omega
theorem lX (w:List Nat):(dt w).length≤w.length:=by simp only[dt,Yg];omega
theorem iN {rs:List fQ}{most k:Nat}(h:∀r∈rs,r.2.length≤k) (w:List Nat):(fA rs most w).length≤w.length+k:=by
 rw[fA]
 cases hl:dR rs w with
 |none=> simp only;omega
 |some r=>
  have h1:=h r (lS hl).1
  have h2:=uK w r.1
  simp only
  cases decide (most<gm (kV w r.1))with
  |true=> simp only[cond_true,Ya];omega
  |false=> simp only[cond_false];omega
theorem mS (w:List Nat):(gI w).length≤w.length+10:=by
 rw[gI]
 cases hl:dR gY w with
 |none=> simp only;omega
 |some r=>
  have h1:∀r∈gY,r.2.length≤10:=ag
  have:=h1 r (lS hl).1
  have h2:=uK w r.1
  simp only[Ya];omega
theorem CB (w:List Nat):(kN w).length≤w.length+10:=by
 have h1:=lX w
 unfold kN
 cases(cX w [97,116] ||cX w [98,108] ||cX w [105,122])with
 |true=> simp
 |false=>
  simp only[cond_false]
  cases(ma w && !(decide (at0 w (w.length - 1)=108) ||decide (at0 w (w.length - 1)=115) ||decide (at0 w (w.length - 1)=122)))with
  |true=> simp only[cond_true];omega
  |false=>
   simp only[cond_false]
   cases(decide (gm w=1) && gr w) <;> simp
theorem mR (w:List Nat):(gq w).length≤w.length+20:=by
 rw[gq]
 cases hl:dR jx w with
 |none=> simp only;omega
 |some r=>
  have h1:∀r∈jx,r.2.length≤10:=ag
  have:=h1 r (lS hl).1
  have h2:=uK w r.1
  have h3:=CB (kV w r.1)
  simp only
  cases decide (r.1= [101,101,100])with
  |true=>
   simp only[cond_true]
   cases decide (0<gm (kV w r.1))with
   |true=> simp only[cond_true,Ya];omega
   |false=> simp only[cond_false];omega
  |false=>
   simp only[cond_false]
   cases pA (kV w r.1)with
   |true=> simp only[cond_true];omega
   |false=> simp only[cond_false];omega
theorem pg (w:List Nat):(jc w).length≤w.length+10:=by
 have h1:=lX w
 rw[jc]
 cases(cX w [121] && pA (dt w))with
 |true=> simp only[cond_true,Ya,Yb,Yc];omega
 |false=> simp only[cond_false];omega
theorem qW (w:List Nat):(l8 w).length≤w.length+10:=by
 have h1:=iN (rs:=eQ) (most:=1) (k:=10) (ag) w
 rw[l8]
 cases dR eQ w with
 |none=> simp only;omega
 |some r=>
  simp only
  cases(decide (r.1= [105,111,110]) && !cX (kV w r.1) [115] && !cX (kV w r.1) [116])with
  |true=> simp only[cond_true];omega
  |false=> simp only[cond_false];omega
theorem C5 (w:List Nat):(nL w).length≤w.length:=by
 have h1:(gX w).length≤w.length:=by
  have h1:=lX w
  rw[gX]
  cases(cX w [101] && (decide (1<gm (dt w)) ||decide (gm (dt w)=1) && !gr (dt w)))with
  |true=> simp only[cond_true];omega
  |false=> simp only[cond_false];omega
 have h2:=lX (gX w)
 rw[nL]
 cases(cX (gX w) [108,108] && decide (1<gm (gX w)))with
 |true=> simp only[cond_true];omega
 |false=> simp only[cond_false];omega
theorem nU {rs:List fQ}(h:((iz rs).all fun l=> l.all fun x=> decide (x<256))=true):iS ((iz rs).map dO) rs:=by
 rw[iS,List.map_map]
 conv=> rhs;rw[←List.map_id (iz rs)]
 apply List.map_congr_left
 intro l hl
 have h1:=List.all_eq_true.1 h l hl
 exact dK fun x hx=> Yt (List.all_eq_true.1 h1 x hx)
def vc (b:Bool):Nat:=bif b then 118 else 99
theorem LB {b:Bool}:vc b=118↔b=true:=by cases b <;> decide
theorem JB {b:Bool}:vc b=99↔b=false:=by cases b <;> decide
def mD (w:List Nat):List Nat:=(vow w).map vc
theorem kS (w:List Nat):(mD w).length=w.length:=by rw[mD,Yh,ew]
theorem FH (w:List Nat):∀x∈mD w,x<256:=by
 intro x hx
 obtain⟨b,_,rfl⟩:=List.mem_map.1 hx
 cases b <;> decide
theorem l4 {w:List Nat}{i:Nat}(h:i<w.length):(mD w)[i]? =some (vc ((vow w).getD i false)):=by
 rw[mD,Xd,iC h];all_goals rfl
theorem FI {w:List Nat}{i:Nat}(h:i<w.length):at0 (mD w) i=vc ((vow w).getD i false):=by
 rw[at0,List.getD_eq_getElem?_getD,l4 h];all_goals rfl
theorem JA {w:List Nat}{i:Nat}(h:i<w.length):(vow w).getD i false=vAt w i:=by
 rw[List.getD_eq_getElem?_getD,AO h];all_goals rfl
theorem n9 {w:List Nat}{i:Nat}(h:i<w.length) {b:Bool}(hb:vAt w i=b):(mD w).take (i+1)=(mD w).take i++ [vc b]:=by
 rw[List.take_add_one,l4 h,JA h,hb];all_goals rfl
theorem Ak {w:List Nat}{i j:Nat}(h:j<i) (hi:i≤w.length):((mD w).take i)[j]? =some (vc ((vow w).getD j false)):=by
 rw[List.getElem?_take_of_lt h,l4 (a8)]
def mC (q:ByteArray):ByteArray:=dO (mD (cF q))
theorem uM (q:ByteArray):cF (mC q)=mD (cF q):=dK (FH _)
theorem lA (q:ByteArray):(mC q).size=q.size:=by rw[mC,fg,kS,cJ]
theorem qo {q:ByteArray}{i:Nat}(h:i<q.size):at0 (cF (mC q)) i=vc ((vow (cF q)).getD i false):=by
 rw[uM,FI (by rw[cJ];exact h)]
theorem CK {q:ByteArray}(h:3≤q.size):decide (cF ((mC q).extract (q.size - 3) (mC q).size)= [99,118,99])=(!((vow (cF q)).getD (q.size - 3) false) && (vow (cF q)).getD (q.size - 2) false && !((vow (cF q)).getD (q.size - 1) false)):=by
 have hl:=cJ q
 have e:cF ((mC q).extract (q.size - 3) (mC q).size)= [vc ((vow (cF q)).getD (q.size - 3) false),vc ((vow (cF q)).getD (q.size - 2) false),vc ((vow (cF q)).getD (q.size - 1) false)]:=by
  rw[gn,uM,lA,List.take_of_length_le (by rw[kS,hl];exact Nat.le_refl _)]
  apply List.ext_getElem?
  intro j
  rw[Xh]
  by_cases h0:j=0
  ·subst h0;rw[Nat.add_zero,l4 (a8)];all_goals rfl
  ·by_cases h1:j=1
   ·subst h1;rw[show q.size - 3+1=q.size - 2 from a8,l4 (a8)];all_goals rfl
   ·by_cases h2:j=2
    ·subst h2;rw[show q.size - 3+2=q.size - 1 from a8,l4 (a8)];all_goals rfl
    ·rw[List.getElem?_eq_none (by rw[kS];omega),List.getElem?_eq_none (au)]
 rw[e]
 cases(vow (cF q)).getD (q.size - 3) false <;> cases(vow (cF q)).getD (q.size - 2) false <;> cases(vow (cF q)).getD (q.size - 1) false <;> decide
theorem lD {w e:List Nat}(h:cX w e=true):e.length≤w.length:=by simp[cX]at h;exact h.1
theorem qC {w:List Nat}(h:ma w=true):2≤w.length:=by simp[ma]at h;exact h.1.1
theorem ov {w:List Nat}(h:1≤w.length) (x:Nat):cX w [x]=decide (at0 w (w.length - 1)=x):=by
 have e:w.drop (w.length - 1)= [at0 w (w.length - 1)]:=by
  apply List.ext_getElem?
  intro j
  rw[Xh]
  by_cases h0:j=0
  ·subst h0;rw[Nat.add_zero,qK (a8)];all_goals rfl
  ·rw[List.getElem?_eq_none (a8),List.getElem?_eq_none (au)]
 rw[cX,Ys (show [x].length≤w.length from h),Bool.true_and,show w.length - [x].length=w.length - 1 from rfl,e]
 exact decide_eq_decide.2 (aj)
theorem DD (w:List Nat):(iD w).length≤w.length+100:=by
 have h0:(kp w).length≤w.length:=by
  rw[kp]
  cases(decide (2<w.length) && cX w [39,115])with
  |true=> simp only[cond_true,Yg];omega
  |false=> exact Nat.le_refl _
 rw[iD,rQ]
 cases(decide ((kp w).length<3) || !(kp w).all nT)with
 |true=> simp only[cond_true];omega
 |false=>
  simp only[cond_false]
  have a1:=mS (kp w)
  have a2:=mR (gI (kp w))
  have a3:=pg (gq (gI (kp w)))
  have a4:=iN (rs:=ir) (most:=0) (k:=10) (ag) (jc (gq (gI (kp w))))
  have a5:=iN (rs:=iZ) (most:=0) (k:=10) (ag) (fA ir 0 (jc (gq (gI (kp w)))))
  have a6:=qW (fA iZ 0 (fA ir 0 (jc (gq (gI (kp w))))))
  have a7:=C5 (l8 (fA iZ 0 (fA ir 0 (jc (gq (gI (kp w)))))))
  omega
theorem all_take {w:List Nat}{i:Nat}(h:∀j,j<i→nT (at0 w j)=true) (hi:i=w.length):w.all nT=true:=by
 rw[List.all_eq_true]
 intro x hx
 obtain⟨j,hj⟩:=List.mem_iff_getElem?.1 hx
 have hl:=(Yk.1 hj).1
 have:=h j (a8)
 rwa [at0,List.getD_eq_getElem?_getD,hj]at this
theorem BK {w:List Nat}{i:Nat}(hi:i<w.length) (h:nT (at0 w i)=false):w.all nT=false:=by
 cases ha:w.all nT with
 |false=> rfl
 |true=>
  have:=List.all_eq_true.1 ha (at0 w i) (Yj (qK hi))
  rw[h]at this;cases this
def leB (m N:Nat):List Nat:=(List.range m).map fun j=> N / 256 ^ j % 256
theorem fE (m N:Nat):(leB m N).length=m:=by simp[leB]
theorem Ku (m N:Nat):∀x∈leB m N,x<256:=by
 intro x hx
 obtain⟨j,_,rfl⟩:=List.mem_map.1 hx
 exact Nat.mod_lt _ (ag)
theorem yr (m N:Nat):leB (m+1) N=leB m N++ [N / 256 ^ m % 256]:=by
 simp[leB,List.range_succ]
theorem qh {m N j:Nat}(h:j<m):(leB m N)[j]? =some (N / 256 ^ j % 256):=by
 rw[leB,Xd,List.getElem?_range h];all_goals rfl
theorem yp {m j N y:Nat}(h:j<m):(N+256 ^ m*y) / 256 ^ j % 256=N / 256 ^ j % 256:=by
 obtain⟨d,rfl⟩:∃d,m=j+1+d:=⟨m - (j+1),a8⟩
 have e:256 ^ (j+1+d)*y=256 ^ j*(256*(256 ^ d*y)):=by
  rw[Nat.pow_add,Nat.pow_succ,Nat.mul_assoc,Nat.mul_assoc]
 rw[e,Nat.add_mul_div_left _ _ (Nat.pow_pos (ag)),Nat.add_mul_mod_self_left]
theorem Bo (m N y:Nat):leB m (N+256 ^ m*y)=leB m N:=by
 rw[leB,leB]
 apply List.map_congr_left
 intro j hj
 exact yp (List.mem_range.1 hj)
theorem jT (T:Nat):2 ^ T=256 ^ (T / 8)*2 ^ (T % 8):=by
 have:(256:Nat)=2 ^ 8:=rfl
 rw[this,←Nat.pow_mul,←Nat.pow_add]
 congr 1;omega
def gV (w:Nat):List Nat→Nat
 | []=> 0
 |x::l=> x+2 ^ w*gV w l
theorem tW (w x:Nat):∀l:List Nat,gV w (l++ [x])=gV w l+2 ^ (w*l.length)*x
 | []=> by simp[gV]
 |y::l=> by
  rw[Yd,gV,tW w x l,gV,Yb,Nat.mul_add,Nat.mul_add,Nat.mul_one,Nat.pow_add,←Nat.mul_assoc,Nat.mul_comm (2 ^ w) (2 ^ (w*l.length)),Nat.add_assoc]
theorem qc {w:Nat}:∀{l:List Nat},(∀x∈l,x<2 ^ w)→gV w l<2 ^ (w*l.length)
 | [],_=> by simp[gV]
 |y::l,h=> by
  have h1:=qc (l:=l) fun x hx=> h x (Xa _ hx)
  have h2:=h y List.mem_cons_self
  rw[gV,Yb,Nat.mul_add,Nat.mul_one,Nat.pow_add,Nat.mul_comm (2 ^ (w*l.length))]
  have h3:2 ^ w*(gV w l+1)≤2 ^ w*2 ^ (w*l.length):=Nat.mul_le_mul_left _ h1
  rw[Nat.mul_add]at h3
  omega
theorem tV {w:Nat}{l:List Nat}{i x:Nat}(h:l[i]? =some x):gV w (l.take (i+1))=gV w (l.take i)+2 ^ (w*i)*x:=by
 have hi:=(Yk.1 h).1
 rw[List.take_add_one,h,Option.toList_some,tW,Yg,Nat.min_eq_left (a8)]
def jz (w:Nat) (l:List Nat) (i k:Nat):Nat:=gV w (l.take i)+2 ^ (w*i)*(l.getD i 0 % 2 ^ k)
def Bg (w:Nat) (l:List Nat):List Nat:=leB ((l.length*w+7) / 8) (gV w l)
theorem sc (w:Nat) (l:List Nat) (i:Nat):jz w l i 0=gV w (l.take i):=by
 rw[jz,Nat.pow_zero,Nat.mod_one,Nat.mul_zero,Nat.add_zero]
theorem yf {w:Nat}{l:List Nat}{i x:Nat}(h:l[i]? =some x) (hx:x<2 ^ w):jz w l i w=gV w (l.take (i+1)):=by
 rw[jz,tV h,List.getD_eq_getElem?_getD,h,Option.getD_some,Nat.mod_eq_of_lt hx]
theorem ye {w:Nat}{l:List Nat}{i k x:Nat}(h:l[i]? =some x):jz w l i (k+1)=jz w l i k+2 ^ (w*i+k)*(x / 2 ^ k % 2):=by
 rw[jz,jz,List.getD_eq_getElem?_getD,h,Option.getD_some,Nat.pow_succ,Nat.mod_mul,Nat.mul_add,Nat.add_assoc,Nat.pow_add,Nat.mul_assoc]
theorem Cw {w:Nat}{l:List Nat}{i k:Nat}(hi:i≤l.length) (hl:∀x∈l,x<2 ^ w):jz w l i k<2 ^ (w*i+k):=by
 have h1:gV w (l.take i)<2 ^ (w*i):=by
  have:=qc (w:=w) (l:=l.take i) fun x hx=> hl x (Yq hx)
  rwa [Yg,Nat.min_eq_left hi]at this
 have h2:l.getD i 0 % 2 ^ k<2 ^ k:=Nat.mod_lt _ (Nat.two_pow_pos k)
 rw[jz,Nat.pow_add]
 have h3:2 ^ (w*i)*(l.getD i 0 % 2 ^ k+1)≤2 ^ (w*i)*2 ^ k:=Nat.mul_le_mul_left _ h2
 rw[Nat.mul_add]at h3
 omega
theorem Lt {N T b:Nat}(hT:T % 8+1<8):leB ((T+1) / 8) (N+2 ^ T*b)=leB (T / 8) N∧(N+2 ^ T*b) / 256 ^ ((T+1) / 8)=N / 256 ^ (T / 8)+b*2 ^ (T % 8):=by
 have e:(T+1) / 8=T / 8:=a8
 rw[e,jT T,Nat.mul_assoc]
 refine⟨Bo _ _ _,?_⟩
 rw[Nat.add_mul_div_left _ _ (Nat.pow_pos (ag)),Nat.mul_comm b]
theorem Gh {N T b:Nat}(hT:T % 8+1=8) (hN:N<2 ^ T) (hb:b<2):leB ((T+1) / 8) (N+2 ^ T*b)=leB (T / 8) N++ [N / 256 ^ (T / 8)+b*2 ^ (T % 8)]∧(N+2 ^ T*b) / 256 ^ ((T+1) / 8)=0∧N / 256 ^ (T / 8)+b*2 ^ (T % 8)<256:=by
 have e:(T+1) / 8=T / 8+1:=a8
 have hp:0<256 ^ (T / 8):=Nat.pow_pos (ag)
 have h1:N / 256 ^ (T / 8)<2 ^ (T % 8):=by
  rw[Nat.div_lt_iff_lt_mul hp,Nat.mul_comm,←jT];exact hN
 have h7:T % 8=7:=a8
 rw[h7]at h1
 have h2:N / 256 ^ (T / 8)+b*2 ^ (T % 8)<256:=by
  rw[h7]
  have:b*2 ^ 7≤1*2 ^ 7:=Nat.mul_le_mul_right _ (a8)
  omega
 have h3:(N+2 ^ T*b) / 256 ^ (T / 8)=N / 256 ^ (T / 8)+b*2 ^ (T % 8):=by
  rw[jT T,Nat.mul_assoc,Nat.add_mul_div_left _ _ hp,Nat.mul_comm b]
 refine⟨?_,?_,h2⟩
 ·rw[e,yr,h3,Nat.mod_eq_of_lt h2,jT T,Nat.mul_assoc,Bo]
 ·rw[e,Nat.pow_succ,←Nat.div_div_eq_div_mul,h3]
  exact Nat.div_eq_of_lt h2
theorem tq {N T:Nat}(hN:N<2 ^ T):N / 256 ^ (T / 8)<2 ^ (T % 8):=by
 rw[Nat.div_lt_iff_lt_mul (Nat.pow_pos (ag)),Nat.mul_comm,←jT];exact hN
theorem Ij {N T:Nat}(hN:N<2 ^ T):leB ((T+7) / 8) N=if T % 8=0 then leB (T / 8) N else leB (T / 8) N++ [N / 256 ^ (T / 8)]:=by
 split
 ·rw[show(T+7) / 8=T / 8 from a8]
 ·rw[show(T+7) / 8=T / 8+1 from a8,yr]
  have h1:=tq hN
  have h2:2 ^ (T % 8)≤2 ^ 8:=Nat.pow_le_pow_right (ag) (a8)
  rw[Nat.mod_eq_of_lt (show N / 256 ^ (T / 8)<256 from a8)]
theorem tv {G:cM}{H:cG}(x:Nat):SC G Tryz.prog 212 [.int .u8 (x:Int)] H (fun v H'=> v= .bool (isD x)∧H'=H):=by
 refine sWk Tryz.func212 Tryz.ntmps212 ?_
 refine gk (k:=cY 3 8 (k:=fun h1=>gk (k:=edq)) (q:=go ?_))
 refine gk (k:=rt_ Tryz.results212 (k:=?_))
 refine⟨_,hsb,?_,rfl⟩
 exact vb (by simp only[isD,Bool.or_eq_true,Bool.and_eq_true,decide_eq_true_eq];omega)
theorem wk {G:cM}{H:cG}(x:Nat):SC G Tryz.prog 195 [.int .u8 (x:Int)] H (fun v H'=> v= .bool (isW x)∧H'=H):=by
 refine sWk Tryz.func195 Tryz.ntmps195 ?_
 refine gk (k:=cY 3 8 (k:=fun h1=>gk (k:=edq)) (q:=gk (k:=dQ 7 16 (k:=fun h2=>gk (k:=cY 3 15 (k:=fun h3=>gk (k:=edq)) (q:=gk (k:=edq)))) (q:=go ?_))))
 refine dQ 3 20 (k:=fun h4=>gk (k:=gU (vs:=[_]) (hc:=(tv x)) (k:=gk (k:=edq)))) (q:=gk (k:=dQ 3 24 (k:=fun h5=>gk (k:=edq)) (q:=gk (k:=dQ 3 28 (k:=fun h6=>gk (k:=edq)) (q:=gk (k:=rt_ Tryz.results195 (k:=?_)))))))
 refine⟨_,hsb,?_,rfl⟩
 exact vb (by simp only[isW,isD,Bool.or_eq_true,Bool.and_eq_true,decide_eq_true_eq];omega)
theorem H7 {G:cM}{H:cG}{q:ByteArray}(i:Nat) (hi:i≤1000000000000) (hq:q.size≤1000000000000):SC G Tryz.prog 196 [.string q, .int .i64 (i:Int)] H (fun v H'=> v= .bool (kj (cF q) i)∧H'=H):=by
 have hl:=cJ q
 refine sWk Tryz.func196 Tryz.ntmps196 ?_
 refine gk (k:=dQ 6 13 (k:=fun h1=>gk (k:=edq)) (q:=go ?_))
 refine wi_ (k:=fun h2=>?_) (m:=fun h2=>?_)
 ·refine gk (k:=rt_ Tryz.results196 (k:=?_))
  refine⟨_,hsb,vb ⟨fun h=> by(cases h),fun h=> ?_⟩,rfl⟩
  simp only[kj,Bool.and_eq_true,decide_eq_true_eq]at h;omega
 have e1:decide (0<i)=true:=Ys (a8)
 have e2:decide (i+1<(cF q).length)=true:=Ys (a8)
 refine go ?_
 refine gk (k:=wi_ (k:=fun h3=>?_) (m:=fun h3=>?_))
 ·refine go ?_
  refine d1_ rfl (wk _) (k:=gk (k:=cY 6 30 (k:=fun h4=>gk (k:=gU (vs:=[_]) (hc:=(wk _)) (k:=gk (k:=edq)))) (q:=gk (k:=rt_ Tryz.results196 (k:=?_)))))
  refine⟨_,hsb,?_,rfl⟩
  rw[kj,e1,e2,show at0 (cF q) i=39 from a8];simp;rfl
 refine gk (k:=wi_ (k:=fun h5=>?_) (m:=fun h5=>?_))
 ·refine go ?_
  refine d1_ rfl (tv _) (k:=gk (k:=cY 6 44 (k:=fun h6=>gk (k:=gU (vs:=[_]) (hc:=(tv _)) (k:=gk (k:=edq)))) (q:=gk (k:=rt_ Tryz.results196 (k:=?_)))))
  refine⟨_,hsb,?_,rfl⟩
  rw[kj,e1,e2,show at0 (cF q) i=46 from a8];simp;rfl
 refine gk (k:=rt_ Tryz.results196 (k:=?_))
 refine⟨_,hsb,?_,rfl⟩
 rw[kj,show decide (at0 (cF q) i=39)=false from Yr (a8),show decide (at0 (cF q) i=46)=false from Yr (a8)];simp;rfl
def eT:Enc Tok:=⟨fun t=> [.string (dO t.text), .int .i64 (t.value:Int), .int .i64 (t.pos:Int), .int .i64 (t.st:Int), .int .i64 (t.en:Int)],5,true,fun _=> rfl,fun p v h=> by simp at h;rcases h with rfl|rfl|rfl|rfl|rfl <;> rfl,ag,fun h=> aR,ag⟩
instance {s:ByteArray}{b c d:Nat}:fH eT (.agg [.string s, .int .i64 0, .int .i64 ((b:Nat):Int), .int .i64 ((c:Nat):Int), .int .i64 ((d:Nat):Int)].toArray) ⟨cF s,0,b,c,d⟩:=⟨by show Value.agg (eT.f _).toArray=_;simp only[eT,jk];all_goals rfl⟩
theorem Du {G:cM}{H:cG}{q:ByteArray}(hq:q.size≤1000000000):SC G Tryz.prog 176 [.string q] H (fun v H'=> ∃s:SV,v=s.val∧H'=Row s eT (fe (cF q))::H):=by
 have hl:=cJ q
 refine sWk Tryz.func176 Tryz.ntmps176 ?_
 refine go ?_
 refine gk (k:=dn (SV×Nat×(Option Nat)×(List Tok)) (fun y=> y.2.1≤q.size+1∧eL (cF q) y.2.1=(y.2.2.1,y.2.2.2)) (fun y=> [(3,y.1.val),(4, .int .i64 (stI y.2.2.1)),(5, .int .i64 ((y.2.1:Nat):Int))]) [(0,_)] (fun y=> [Row y.1 eT y.2.2.2]) _ (fun y=> q.size+1 - y.2.1) ((SV.nil,0,none, [])) (h0:=?_) (k:=?_))
 ·try dsimp only
  exact⟨Yl _,rfl⟩
 rintro⟨s,i,a,out⟩ ⟨hi,hst⟩
 try dsimp only[Yd,Ye]at*
 have hw:=we (cF q) i a out hst
 refine gk (k:=wi_ (k:=fun h1=>?_) (m:=fun h1=>?_))
 ·refine gk (k:=cY 10 27 (k:=fun h2=>gk (k:=gU (vs:=[_]) (hc:=(wk _)) (k:=gk (k:=dQ 4 26 (k:=fun h3=>gk (k:=gU (vs:=[_,_]) (hc:=(H7 i (a8) (a8))) (k:=gk (k:=edq)))) (q:=gk (k:=edq)))))) (q:=?_))
  refine e_ (asv (v:=.bool (inW (cF q) i)) rfl (vb (by simp[inW,hl]))) (k:=?_)
  refine gk (k:=cY 3 33 (k:=fun h4=>gk (k:=edq)) (q:=gk (k:=wi_ (k:=fun h5=>?_) (m:=fun h5=>?_))))
  ·obtain⟨hin,hn⟩:=h5
   obtain rfl:=AZ.1 hn
   refine go ?_
   refine ln_ ((s,i+1,some i,out)) (k:=?_)
   try dsimp only
   exact⟨a8,kW hst hin⟩
  refine gk (k:=cY 3 41 (k:=fun h6=>gk (k:=edq)) (q:=gk (k:=wi_ (k:=fun h7=>?_) (m:=fun h7=>?_))))
  ·obtain⟨hin,hn⟩:=h7
   obtain⟨b,rfl⟩:∃b,a=some b:=by
    cases a with
    |none=> simp[stI]at hn
    |some b=> exact⟨b,rfl⟩
   have hb:=hw.2 b rfl
   have hbl:i≤q.size:=a8
   dsimp only[stI]
   refine ws_ (wr_ (e_ mv (k:=e_ mv (k:=e_ mv (k:=e_ mv (k:=?_))))))
   refine e_ (kU rfl b i ⟨_,_,rfl,rfl⟩ ⟨_,_,rfl,rfl⟩ (a8) (a8)) (k:=?_)
   refine e_ mv (k:=e_ lnn (k:=e_ mv (k:=e_ mv (k:=e_ (bld [(0,_),(2,_),(3,_),(4,_)]) (k:=dD eT (k:=fun s52=>?_))))))
   refine app (k:=fun s53=>?_)
   refine go ?_
   refine ln_ ((s53,i+1,none,out++ [⟨cF (q.extract b i),0,out.length,b,i⟩])) (k:=?_)
   try dsimp only
   refine⟨a8,?_⟩
   rw[gn];exact oc hst hin
  refine go ?_
  refine ln_ ((s,i+1,a,out)) (k:=?_)
  try dsimp only
  refine⟨a8,?_⟩
  cases hin:inW (cF q) i <;> cases a with
  |none=> first|exact oa hst hin|(exfalso;simp[hin,stI]at*)
  |some b=> first|exact qS hst hin|(exfalso;simp[hin,stI]at* <;> omega)
 obtain rfl:i=q.size+1:=a8
 refine gk (k:=rt_ Tryz.results176 (k:=?_))
 refine⟨_,hsb,s,rfl,?_⟩
 rw[fe,hl,hst]
end Go.Sx
