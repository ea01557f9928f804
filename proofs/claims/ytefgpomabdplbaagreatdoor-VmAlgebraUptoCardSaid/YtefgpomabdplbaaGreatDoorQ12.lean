import Derived.Test.YtefgpomabdplbaaGreatDoorQ7
import Derived.Test.YtefgpomabdplbaaGreatDoorQ10
set_option linter.unusedVariables false
set_option linter.unusedSimpArgs false
set_option linter.unusedSectionVars false
set_option linter.unnecessarySimpa false
set_option maxHeartbeats 0
namespace Go.Sx
def isD (b:Nat):Bool:=decide (48≤b) && decide (b≤57)
def isW (b:Nat):Bool:=decide (97≤b) && decide (b≤122) ||decide (65≤b) && decide (b≤90) ||isD b ||decide (b=95) ||decide (128≤b)
def og (s:List Nat) (i:Nat):Bool:=decide (0<i) && decide (i+1<s.length) && (decide (at0 s i=39) && isW (at0 s (i - 1)) && isW (at0 s (i+1)) ||decide (at0 s i=46) && isD (at0 s (i - 1)) && isD (at0 s (i+1)))
def inW (s:List Nat) (i:Nat):Bool:=decide (i<s.length) && (isW (at0 s i) ||og s i)
structure Tok where
 text:List Nat
 value:Nat
 pos:Nat
 st:Nat
 en:Nat
def ej (s:List Nat):Nat→Option Nat×List Tok
 | 0=> (none, [])
 |i+1=>
  let p:=ej s i
  match inW s i,p.1 with
  |true,none=> (some i,p.2)
  |false,some a=> (none,p.2++ [⟨(s.take i).drop a,0,p.2.length,a,i⟩])
  |_,_=> p
def gC (s:List Nat):List Tok:=(ej s (s.length+1)).2
theorem lC {s:List Nat}{i:Nat}{out:List Tok}(h:ej s i=(none,out)) (hin:inW s i=true):ej s (i+1)=(some i,out):=by
 unfold ej;simp only[h,hin]
theorem pD {s:List Nat}{i a:Nat}{out:List Tok}(h:ej s i=(some a,out)) (hin:inW s i=false):ej s (i+1)=(none,out++ [⟨(s.take i).drop a,0,out.length,a,i⟩]):=by
 unfold ej;simp only[h,hin]
theorem sN {s:List Nat}{i a:Nat}{out:List Tok}(h:ej s i=(some a,out)) (hin:inW s i=true):ej s (i+1)=(some a,out):=by
 unfold ej;simp only[h,hin]
theorem pC {s:List Nat}{i:Nat}{out:List Tok}(h:ej s i=(none,out)) (hin:inW s i=false):ej s (i+1)=(none,out):=by
 unfold ej;simp only[h,hin]
theorem Bo (w:List Nat):∀(i:Nat) (a:Option Nat) (out:List Tok),ej w i=(a,out)→out.length≤i∧∀b,a=some b→b<i∧out.length≤b:=by
 intro i
 induction i with
 |zero=> intro a out h;cases h;simp
 |succ i ih=>
  intro a out h
  obtain⟨a0,o0,h0⟩:∃a0 o0,ej w i=(a0,o0):=⟨_,_,rfl⟩
  obtain⟨h1,h2⟩:=ih a0 o0 h0
  cases hin:inW w i <;> cases a0 with
  |none=>
   first
   |(rw[pC h0 hin]at h;cases h;exact⟨aa,fun b hb=> by cases hb⟩)
   |(rw[lC h0 hin]at h;cases h;exact⟨aa,fun b hb=> by cases hb;omega⟩)
  |some a0=>
   have:=h2 a0 rfl
   first
   |(rw[pD h0 hin]at h;cases h;simp only[Ya,Yb,Yc];exact⟨aa,fun b hb=> by cases hb⟩)
   |(rw[sN h0 hin]at h;cases h;exact⟨aa,fun b hb=> by cases hb;omega⟩)
def stI:Option Nat→Int
 |none=> -1
 |some a=> (a:Int)
theorem IX {o:Option Nat}:stI o<0↔o=none:=by
 cases o with
 |none=> simp[stI]
 |some a=> simp only[stI,reduceCtorEq,iff_false];omega
def oP (w:List Nat) (i:Nat):Bool:=(decide (65≤at0 w i) && decide (at0 w i≤90)) ||(decide (0<i) && decide (at0 w (i - 1)=195) && decide (128≤at0 w i) && decide (at0 w i≤158) && !decide (at0 w i=151))
def nX (w:List Nat) (i:Nat):Nat:=bif oP w i then at0 w i+32 else at0 w i
def je (w:List Nat):List Nat:=(List.range w.length).map (nX w)
def jd (w:List Nat) (i:Nat):List Nat:=(je w).take i++w.drop i
theorem gR (w:List Nat):(je w).length=w.length:=by simp[je]
theorem qh {w:List Nat}{i:Nat}(h:i≤w.length):(jd w i).length=w.length:=by
 simp only[jd,Ya,Yg,gR,Yo];omega
theorem sK {w:List Nat}{i:Nat}(h:i<w.length):w[i]? =some (at0 w i):=by
 rw[at0,List.getD_eq_getElem?_getD,Yi h];rfl
theorem Dy {w:List Nat}{i:Nat}(h:i<w.length):(je w)[i]? =some (nX w i):=by
 simp[je,h]
theorem vG {w:List Nat}{i:Nat}(h:i<w.length):(jd w i)[i]? =some (at0 w i):=by
 rw[jd,Yu (by simp[gR];omega),Yg,gR,Nat.min_eq_left (aa),Nat.sub_self,Xh,Nat.add_zero,sK h]
theorem AW {w:List Nat}{i:Nat}(h:i<w.length):(je w).take (i+1)=(je w).take i++ [nX w i]:=by
 rw[List.take_add_one,Dy h];rfl
theorem u9 {w:List Nat}{i:Nat}(h:i<w.length):jd w (i+1)=(jd w i).set i (nX w i):=by
 have e:w.drop i=at0 w i::w.drop (i+1):=by
  rw[List.drop_eq_getElem_cons h];congr 1
  have:=sK h
  rw[Yi h]at this;exact Option.some.inj this
 have hl:((je w).take i).length=i:=by rw[Yg,gR];omega
 rw[jd,jd,AW h,e,List.set_append_right _ _ (aa),hl,Nat.sub_self,List.set_cons_zero,Yf];rfl
theorem Dv {w:List Nat}{i:Nat}(h:i<w.length) (hc:oP w i=true):(jd w i).set i (at0 w i+32)=jd w (i+1):=by
 rw[u9 h,nX,hc];rfl
theorem H3 {w:List Nat}{i:Nat}(h:i<w.length) (hc:oP w i=false):jd w i=jd w (i+1):=by
 rw[u9 h,nX,hc]
 apply List.ext_getElem?
 intro j
 by_cases hj:i=j
 ·subst hj
  rw[List.getElem?_set_self (by rw[qh (aa)];exact h),vG h];rfl
 ·rw[List.getElem?_set_ne hj]
theorem Dw (w:List Nat):jd w w.length=je w:=by
 rw[jd,List.drop_of_length_le (Nat.le_refl _),List.take_of_length_le (by rw[gR];exact Nat.le_refl _),Ym]
theorem AV (w:List Nat):jd w 0=w:=by simp[jd]
theorem Dz {w:List Nat}(hw:∀x∈w,x<256) (i:Nat):nX w i<256:=by
 have h0:at0 w i<256:=by
  rw[at0,List.getD_eq_getElem?_getD]
  cases h:w[i]? with
  |none=> decide
  |some x=> exact hw x (Yj h)
 rw[nX]
 cases hc:oP w i with
 |false=> exact h0
 |true=>
  simp only[oP,Bool.or_eq_true,Bool.and_eq_true,decide_eq_true_eq]at hc
  simp only[cond_true];omega
def isV (b:Nat):Bool:=decide (b=97) ||decide (b=101) ||decide (b=105) ||decide (b=111) ||decide (b=117)
def pF:Option Bool→List Nat→List Bool
 |_, []=> []
 |p,b::r=>
  let v:=isV b ||(decide (b=121) && (match p with|some q=> !q|none=> false))
  v::pF (some v) r
def vow (w:List Nat):List Bool:=pF none w
def wJ (w:List Nat):Bool:=(vow w).any id
def rf (w:List Nat):Bool:=decide (2≤w.length) && decide (at0 w (w.length - 1)=at0 w (w.length - 2)) && !((vow w).getD (w.length - 1) false)
def j4 (w:List Nat):Bool:=decide (3≤w.length) && !(decide (at0 w (w.length - 1)=119) ||decide (at0 w (w.length - 1)=120) ||decide (at0 w (w.length - 1)=121)) && (!((vow w).getD (w.length - 3) false) && (vow w).getD (w.length - 2) false && !((vow w).getD (w.length - 1) false))
def dp (w e:List Nat):Bool:=decide (e.length≤w.length) && decide (w.drop (w.length - e.length)=e)
def j9 (w e:List Nat):Bool:=decide (e.length≤w.length) && decide (w.take e.length=e)
abbrev gr:=List Nat×List Nat
def lsC (w:List Nat) (best:Option gr) (r:gr):Bool:=dp w r.1 && (match best with|none=> true|some b=> decide (b.1.length<r.1.length))
def oO (w:List Nat) (best:Option gr) (r:gr):Option gr:=bif lsC w best r then some r else best
def eU (rs:List gr) (w:List Nat):Option gr:=rs.foldl (oO w) none
theorem mg:∀(w:List Nat) (p:Option Bool),(pF p w).length=w.length
 | [],_=> rfl
 |b::r,p=> by simp only[pF,Yb,mg r]
theorem fb (w:List Nat):(vow w).length=w.length:=mg w none
theorem uU:∀(w:List Nat) (p:Option Bool) (i:Nat),i<w.length→(pF p w)[i]? =some (isV (at0 w i) ||(decide (at0 w i=121) && (match (if i=0 then p else(pF p w)[i - 1]?)with|some q=> !q|none=> false)))
 | [],_,_,h=> aG
 |b::r,p,0,_=> by simp[pF,at0]
 |b::r,p,i+1,h=> by
  have ih:=uU r (some (isV b ||(decide (b=121) && (match p with|some q=> !q|none=> false)))) i (aY)
  simp only[pF,Xc,ih,at0,List.getD_cons_succ,Nat.add_eq_zero_iff,Nat.add_sub_cancel]
  cases i with
  |zero=> simp
  |succ i=> simp
theorem Ia {w:List Nat}{i:Nat}(h:i<w.length):(vow w)[i]? =some (isV (at0 w i) ||(decide (at0 w i=121) && (decide (0<i) && !((vow w).getD (i - 1) false)))):=by
 rw[vow,uU w none i h]
 by_cases h0:i=0
 ·simp[h0]
 ·rw[if_neg h0]
  have hl:i - 1<(pF none w).length:=by rw[mg];omega
  rw[List.getD_eq_getElem?_getD,Yi hl]
  simp[Nat.pos_of_ne_zero h0]
def vAt (w:List Nat) (i:Nat):Bool:=isV (at0 w i) ||(decide (at0 w i=121) && (decide (0<i) && !((vow w).getD (i - 1) false)))
def nA (w:List Nat) (i:Nat):List Bool:=(vow w).take i++List.replicate (w.length - i) false
theorem rp {w:List Nat}{i:Nat}(h:i≤w.length):(nA w i).length=w.length:=by
 simp only[nA,Ya,Yg,fb,Xe];omega
theorem CH (w:List Nat):nA w 0=List.replicate w.length false:=by simp[nA]
theorem El (w:List Nat):nA w w.length=vow w:=by
 rw[nA,List.take_of_length_le (by rw[fb];exact Nat.le_refl _),Nat.sub_self];simp
theorem Ek {w:List Nat}{i j:Nat}(h:j<i) (hi:i≤w.length):(nA w i)[j]? =some ((vow w).getD j false):=by
 rw[nA,Yv (cC),List.getElem?_take_of_lt h,List.getD_eq_getElem?_getD,Yi (by rw[fb];omega)];rfl
theorem sQ {w:List Nat}{i:Nat}(h:i<w.length) {b:Bool}(hb:vAt w i=b):(nA w i).set i b=nA w (i+1):=by
 have hl:((vow w).take i).length=i:=cC
 have hg:=Ia h
 rw[show(isV (at0 w i) ||(decide (at0 w i=121) && (decide (0<i) && !((vow w).getD (i - 1) false))))=b from hb]at hg
 rw[nA,nA,List.take_add_one,hg,List.set_append_right _ _ (aa),hl,Nat.sub_self,show w.length - i=(w.length - (i+1))+1 from aa,List.replicate_succ,List.set_cons_zero,Yf];rfl
theorem CI {w:List Nat}{i:Nat}(h:i<w.length) (hb:vAt w i=false):nA w i=nA w (i+1):=by
 rw[←sQ h hb]
 apply List.ext_getElem?
 intro j
 by_cases hj:i=j
 ·subst hj
  rw[List.getElem?_set_self (by rw[rp (aa)];exact h),nA,Yu (cC),Yg,fb,Nat.min_eq_left (aa),Nat.sub_self,show w.length - i=(w.length - (i+1))+1 from aa,List.replicate_succ];rfl
 ·rw[List.getElem?_set_ne hj]
theorem iY {w:List Nat}{i:Nat}(h:i<w.length):(vow w)[i]? =some ((vow w).getD i false):=by
 rw[List.getD_eq_getElem?_getD,Yi (by rw[fb];exact h)];rfl
def gH (rs:List gr):List (List Nat):=rs.flatMap fun r=> [r.1,r.2]
theorem wO (rs:List gr):(gH rs).length=2*rs.length:=by
 induction rs with
 |nil=> rfl
 |cons r rs ih=> simp only[gH,List.flatMap_cons,Ya,Yb,Yc]at ih⊢;omega
theorem vI:∀{rs:List gr}{k:Nat}{r:gr},rs[k]? =some r→(gH rs)[2*k]? =some r.1∧(gH rs)[2*k+1]? =some r.2
 |r0::rs,0,r,h=> by cases h;exact⟨rfl,rfl⟩
 |r0::rs,k+1,r,h=> by
  have ih:=vI (rs:=rs) (k:=k) (r:=r) (aY)
  have e:gH (r0::rs)=r0.1::r0.2::gH rs:=rfl
  rw[e,show 2*(k+1)=(2*k+1)+1 from aa,Xc,Xc,show(2*k+1)+1+1=(2*k+2)+1 from aa,Xc,show 2*k+2=(2*k+1)+1 from aa,Xc]
  exact ih
def gV (strs:List ByteArray) (rs:List gr):Prop:=strs.map cF=gH rs
theorem gV.length {strs:List ByteArray}{rs:List gr}(h:gV strs rs):strs.length=2*rs.length:=by
 rw[←wO,←show strs.map cF=gH rs from h,Yh]
theorem gV.get {strs:List ByteArray}{rs:List gr}(h:gV strs rs) {k:Nat}{r:gr}(hr:rs[k]? =some r):∃a b:ByteArray,strs[2*k]? =some a∧cF a=r.1∧strs[2*k+1]? =some b∧cF b=r.2:=by
 obtain⟨h1,h2⟩:=vI hr
 rw[←show strs.map cF=gH rs from h,Xd]at h1 h2
 cases h3:strs[2*k]? with
 |none=> rw[h3]at h1;cases h1
 |some a=>
  cases h4:strs[2*k+1]? with
  |none=> rw[h4]at h2;cases h2
  |some b=> rw[h3]at h1;rw[h4]at h2;exact⟨a,b,rfl,Option.some.inj h1,rfl,Option.some.inj h2⟩
def atI:Option (Nat×gr)→Int
 |none=> -1
 |some p=> ((2*p.1:Nat):Int)
theorem CB {o:Option (Nat×gr)}:atI o<0↔o=none:=by
 cases o with
 |none=> simp[atI]
 |some p=> simp only[atI,reduceCtorEq,iff_false];omega
def oN (v:List Bool):Nat→Nat
 | 0=> 0
 |i+1=> oN v i+(bif decide (0<i) && v.getD (i - 1) false && !(v.getD i false)then 1 else 0)
def iB (w:List Nat):Nat:=oN (vow w) w.length
theorem yz (v:List Bool):∀i,oN v i≤i
 | 0=> Nat.le_refl _
 |i+1=> by have:=yz v i;simp only[oN];cases(decide (0<i) && v.getD (i - 1) false && !(v.getD i false)) <;> simp <;> omega
theorem vy (v:List Bool):oN v 1=0:=by simp[oN]
theorem HF {v:List Bool}{i:Nat}(h:v[i]? =some true):v.any id=true:=List.any_eq_true.2 ⟨true,Yj h,rfl⟩
theorem DZ {v:List Bool}(h:∀j,j<v.length→v[j]? =some false):v.any id=false:=by
 rw[List.any_eq_false]
 intro x hx
 obtain⟨j,hj⟩:=List.mem_iff_getElem?.1 hx
 have hl:=(Yk.1 hj).1
 rw[h j hl]at hj
 cases hj;simp
theorem wE {rs:List gr}{w:List Nat}{i:Nat}{r:gr}(h:rs[i]? =some r):(rs.take (i+1)).foldl (oO w) none=oO w ((rs.take i).foldl (oO w) none) r:=by
 rw[List.take_add_one,h,Option.toList_some,List.foldl_append];rfl
def jw:List gr:= [([115,115,101,115], [115,115]),([105,101,115], [105]),([115,115], [115,115]),([115], [])]
def oa:List gr:= [([101,101,100], [101,101]),([101,100], []),([105,110,103], [])]
def lk:List gr:= [([97,116,105,111,110,97,108], [97,116,101]),([116,105,111,110,97,108], [116,105,111,110]),([101,110,99,105], [101,110,99,101]),([97,110,99,105], [97,110,99,101]),([105,122,101,114], [105,122,101]),([97,98,108,105], [97,98,108,101]),([97,108,108,105], [97,108]),([101,110,116,108,105], [101,110,116]),([101,108,105], [101]),([111,117,115,108,105], [111,117,115]),([105,122,97,116,105,111,110], [105,122,101]),([97,116,105,111,110], [97,116,101]),([97,116,111,114], [97,116,101]),([97,108,105,115,109], [97,108]),([105,118,101,110,101,115,115], [105,118,101]),([102,117,108,110,101,115,115], [102,117,108]),([111,117,115,110,101,115,115], [111,117,115]),([97,108,105,116,105], [97,108]),([105,118,105,116,105], [105,118,101]),([98,105,108,105,116,105], [98,108,101])]
def mr:List gr:= [([105,99,97,116,101], [105,99]),([97,116,105,118,101], []),([97,108,105,122,101], [97,108]),([105,99,105,116,105], [105,99]),([105,99,97,108], [105,99]),([102,117,108], []),([110,101,115,115], [])]
def kt:List gr:= [([97,108], []),([97,110,99,101], []),([101,110,99,101], []),([101,114], []),([105,99], []),([97,98,108,101], []),([105,98,108,101], []),([97,110,116], []),([101,109,101,110,116], []),([109,101,110,116], []),([101,110,116], []),([105,111,110], []),([111,117], []),([105,115,109], []),([97,116,101], []),([105,116,105], []),([111,117,115], []),([105,118,101], []),([105,122,101], [])]
def jh:List (List Nat):= [[97], [97,110], [97,110,100], [97,114,101], [97,115], [97,116], [98,101], [98,117,116], [98,121], [102,111,114], [102,114,111,109], [104,97,115], [104,101], [105,102], [105,110], [105,110,116,111], [105,115], [105,116], [105,116,115], [110,111], [110,111,116], [111,102], [111,110], [111,114], [115,104,101], [115,111], [115,117,99,104], [116,104,97,116], [116,104,101], [116,104,101,105,114], [116,104,101,110], [116,104,101,114,101], [116,104,101,115,101], [116,104,101,121], [116,104,105,115], [116,111], [119,97,115], [119,101], [119,101,114,101], [119,105,108,108], [119,105,116,104], [121,111,117]]
def kU (w e:List Nat):List Nat:=w.take (w.length - e.length)
def dA (w:List Nat):List Nat:=w.take (w.length - 1)
def iP (rs:List gr) (most:Nat) (w:List Nat):List Nat:=
 match eU rs w with
 |some r=> bif decide (most<iB (kU w r.1))then kU w r.1++r.2 else w
 |none=> w
def jj (w:List Nat):List Nat:=
 match eU jw w with
 |some r=> kU w r.1++r.2
 |none=> w
def oM (w:List Nat):List Nat:=
 bif dp w [97,116] ||dp w [98,108] ||dp w [105,122]then w++ [101]
 else bif rf w && !(decide (at0 w (w.length - 1)=108) ||decide (at0 w (w.length - 1)=115) ||decide (at0 w (w.length - 1)=122))then dA w
 else bif decide (iB w=1) && j4 w then w++ [101]else w
def iy (w:List Nat):List Nat:=
 match eU oa w with
 |none=> w
 |some r=> bif decide (r.1= [101,101,100])then(bif decide (0<iB (kU w r.1))then kU w r.1++r.2 else w)else bif wJ (kU w r.1)then oM (kU w r.1)else w
def ki (w:List Nat):List Nat:=bif dp w [121] && wJ (dA w)then dA w++ [105]else w
def nI (w:List Nat):List Nat:=
 match eU kt w with
 |some r=> bif decide (r.1= [105,111,110]) && !dp (kU w r.1) [115] && !dp (kU w r.1) [116]then w else iP kt 1 w
 |none=> w
def ji (w:List Nat):List Nat:=bif dp w [101] && (decide (1<iB (dA w)) ||decide (iB (dA w)=1) && !j4 (dA w))then dA w else w
def sY (w:List Nat):List Nat:=bif dp (ji w) [108,108] && decide (1<iB (ji w))then dA (ji w)else ji w
def rW (b:Nat):Bool:=decide (97≤b) && decide (b≤122)
def kV (w:List Nat):List Nat:=bif decide (2<w.length) && dp w [39,115]then w.take (w.length - 2)else w
def xQ (w:List Nat):List Nat:=bif decide (w.length<3) || !(w.all rW)then w else sY (nI (iP mr 0 (iP lk 0 (ki (iy (jj w))))))
def lF (w:List Nat):List Nat:=xQ (kV w)
theorem Di {w:List Nat}{rs:List gr}:∀{best:Option gr}{r:gr},rs.foldl (oO w) best=some r→(best=some r)∨(r∈rs∧dp w r.1=true):=by
 induction rs with
 |nil=> intro best r h;exact .inl h
 |cons x rs ih=>
  intro best r h
  rcases ih (best:=oO w best x) (r:=r) h with h1|⟨h1,h2⟩
  ·rw[oO]at h1
   cases hc:lsC w best x with
   |true=>
    rw[hc]at h1;cases h1
    simp only[lsC,Bool.and_eq_true]at hc
    exact .inr ⟨an,hc.1⟩
   |false=> rw[hc]at h1;exact .inl h1
  ·exact .inr ⟨Xa _ h1,h2⟩
theorem nS {w:List Nat}{rs:List gr}{r:gr}(h:eU rs w=some r):r∈rs∧dp w r.1=true:=by
 rcases Di h with h|h
 ·cases h
 ·exact h
theorem uz (w e:List Nat):(kU w e).length≤w.length:=by simp only[kU,Yg];omega
theorem l8 (w:List Nat):(dA w).length≤w.length:=by simp only[dA,Yg];omega
theorem lL {rs:List gr}{most k:Nat}(h:∀r∈rs,r.2.length≤k) (w:List Nat):(iP rs most w).length≤w.length+k:=by
 rw[iP]
 cases hl:eU rs w with
 |none=> simp only;omega
 |some r=>
  have h1:=h r (nS hl).1
  have h2:=uz w r.1
  simp only
  cases decide (most<iB (kU w r.1))with
  |true=> simp only[cond_true,Ya];omega
  |false=> simp only[cond_false];omega
theorem tc (w:List Nat):(jj w).length≤w.length+10:=by
 rw[jj]
 cases hl:eU jw w with
 |none=> simp only;omega
 |some r=>
  have h1:∀r∈jw,r.2.length≤10:=ag
  have:=h1 r (nS hl).1
  have h2:=uz w r.1
  simp only[Ya];omega
theorem Dg (w:List Nat):(oM w).length≤w.length+10:=by
 have h1:=l8 w
 unfold oM
 cases(dp w [97,116] ||dp w [98,108] ||dp w [105,122])with
 |true=> simp
 |false=>
  simp only[cond_false]
  cases(rf w && !(decide (at0 w (w.length - 1)=108) ||decide (at0 w (w.length - 1)=115) ||decide (at0 w (w.length - 1)=122)))with
  |true=> simp only[cond_true];omega
  |false=>
   simp only[cond_false]
   cases(decide (iB w=1) && j4 w) <;> simp
theorem ta (w:List Nat):(iy w).length≤w.length+20:=by
 rw[iy]
 cases hl:eU oa w with
 |none=> simp only;omega
 |some r=>
  have h1:∀r∈oa,r.2.length≤10:=ag
  have:=h1 r (nS hl).1
  have h2:=uz w r.1
  have h3:=Dg (kU w r.1)
  simp only
  cases decide (r.1= [101,101,100])with
  |true=>
   simp only[cond_true]
   cases decide (0<iB (kU w r.1))with
   |true=> simp only[cond_true,Ya];omega
   |false=> simp only[cond_false];omega
  |false=>
   simp only[cond_false]
   cases wJ (kU w r.1)with
   |true=> simp only[cond_true];omega
   |false=> simp only[cond_false];omega
theorem sZ (w:List Nat):(ki w).length≤w.length+10:=by
 have h1:=l8 w
 rw[ki]
 cases(dp w [121] && wJ (dA w))with
 |true=> simp only[cond_true,Ya,Yb,Yc];omega
 |false=> simp only[cond_false];omega
theorem v7 (w:List Nat):(nI w).length≤w.length+10:=by
 have h1:=lL (rs:=kt) (most:=1) (k:=10) (ag) w
 rw[nI]
 cases eU kt w with
 |none=> simp only;omega
 |some r=>
  simp only
  cases(decide (r.1= [105,111,110]) && !dp (kU w r.1) [115] && !dp (kU w r.1) [116])with
  |true=> simp only[cond_true];omega
  |false=> simp only[cond_false];omega
theorem CX (w:List Nat):(sY w).length≤w.length:=by
 have h1:(ji w).length≤w.length:=by
  have h1:=l8 w
  rw[ji]
  cases(dp w [101] && (decide (1<iB (dA w)) ||decide (iB (dA w)=1) && !j4 (dA w)))with
  |true=> simp only[cond_true];omega
  |false=> simp only[cond_false];omega
 have h2:=l8 (ji w)
 rw[sY]
 cases(dp (ji w) [108,108] && decide (1<iB (ji w)))with
 |true=> simp only[cond_true];omega
 |false=> simp only[cond_false];omega
theorem nY {rs:List gr}(h:((gH rs).all fun l=> l.all fun x=> decide (x<256))=true):gV ((gH rs).map dL) rs:=by
 rw[gV,List.map_map]
 conv=> rhs;rw[←List.map_id (gH rs)]
 apply List.map_congr_left
 intro l hl
 have h1:=List.all_eq_true.1 h l hl
 exact fa fun x hx=> Yt (List.all_eq_true.1 h1 x hx)
def vc (b:Bool):Nat:=bif b then 118 else 99
theorem yZ {w e:List Nat}(h:dp w e=true):e.length≤w.length:=by simp[dp]at h;exact h.1
theorem x8 {w:List Nat}(h:rf w=true):2≤w.length:=by simp[rf]at h;exact h.1.1
theorem Fc (w:List Nat):(lF w).length≤w.length+100:=by
 have h0:(kV w).length≤w.length:=by
  rw[kV]
  cases(decide (2<w.length) && dp w [39,115])with
  |true=> simp only[cond_true,Yg];omega
  |false=> exact Nat.le_refl _
 rw[lF,xQ]
 cases(decide ((kV w).length<3) || !(kV w).all rW)with
 |true=> simp only[cond_true];omega
 |false=>
  simp only[cond_false]
  have a1:=tc (kV w)
  have a2:=ta (jj (kV w))
  have a3:=sZ (iy (jj (kV w)))
  have a4:=lL (rs:=lk) (most:=0) (k:=10) (ag) (ki (iy (jj (kV w))))
  have a5:=lL (rs:=mr) (most:=0) (k:=10) (ag) (iP lk 0 (ki (iy (jj (kV w)))))
  have a6:=v7 (iP mr 0 (iP lk 0 (ki (iy (jj (kV w))))))
  have a7:=CX (nI (iP mr 0 (iP lk 0 (ki (iy (jj (kV w)))))))
  omega
theorem all_take {w:List Nat}{i:Nat}(h:∀j,j<i→rW (at0 w j)=true) (hi:i=w.length):w.all rW=true:=by
 rw[List.all_eq_true]
 intro x hx
 obtain⟨j,hj⟩:=List.mem_iff_getElem?.1 hx
 have hl:=(Yk.1 hj).1
 have:=h j (aa)
 rwa [at0,List.getD_eq_getElem?_getD,hj]at this
theorem KB {w:List Nat}{i:Nat}(hi:i<w.length) (h:rW (at0 w i)=false):w.all rW=false:=by
 cases ha:w.all rW with
 |false=> rfl
 |true=>
  have:=List.all_eq_true.1 ha (at0 w i) (Yj (sK hi))
  rw[h]at this;cases this
def leB (m N:Nat):List Nat:=(List.range m).map fun j=> N / 256 ^ j % 256
theorem eJ (m N:Nat):(leB m N).length=m:=by simp[leB]
theorem MK (m N:Nat):∀x∈leB m N,x<256:=by
 intro x hx
 obtain⟨j,_,rfl⟩:=List.mem_map.1 hx
 exact Nat.mod_lt _ (ag)
theorem oe {m N j:Nat}(h:j<m):(leB m N)[j]? =some (N / 256 ^ j % 256):=by
 rw[leB,Xd,List.getElem?_range h];rfl
theorem Gc {m j N y:Nat}(h:j<m):(N+256 ^ m*y) / 256 ^ j % 256=N / 256 ^ j % 256:=by
 obtain⟨d,rfl⟩:∃d,m=j+1+d:=⟨m - (j+1),aa⟩
 have e:256 ^ (j+1+d)*y=256 ^ j*(256*(256 ^ d*y)):=by
  rw[Nat.pow_add,Nat.pow_succ,Nat.mul_assoc,Nat.mul_assoc]
 rw[e,Nat.add_mul_div_left _ _ (Nat.pow_pos (ag)),Nat.add_mul_mod_self_left]
theorem oc (T:Nat):2 ^ T=256 ^ (T / 8)*2 ^ (T % 8):=by
 have:(256:Nat)=2 ^ 8:=rfl
 rw[this,←Nat.pow_mul,←Nat.pow_add]
 congr 1;omega
def gj (w:Nat):List Nat→Nat
 | []=> 0
 |x::l=> x+2 ^ w*gj w l
theorem tC (w x:Nat):∀l:List Nat,gj w (l++ [x])=gj w l+2 ^ (w*l.length)*x
 | []=> by simp[gj]
 |y::l=> by
  rw[Yd,gj,tC w x l,gj,Yb,Nat.mul_add,Nat.mul_add,Nat.mul_one,Nat.pow_add,←Nat.mul_assoc,Nat.mul_comm (2 ^ w) (2 ^ (w*l.length)),Nat.add_assoc]
theorem yl {w:Nat}:∀{l:List Nat},(∀x∈l,x<2 ^ w)→gj w l<2 ^ (w*l.length)
 | [],_=> by simp[gj]
 |y::l,h=> by
  have h1:=yl (l:=l) fun x hx=> h x (Xa _ hx)
  have h2:=h y List.mem_cons_self
  rw[gj,Yb,Nat.mul_add,Nat.mul_one,Nat.pow_add,Nat.mul_comm (2 ^ (w*l.length))]
  have h3:2 ^ w*(gj w l+1)≤2 ^ w*2 ^ (w*l.length):=Nat.mul_le_mul_left _ h1
  rw[Nat.mul_add]at h3
  omega
theorem Ao {w:Nat}{l:List Nat}{i x:Nat}(h:l[i]? =some x):gj w (l.take (i+1))=gj w (l.take i)+2 ^ (w*i)*x:=by
 have hi:=(Yk.1 h).1
 rw[List.take_add_one,h,Option.toList_some,tC,Yg,Nat.min_eq_left (aa)]
def BS (w:Nat) (l:List Nat):List Nat:=leB ((l.length*w+7) / 8) (gj w l)
theorem EB {N T:Nat}(hN:N<2 ^ T):N / 256 ^ (T / 8)<2 ^ (T % 8):=by
 rw[Nat.div_lt_iff_lt_mul (Nat.pow_pos (ag)),Nat.mul_comm,←oc];exact hN
open Go Go.Proofs
set_option maxRecDepth 100000
theorem sV {G:cK}{H:cG}(x:Nat):SC G Tryz.prog 222 [.int .u8 (x:Int)] H (fun v H'=> v= .bool (isD x)∧H'=H):=by
 refine sWk Tryz.func222 Tryz.ntmps222 ?_
 refine gk (k:=dh 3 8 (k:=fun h1=>gk (k:=edq)) (q:=go ?_))
 refine gk (k:=rt_ Tryz.results222 (k:=?_))
 refine⟨_,hsb,?_,rfl⟩
 exact vb (by simp only[isD,Bool.or_eq_true,Bool.and_eq_true,decide_eq_true_eq];omega)
theorem we {G:cK}{H:cG}(x:Nat):SC G Tryz.prog 199 [.int .u8 (x:Int)] H (fun v H'=> v= .bool (isW x)∧H'=H):=by
 refine sWk Tryz.func199 Tryz.ntmps199 ?_
 refine gk (k:=dh 3 8 (k:=fun h1=>gk (k:=edq)) (q:=gk (k:=dN 7 16 (k:=fun h2=>gk (k:=dh 3 15 (k:=fun h3=>gk (k:=edq)) (q:=gk (k:=edq)))) (q:=go ?_))))
 refine dN 3 20 (k:=fun h4=>gk (k:=kK (vs:=[_]) (hc:=(sV x)) (k:=gk (k:=edq)))) (q:=gk (k:=dN 3 24 (k:=fun h5=>gk (k:=edq)) (q:=gk (k:=dN 3 28 (k:=fun h6=>gk (k:=edq)) (q:=gk (k:=rt_ Tryz.results199 (k:=?_)))))))
 refine⟨_,hsb,?_,rfl⟩
 exact vb (by simp only[isW,isD,Bool.or_eq_true,Bool.and_eq_true,decide_eq_true_eq];omega)
theorem IA {G:cK}{H:cG}{q:ByteArray}(i:Nat) (hi:i≤1000000000000) (hq:q.size≤1000000000000):SC G Tryz.prog 200 [.string q, .int .i64 (i:Int)] H (fun v H'=> v= .bool (og (cF q) i)∧H'=H):=by
 have hl:=cL q
 refine sWk Tryz.func200 Tryz.ntmps200 ?_
 refine gk (k:=dN 6 13 (k:=fun h1=>gk (k:=edq)) (q:=go ?_))
 refine wi_ (k:=fun h2=>?_) (m:=fun h2=>?_)
 ·refine gk (k:=rt_ Tryz.results200 (k:=?_))
  refine⟨_,hsb,vb ⟨fun h=> by(cases h),fun h=> ?_⟩,rfl⟩
  simp only[og,Bool.and_eq_true,decide_eq_true_eq]at h;omega
 have e1:decide (0<i)=true:=Ys (aa)
 have e2:decide (i+1<(cF q).length)=true:=Ys (aa)
 refine go ?_
 refine gk (k:=wi_ (k:=fun h3=>?_) (m:=fun h3=>?_))
 ·refine go ?_
  refine d1_ rfl (we _) (k:=gk (k:=dh 6 30 (k:=fun h4=>gk (k:=kK (vs:=[_]) (hc:=(we _)) (k:=gk (k:=edq)))) (q:=gk (k:=rt_ Tryz.results200 (k:=?_)))))
  refine⟨_,hsb,?_,rfl⟩
  rw[og,e1,e2,show at0 (cF q) i=39 from aa];simp;rfl
 refine gk (k:=wi_ (k:=fun h5=>?_) (m:=fun h5=>?_))
 ·refine go ?_
  refine d1_ rfl (sV _) (k:=gk (k:=dh 6 44 (k:=fun h6=>gk (k:=kK (vs:=[_]) (hc:=(sV _)) (k:=gk (k:=edq)))) (q:=gk (k:=rt_ Tryz.results200 (k:=?_)))))
  refine⟨_,hsb,?_,rfl⟩
  rw[og,e1,e2,show at0 (cF q) i=46 from aa];simp;rfl
 refine gk (k:=rt_ Tryz.results200 (k:=?_))
 refine⟨_,hsb,?_,rfl⟩
 rw[og,show decide (at0 (cF q) i=39)=false from Yr (aa),show decide (at0 (cF q) i=46)=false from Yr (aa)];simp;rfl
def eT:Enc Tok:=⟨fun t=> [.string (dL t.text), .int .i64 (t.value:Int), .int .i64 (t.pos:Int), .int .i64 (t.st:Int), .int .i64 (t.en:Int)],5,true,fun _=> rfl,fun p v h=> by simp at h;rcases h with rfl|rfl|rfl|rfl|rfl <;> rfl,ag,fun h=> aG,ag⟩
instance {s:ByteArray}{b c d:Nat}:fK eT (.agg [.string s, .int .i64 0, .int .i64 ((b:Nat):Int), .int .i64 ((c:Nat):Int), .int .i64 ((d:Nat):Int)].toArray) ⟨cF s,0,b,c,d⟩:=⟨by show Value.agg (eT.f _).toArray=_;simp only[eT,gO];rfl⟩
theorem EM {G:cK}{H:cG}{q:ByteArray}(hq:q.size≤1000000000):SC G Tryz.prog 171 [.string q] H (fun v H'=> ∃s:SV,v=s.val∧H'=Row s eT (gC (cF q))::H):=by
 have hl:=cL q
 refine sWk Tryz.func171 Tryz.ntmps171 ?_
 refine go ?_
 refine gk (k:=dt (SV×Nat×(Option Nat)×(List Tok)) (fun y=> y.2.1≤q.size+1∧ej (cF q) y.2.1=(y.2.2.1,y.2.2.2)) (fun y=> [(3,y.1.val),(4, .int .i64 (stI y.2.2.1)),(5, .int .i64 ((y.2.1:Nat):Int))]) [(0,_)] (fun y=> [Row y.1 eT y.2.2.2]) _ (fun y=> q.size+1 - y.2.1) ((SV.nil,0,none, [])) (h0:=?_) (k:=?_))
 ·try dsimp only
  exact⟨Yl _,rfl⟩
 rintro⟨s,i,a,out⟩ ⟨hi,hst⟩
 try dsimp only[Yd,Ye]at*
 have hw:=Bo (cF q) i a out hst
 refine gk (k:=wi_ (k:=fun h1=>?_) (m:=fun h1=>?_))
 ·refine gk (k:=dh 10 27 (k:=fun h2=>gk (k:=kK (vs:=[_]) (hc:=(we _)) (k:=gk (k:=dN 4 26 (k:=fun h3=>gk (k:=kK (vs:=[_,_]) (hc:=(IA i (aa) (aa))) (k:=gk (k:=edq)))) (q:=gk (k:=edq)))))) (q:=?_))
  refine e_ (asv (v:=.bool (inW (cF q) i)) rfl (vb (by simp[inW,hl]))) (k:=?_)
  refine gk (k:=dh 3 33 (k:=fun h4=>gk (k:=edq)) (q:=gk (k:=wi_ (k:=fun h5=>?_) (m:=fun h5=>?_))))
  ·obtain⟨hin,hn⟩:=h5
   obtain rfl:=IX.1 hn
   refine go ?_
   refine ln_ ((s,i+1,some i,out)) (k:=?_)
   try dsimp only
   exact⟨aa,lC hst hin⟩
  refine gk (k:=dh 3 41 (k:=fun h6=>gk (k:=edq)) (q:=gk (k:=wi_ (k:=fun h7=>?_) (m:=fun h7=>?_))))
  ·obtain⟨hin,hn⟩:=h7
   obtain⟨b,rfl⟩:∃b,a=some b:=by
    cases a with
    |none=> simp[stI]at hn
    |some b=> exact⟨b,rfl⟩
   have hb:=hw.2 b rfl
   have hbl:i≤q.size:=aa
   dsimp only[stI]
   refine ws_ (wr_ (e_ mv (k:=e_ mv (k:=e_ mv (k:=e_ mv (k:=?_))))))
   refine e_ (mL rfl b i ⟨_,_,rfl,rfl⟩ ⟨_,_,rfl,rfl⟩ (aa) (aa)) (k:=?_)
   refine e_ mv (k:=e_ lnn (k:=e_ mv (k:=e_ mv (k:=e_ (bld [(0,_),(2,_),(3,_),(4,_)]) (k:=gz eT (k:=fun s52=>?_))))))
   refine app (k:=fun s53=>?_)
   refine go ?_
   refine ln_ ((s53,i+1,none,out++ [⟨cF (q.extract b i),0,out.length,b,i⟩])) (k:=?_)
   try dsimp only
   refine⟨aa,?_⟩
   rw[gT];exact pD hst hin
  refine go ?_
  refine ln_ ((s,i+1,a,out)) (k:=?_)
  try dsimp only
  refine⟨aa,?_⟩
  cases hin:inW (cF q) i <;> cases a with
  |none=> first|exact pC hst hin|(exfalso;simp[hin,stI]at*)
  |some b=> first|exact sN hst hin|(exfalso;simp[hin,stI]at* <;> omega)
 obtain rfl:i=q.size+1:=aa
 refine gk (k:=rt_ Tryz.results171 (k:=?_))
 refine⟨_,hsb,s,rfl,?_⟩
 rw[gC,hl,hst]
theorem xe {q:ByteArray}(i:Nat):at0 (cF q) i<256:=by
 rw[at0,List.getD_eq_getElem?_getD]
 cases h:(cF q)[i]? with
 |none=> decide
 |some x=> exact k7 q x (Yj h)
theorem vZ (q:ByteArray) (k:Nat):cF (q.extract k q.size)=(cF q).drop k:=by
 rw[gT,List.take_of_length_le (by rw[cL];exact Nat.le_refl _)]
theorem iT (q:ByteArray) (k:Nat):cF (q.extract 0 k)=(cF q).take k:=by
 rw[gT,List.drop_zero]
theorem zt (q:ByteArray):cF (q.extract 0 (q.size - 1))=dA (cF q):=by rw[iT,dA,cL]
theorem tX {G:cK}{H:cG}{q e:ByteArray}(hq:q.size≤1000000000000) (he:e.size≤1000000000000):SC G Tryz.prog 286 [.string q, .string e] H (fun v H'=> v= .bool (dp (cF q) (cF e))∧H'=H):=by
 refine sWk Tryz.func286 Tryz.ntmps286 ?_
 refine gk (k:=dh 10 20 (k:=fun h1=>gk (k:=eg_ J1 (k:=gk (k:=eg_ y5 (k:=gk (k:=edq)))))) (q:=?_))
 refine gk (k:=rt_ Tryz.results286 (k:=?_))
 exact⟨_,hsb,vb (by simp[dp,vZ,cL]),rfl⟩
theorem kc {G:cK}{H:cG}{q e:ByteArray}(hq:q.size≤1000000000000) (he:e.size≤1000000000000):SC G Tryz.prog 278 [.string q, .string e] H (fun v H'=> v= .bool (dp (cF q) (cF e))∧H'=H):=by
 refine sWk Tryz.func278 Tryz.ntmps278 ?_
 refine go ?_
 refine d2_ rfl (tX hq he) (k:=gk (k:=rt_ Tryz.results278 (k:=?_)))
 exact⟨_,hsb,rfl,rfl⟩
theorem Dr {G:cK}{H:cG}{q e:ByteArray}(hq:q.size≤1000000000000) (he:e.size≤1000000000000):SC G Tryz.prog 239 [.string q, .string e] H (fun v H'=> v= .bool (j9 (cF q) (cF e))∧H'=H):=by
 refine sWk Tryz.func239 Tryz.ntmps239 ?_
 refine gk (k:=dh 7 17 (k:=fun h1=>gk (k:=eg_ Ab (k:=gk (k:=eg_ y5 (k:=gk (k:=edq)))))) (q:=?_))
 refine gk (k:=rt_ Tryz.results239 (k:=?_))
 exact⟨_,hsb,vb (by simp[j9,iT,cL]),rfl⟩
def pw (q e:ByteArray):ByteArray:=bif j9 (cF q) (cF e)then q.extract e.size q.size else q
def iI (q e:ByteArray):ByteArray:=bif dp (cF q) (cF e)then q.extract 0 (q.size - e.size)else q
theorem Bc {G:cK}{H:cG}{q e:ByteArray}(hq:q.size≤1000000000000) (he:e.size≤1000000000000):SC G Tryz.prog 220 [.string q, .string e] H (fun v H'=> v= .tuple #[.string (pw q e), .bool (j9 (cF q) (cF e))]∧H'=H):=by
 refine sWk Tryz.func220 Tryz.ntmps220 ?_
 refine go ?_
 refine d2_ rfl (Dr hq he) (k:=gk (k:=wi_ (k:=fun h1=>?_) (m:=fun h1=>?_)))
 ·refine gk (k:=rt_ Tryz.results220 (k:=?_))
  exact⟨_,hsb,by rw[pw,h1];rfl,rfl⟩
 have hle:e.size≤q.size:=by have:=h1;simp[j9,cL]at this;omega
 refine wk_ (qn_ (ws_ (wr_ (e_ mv (k:=e_ mv (k:=e_ nT (k:=e_ J1 (k:=gk (k:=rt_ Tryz.results220 (k:=?_))))))))))
 exact⟨_,hsb,by rw[pw,h1];rfl,rfl⟩
theorem DP {G:cK}{H:cG}{q e:ByteArray}(hq:q.size≤1000000000000) (he:e.size≤1000000000000):SC G Tryz.prog 195 [.string q, .string e] H (fun v H'=> v= .tuple #[.string (pw q e), .bool (j9 (cF q) (cF e))]∧H'=H):=by
 refine sWk Tryz.func195 Tryz.ntmps195 ?_
 refine go ?_
 refine d2_ rfl (Bc hq he) (k:=gk (k:=rt_ Tryz.results195 (k:=?_)))
 exact⟨_,hsb,rfl,rfl⟩
theorem Bb {G:cK}{H:cG}{q e:ByteArray}(hq:q.size≤1000000000000) (he:e.size≤1000000000000):SC G Tryz.prog 295 [.string q, .string e] H (fun v H'=> v= .tuple #[.string (iI q e), .bool (dp (cF q) (cF e))]∧H'=H):=by
 refine sWk Tryz.func295 Tryz.ntmps295 ?_
 refine go ?_
 refine d2_ rfl (tX hq he) (k:=gk (k:=wi_ (k:=fun h1=>?_) (m:=fun h1=>?_)))
 ·refine gk (k:=rt_ Tryz.results295 (k:=?_))
  exact⟨_,hsb,by rw[iI,h1];rfl,rfl⟩
 have hle:e.size≤q.size:=by have:=h1;simp[dp,cL]at this;omega
 refine wk_ (qn_ (ws_ (wr_ (e_ mv (k:=e_ mv (k:=e_ nT (k:=e_ mv (k:=e_ nT (k:=e_ isb (k:=e_ Ab (k:=go ?_)))))))))))
 refine gk (k:=rt_ Tryz.results295 (k:=?_))
 exact⟨_,hsb,by rw[iI,h1];rfl,rfl⟩
theorem vU {G:cK}{H:cG}{q e:ByteArray}(hq:q.size≤1000000000000) (he:e.size≤1000000000000):SC G Tryz.prog 287 [.string q, .string e] H (fun v H'=> v= .tuple #[.string (iI q e), .bool (dp (cF q) (cF e))]∧H'=H):=by
 refine sWk Tryz.func287 Tryz.ntmps287 ?_
 refine go ?_
 refine d2_ rfl (Bb hq he) (k:=gk (k:=rt_ Tryz.results287 (k:=?_)))
 exact⟨_,hsb,rfl,rfl⟩
theorem AR {G:cK}{H:cG}{q:ByteArray}(x:Nat):SC G Tryz.prog 297 [.string q, .int .u8 (x:Int)] H (fun v H'=> v= .int .i64 (ixR q x)∧H'=H):=by
 refine sWk Tryz.func297 Tryz.ntmps297 ?_
 refine go ?_
 refine s_ (Mk (vs:= [_,_]) Tryz.func298 (a8) rfl (a8) (a8) rfl (fun w=> Je q x w)) (k:=?_)
 rintro _ _ ⟨rfl,rfl⟩
 refine gk (k:=rt_ Tryz.results297 (k:=?_))
 exact⟨_,hsb,rfl,rfl⟩
theorem indexByte {G:cK}{H:cG}{q:ByteArray}(x:Nat):SC G Tryz.prog 294 [.string q, .int .u8 (x:Int)] H (fun v H'=> v= .int .i64 (ixR q x)∧H'=H):=by
 refine sWk Tryz.func294 Tryz.ntmps294 ?_
 refine go ?_
 refine d2_ rfl (AR x) (k:=gk (k:=rt_ Tryz.results294 (k:=?_)))
 exact⟨_,hsb,rfl,rfl⟩
end Go.Sx
