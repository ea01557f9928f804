import Derived.Test.YtjhdcheijnegnaaGreatDoorQ7
set_option linter.all false
set_option maxHeartbeats 0
namespace Go.Sx
def isD (b:Nat):Bool:=decide (48≤b)&&decide (b≤57)
def isW (b:Nat):Bool:=decide (97≤b)&&decide (b≤122) ||decide (65≤b)&&decide (b≤90) ||isD b ||decide (b=95) ||decide (128≤b)
def jP (s:List Nat) (i:Nat):Bool:=decide (0<i)&&decide (i+1<s.length)&&(decide (at0 s i=39)&&isW (at0 s (i-1))&&isW (at0 s (i+1)) ||decide (at0 s i=46)&&isD (at0 s (i-1))&&isD (at0 s (i+1)))
def inW (s:List Nat) (i:Nat):Bool:=decide (i<s.length)&&(isW (at0 s i) ||jP s i)
structure Tok where
 text:List Nat
 value:Nat
 pos:Nat
 st:Nat
 en:Nat
def eE (s:List Nat):Nat→Option Nat×List Tok
 | 0=>(none, [])
 |i+1=>
  let p:=eE s i
  match inW s i,p.1 with
  |true,none=>(some i,p.2)
  |false,some a=>(none,p.2++ [⟨(s.take i).drop a,0,p.2.length,a,i⟩])
  |_,_=>p
def eX (s:List Nat):List Tok:=(eE s (s.length+1)).2
theorem kp {s:List Nat}{i:Nat}{out:List Tok}(h:eE s i=(none,out)) (a:inW s i=true):eE s (i+1)=(some i,out):=by
 unfold eE;simp only[h,a]
theorem nP {s:List Nat}{i a:Nat}{out:List Tok}(h:eE s i=(some a,out)) (b:inW s i=false):eE s (i+1)=(none,out++ [⟨(s.take i).drop a,0,out.length,a,i⟩]):=by
 unfold eE;simp only[h,b]
theorem qj {s:List Nat}{i a:Nat}{out:List Tok}(h:eE s i=(some a,out)) (b:inW s i=true):eE s (i+1)=(some a,out):=by
 unfold eE;simp only[h,b]
theorem nO {s:List Nat}{i:Nat}{out:List Tok}(h:eE s i=(none,out)) (a:inW s i=false):eE s (i+1)=(none,out):=by
 unfold eE;simp only[h,a]
theorem vJ (w:List Nat):∀(i:Nat) (a:Option Nat) (out:List Tok),eE w i=(a,out)→out.length≤i∧∀b,a=some b→b<i∧out.length≤b:=by
 intro i
 induction i with
 |zero=>intro a out h;cases h;simp
 |succ i ih=>
  intro a out h;obtain⟨d,e,h0⟩:∃d e,eE w i=(d,e):=⟨_,_,rfl⟩;obtain⟨h1,h2⟩:=ih d e h0;cases hin:inW w i <;> cases d with
  |none=>
   first
   |(rw[nO h0 hin]at h;cases h;exact⟨a8,λb c=>by cases c⟩)
   |(rw[kp h0 hin]at h;cases h;exact⟨a8,λb c=>by cases c;omega⟩)
  |some d=>
   have:=h2 d rfl
   first
   |(rw[nP h0 hin]at h;cases h;simp only[Ya,Yb,Yc];exact⟨a8,λb c=>by cases c⟩)
   |(rw[qj h0 hin]at h;cases h;exact⟨a8,λb c=>by cases c;omega⟩)
def stI:Option Nat→Int
 |none=>-1
 |some a=>(a:Int)
theorem AV {o:Option Nat}:stI o<0↔o=none:=by
 cases o with
 |none=>simp[stI]
 |some a=>simp only[stI,reduceCtorEq,iff_false];omega
def jw (w:List Nat) (i:Nat):Bool:=(decide (65≤at0 w i)&&decide (at0 w i≤90)) ||(decide (0<i)&&decide (at0 w (i-1)=195)&&decide (128≤at0 w i)&&decide (at0 w i≤158)&&!decide (at0 w i=151))
def k9 (w:List Nat) (i:Nat):Nat:=bif jw w i then at0 w i+32 else at0 w i
def iS (w:List Nat):List Nat:=(List.range w.length).map (k9 w)
def jv (w:List Nat) (i:Nat):List Nat:=(iS w).take i++w.drop i
theorem fG (w:List Nat):(iS w).length=w.length:=by simp[iS]
theorem pP {w:List Nat}{i:Nat}(h:i≤w.length):(jv w i).length=w.length:=by
 simp only[jv,Ya,Yg,fG,Yo];omega
theorem q8 {w:List Nat}{i:Nat}(h:i<w.length):w[i]? =some (at0 w i):=by
 rw[at0,Xm,Yi h];all_goals rfl
theorem CW {w:List Nat}{i:Nat}(h:i<w.length):(iS w)[i]? =some (k9 w i):=by
 simp[iS,h]
theorem v8 {w:List Nat}{i:Nat}(h:i<w.length):(jv w i)[i]? =some (at0 w i):=by
 rw[jv,Yu (by simp[fG];omega),Yg,fG,Vk a8,Vw,Xh,Ur,q8 h]
theorem tB {w:List Nat}{i:Nat}(h:i<w.length):(iS w).take (i+1)=(iS w).take i++ [k9 w i]:=by
 rw[Ua,CW h];all_goals rfl
theorem tA {w:List Nat}{i:Nat}(h:i<w.length):jv w (i+1)=(jv w i).set i (k9 w i):=by
 have e:w.drop i=at0 w i::w.drop (i+1):=by
  rw[List.drop_eq_getElem_cons h];congr 1;have:=q8 h;rw[Yi h]at this;exact Xo this
 have hl:((iS w).take i).length=i:=by rw[Yg,fG];omega
 rw[jv,jv,tB h,e,U8 _ _ a8,hl,Vw,S6,Yf];all_goals rfl
theorem CU {w:List Nat}{i:Nat}(h:i<w.length) (hc:jw w i=true):(jv w i).set i (at0 w i+32)=jv w (i+1):=by
 rw[tA h,k9,hc];all_goals rfl
theorem Gd {w:List Nat}{i:Nat}(h:i<w.length) (hc:jw w i=false):jv w i=jv w (i+1):=by
 rw[tA h,k9,hc];apply Vu;intro j
 by_cases hj:i=j
 ·subst hj;rw[Uz (by rw[pP a8];exact h),v8 h];all_goals rfl
 ·rw[V2 hj]
theorem CV (w:List Nat):jv w w.length=iS w:=by
 rw[jv,Us (Xj _),Xq (by rw[fG];exact Xj _),Ym]
theorem A5 (w:List Nat):jv w 0=w:=by simp[jv]
theorem CX {w:List Nat}(a:∀x∈w,x<256) (i:Nat):k9 w i<256:=by
 have h0:at0 w i<256:=by
  rw[at0,Xm];cases h:w[i]? with
  |none=>decide
  |some x=>exact a x (Yj h)
 rw[k9];cases hc:jw w i with
 |false=>exact h0
 |true=>
  simp only[jw,Ub,Xu,Xs]at hc;simp only[cond_true];omega
def isV (b:Nat):Bool:=decide (b=97) ||decide (b=101) ||decide (b=105) ||decide (b=111) ||decide (b=117)
def p9:Option Bool→List Nat→List Bool
 |_, []=>[]
 |p,b::r=>
  let v:=isV b ||(decide (b=121)&&(match p with|some q=>!q|none=>false))
  v::p9 (some v) r
def vow (w:List Nat):List Bool:=p9 none w
def oO (w:List Nat):Bool:=(vow w).any id
def lu (w:List Nat):Bool:=decide (2≤w.length)&&decide (at0 w (w.length-1)=at0 w (w.length-2))&&!((vow w).getD (w.length-1) false)
def gx (w:List Nat):Bool:=decide (3≤w.length)&&!(decide (at0 w (w.length-1)=119) ||decide (at0 w (w.length-1)=120) ||decide (at0 w (w.length-1)=121))&&(!((vow w).getD (w.length-3) false)&&(vow w).getD (w.length-2) false&&!((vow w).getD (w.length-1) false))
def cW (w e:List Nat):Bool:=decide (e.length≤w.length)&&decide (w.drop (w.length-e.length)=e)
def jr (w e:List Nat):Bool:=decide (e.length≤w.length)&&decide (w.take e.length=e)
abbrev fN:=List Nat×List Nat
def lsC (w:List Nat) (best:Option fN) (r:fN):Bool:=cW w r.1&&(match best with|none=>true|some b=>decide (b.1.length<r.1.length))
def lK (w:List Nat) (best:Option fN) (r:fN):Option fN:=bif lsC w best r then some r else best
def dW (rs:List fN) (w:List Nat):Option fN:=rs.foldl (lK w) none
theorem mg:∀(w:List Nat) (p:Option Bool),(p9 p w).length=w.length
 | [],_=>rfl
 |b::r,p=>by simp only[p9,Yb,mg r]
theorem ey (w:List Nat):(vow w).length=w.length:=mg w none
theorem uu:∀(w:List Nat) (p:Option Bool) (i:Nat),i<w.length→(p9 p w)[i]? =some (isV (at0 w i) ||(decide (at0 w i=121)&&(match (if i=0 then p else(p9 p w)[i-1]?)with|some q=>!q|none=>false)))
 | [],_,_,h=>aI
 |b::r,p,0,_=>by simp[p9,at0]
 |b::r,p,i+1,h=>by
  have a:=uu r (some (isV b ||(decide (b=121)&&(match p with|some q=>!q|none=>false)))) i bM;simp only[p9,Xc,a,at0,List.getD_cons_succ,Nat.add_eq_zero_iff,Uj];cases i with
  |zero=>simp
  |succ i=>simp
theorem AG {w:List Nat}{i:Nat}(h:i<w.length):(vow w)[i]? =some (isV (at0 w i) ||(decide (at0 w i=121)&&(decide (0<i)&&!((vow w).getD (i-1) false)))):=by
 rw[vow,uu w none i h]
 by_cases h0:i=0
 ·simp[h0]
 ·rw[if_neg h0];have hl:i-1<(p9 none w).length:=by rw[mg];omega
  rw[Xm,Yi hl];simp[X1 h0]
def vAt (w:List Nat) (i:Nat):Bool:=isV (at0 w i) ||(decide (at0 w i=121)&&(decide (0<i)&&!((vow w).getD (i-1) false)))
def n9 (w:List Nat) (i:Nat):List Bool:=(vow w).take i++List.replicate (w.length-i) false
theorem qU {w:List Nat}{i:Nat}(h:i≤w.length):(n9 w i).length=w.length:=by
 simp only[n9,Ya,Yg,ey,Xe];omega
theorem BU (w:List Nat):n9 w 0=List.replicate w.length false:=by simp[n9]
theorem DK (w:List Nat):n9 w w.length=vow w:=by
 rw[n9,Xq (by rw[ey];exact Xj _),Vw];simp
theorem DJ {w:List Nat}{i j:Nat}(h:j<i) (hi:i≤w.length):(n9 w i)[j]? =some ((vow w).getD j false):=by
 rw[n9,Yv cE,Xz h,Xm,Yi (by rw[ey];omega)];all_goals rfl
theorem sq {w:List Nat}{i:Nat}(h:i<w.length) {b:Bool}(c:vAt w i=b):(n9 w i).set i b=n9 w (i+1):=by
 have hl:((vow w).take i).length=i:=cE;have a:=AG h;rw[show(isV (at0 w i) ||(decide (at0 w i=121)&&(decide (0<i)&&!((vow w).getD (i-1) false))))=b from c]at a;rw[n9,n9,Ua,a,U8 _ _ a8,hl,Vw,show w.length-i=(w.length-(i+1))+1 from a8,Uy,S6,Yf];all_goals rfl
theorem BV {w:List Nat}{i:Nat}(h:i<w.length) (a:vAt w i=false):n9 w i=n9 w (i+1):=by
 rw[←sq h a];apply Vu;intro j
 by_cases hj:i=j
 ·subst hj;rw[Uz (by rw[qU a8];exact h),n9,Yu cE,Yg,ey,Vk a8,Vw,show w.length-i=(w.length-(i+1))+1 from a8,Uy];all_goals rfl
 ·rw[V2 hj]
theorem il {w:List Nat}{i:Nat}(h:i<w.length):(vow w)[i]? =some ((vow w).getD i false):=by
 rw[Xm,Yi (by rw[ey];exact h)];all_goals rfl
def ik (rs:List fN):List (List Nat):=rs.flatMap λr=>[r.1,r.2]
theorem wu (rs:List fN):(ik rs).length=2*rs.length:=by
 induction rs with
 |nil=>rfl
 |cons r rs ih=>simp only[ik,Vp,Ya,Yb,Yc]at ih⊢;omega
theorem vf:∀{rs:List fN}{k:Nat}{r:fN},rs[k]? =some r→(ik rs)[2*k]? =some r.1∧(ik rs)[2*k+1]? =some r.2
 |r0::rs,0,r,h=>by cases h;exact⟨rfl,rfl⟩
 |r0::rs,k+1,r,h=>by
  have a:=vf (rs:=rs) (k:=k) (r:=r) bM;have e:ik (r0::rs)=r0.1::r0.2::ik rs:=rfl;rw[e,show 2*(k+1)=(2*k+1)+1 from a8,Xc,Xc,show(2*k+1)+1+1=(2*k+2)+1 from a8,Xc,show 2*k+2=(2*k+1)+1 from a8,Xc];exact a
def iH (strs:List ByteArray) (rs:List fN):Prop:=strs.map cF=ik rs
theorem iH.length {a:List ByteArray}{rs:List fN}(h:iH a rs):a.length=2*rs.length:=by
 rw[←wu,←show a.map cF=ik rs from h,Yh]
theorem iH.get {c:List ByteArray}{rs:List fN}(h:iH c rs) {k:Nat}{r:fN}(hr:rs[k]? =some r):∃a b:ByteArray,c[2*k]? =some a∧cF a=r.1∧c[2*k+1]? =some b∧cF b=r.2:=by
 obtain⟨h1,h2⟩:=vf hr;rw[←show c.map cF=ik rs from h,Xd]at h1 h2;cases h3:c[2*k]? with
 |none=>rw[h3]at h1;cases h1
 |some a=>
  cases h4:c[2*k+1]? with
  |none=>rw[h4]at h2;cases h2
  |some b=>rw[h3]at h1;rw[h4]at h2;exact⟨a,b,rfl,Xo h1,rfl,Xo h2⟩
def atI:Option (Nat×fN)→Int
 |none=>-1
 |some p=>((2*p.1:Nat):Int)
theorem BN {o:Option (Nat×fN)}:atI o<0↔o=none:=by
 cases o with
 |none=>simp[atI]
 |some p=>simp only[atI,reduceCtorEq,iff_false];omega
def l8 (v:List Bool):Nat→Nat
 | 0=>0
 |i+1=>l8 v i+(bif decide (0<i)&&v.getD (i-1) false&&!(v.getD i false)then 1 else 0)
def gj (w:List Nat):Nat:=l8 (vow w) w.length
theorem tg (v:List Bool):∀i,l8 v i≤i
 | 0=>Xj _
 |i+1=>by have:=tg v i;simp only[l8];cases(decide (0<i)&&v.getD (i-1) false&&!(v.getD i false)) <;> simp <;> omega
theorem nV (v:List Bool):l8 v 1=0:=by simp[l8]
theorem yT {v:List Bool}{i:Nat}(h:v[i]? =some true):v.any id=true:=List.any_eq_true.2 ⟨true,Yj h,rfl⟩
theorem vD {v:List Bool}(h:∀j,j<v.length→v[j]? =some false):v.any id=false:=by
 rw[List.any_eq_false];intro x hx;obtain⟨j,hj⟩:=Vy.1 hx;have hl:=(Yk.1 hj).1;rw[h j hl]at hj;cases hj;simp
theorem pI {rs:List fN}{w:List Nat}{i:Nat}{r:fN}(h:rs[i]? =some r):(rs.take (i+1)).foldl (lK w) none=lK w ((rs.take i).foldl (lK w) none) r:=by
 rw[Ua,h,S7,List.foldl_append];all_goals rfl
def gT:List fN:= [([115,115,101,115], [115,115]),([105,101,115], [105]),([115,115], [115,115]),([115], [])]
def jj:List fN:= [([101,101,100], [101,101]),([101,100], []),([105,110,103], [])]
def ic:List fN:= [([97,116,105,111,110,97,108], [97,116,101]),([116,105,111,110,97,108], [116,105,111,110]),([101,110,99,105], [101,110,99,101]),([97,110,99,105], [97,110,99,101]),([105,122,101,114], [105,122,101]),([97,98,108,105], [97,98,108,101]),([97,108,108,105], [97,108]),([101,110,116,108,105], [101,110,116]),([101,108,105], [101]),([111,117,115,108,105], [111,117,115]),([105,122,97,116,105,111,110], [105,122,101]),([97,116,105,111,110], [97,116,101]),([97,116,111,114], [97,116,101]),([97,108,105,115,109], [97,108]),([105,118,101,110,101,115,115], [105,118,101]),([102,117,108,110,101,115,115], [102,117,108]),([111,117,115,110,101,115,115], [111,117,115]),([97,108,105,116,105], [97,108]),([105,118,105,116,105], [105,118,101]),([98,105,108,105,116,105], [98,108,101])]
def iL:List fN:= [([105,99,97,116,101], [105,99]),([97,116,105,118,101], []),([97,108,105,122,101], [97,108]),([105,99,105,116,105], [105,99]),([105,99,97,108], [105,99]),([102,117,108], []),([110,101,115,115], [])]
def eM:List fN:= [([97,108], []),([97,110,99,101], []),([101,110,99,101], []),([101,114], []),([105,99], []),([97,98,108,101], []),([105,98,108,101], []),([97,110,116], []),([101,109,101,110,116], []),([109,101,110,116], []),([101,110,116], []),([105,111,110], []),([111,117], []),([105,115,109], []),([97,116,101], []),([105,116,105], []),([111,117,115], []),([105,118,101], []),([105,122,101], [])]
def i9:List (List Nat):= [[97], [97,110], [97,110,100], [97,114,101], [97,115], [97,116], [98,101], [98,117,116], [98,121], [102,111,114], [102,114,111,109], [104,97,115], [104,101], [105,102], [105,110], [105,110,116,111], [105,115], [105,116], [105,116,115], [110,111], [110,111,116], [111,102], [111,110], [111,114], [115,104,101], [115,111], [115,117,99,104], [116,104,97,116], [116,104,101], [116,104,101,105,114], [116,104,101,110], [116,104,101,114,101], [116,104,101,115,101], [116,104,101,121], [116,104,105,115], [116,111], [119,97,115], [119,101], [119,101,114,101], [119,105,108,108], [119,105,116,104], [121,111,117]]
def ko (w e:List Nat):List Nat:=w.take (w.length-e.length)
def dp (w:List Nat):List Nat:=w.take (w.length-1)
def fx (rs:List fN) (most:Nat) (w:List Nat):List Nat:=
 match dW rs w with
 |some r=>bif decide (most<gj (ko w r.1))then ko w r.1++r.2 else w
 |none=>w
def gH (w:List Nat):List Nat:=
 match dW gT w with
 |some r=>ko w r.1++r.2
 |none=>w
def kf (w:List Nat):List Nat:=
 bif cW w [97,116] ||cW w [98,108] ||cW w [105,122]then w++ [101]
 else bif lu w&&!(decide (at0 w (w.length-1)=108) ||decide (at0 w (w.length-1)=115) ||decide (at0 w (w.length-1)=122))then dp w
 else bif decide (gj w=1)&&gx w then w++ [101]else w
def gw (w:List Nat):List Nat:=
 match dW jj w with
 |none=>w
 |some r=>bif decide (r.1= [101,101,100])then(bif decide (0<gj (ko w r.1))then ko w r.1++r.2 else w)else bif oO (ko w r.1)then kf (ko w r.1)else w
def iY (w:List Nat):List Nat:=bif cW w [121]&&oO (dp w)then dp w++ [105]else w
def kA (w:List Nat):List Nat:=
 match dW eM w with
 |some r=>bif decide (r.1= [105,111,110])&&!cW (ko w r.1) [115]&&!cW (ko w r.1) [116]then w else fx eM 1 w
 |none=>w
def gS (w:List Nat):List Nat:=bif cW w [101]&&(decide (1<gj (dp w)) ||decide (gj (dp w)=1)&&!gx (dp w))then dp w else w
def nh (w:List Nat):List Nat:=bif cW (gS w) [108,108]&&decide (1<gj (gS w))then dp (gS w)else gS w
def ny (b:Nat):Bool:=decide (97≤b)&&decide (b≤122)
def jU (w:List Nat):List Nat:=bif decide (2<w.length)&&cW w [39,115]then w.take (w.length-2)else w
def qY (w:List Nat):List Nat:=bif decide (w.length<3)||!(w.all ny)then w else nh (kA (fx iL 0 (fx ic 0 (iY (gw (gH w))))))
def iq (w:List Nat):List Nat:=qY (jU w)
theorem CH {w:List Nat}{rs:List fN}:∀{best:Option fN}{r:fN},rs.foldl (lK w) best=some r→(best=some r)∨(r∈rs∧cW w r.1=true):=by
 induction rs with
 |nil=>intro best r h;exact .inl h
 |cons x rs ih=>
  intro best r h;rcases ih (best:=lK w best x) (r:=r) h with h1|⟨h1,h2⟩
  ·rw[lK]at h1;cases hc:lsC w best x with
   |true=>
    rw[hc]at h1;cases h1;simp only[lsC,Xu]at hc;exact .inr ⟨ak,hc.1⟩
   |false=>rw[hc]at h1;exact .inl h1
  ·exact .inr ⟨Xa _ h1,h2⟩
theorem l9 {w:List Nat}{rs:List fN}{r:fN}(h:dW rs w=some r):r∈rs∧cW w r.1=true:=by
 rcases CH h with h|h
 ·cases h
 ·exact h
theorem tP (w e:List Nat):(ko w e).length≤w.length:=by simp only[ko,Yg];omega
theorem lh (w:List Nat):(dp w).length≤w.length:=by simp only[dp,Yg];omega
theorem iB {rs:List fN}{most k:Nat}(h:∀r∈rs,r.2.length≤k) (w:List Nat):(fx rs most w).length≤w.length+k:=by
 rw[fx];cases hl:dW rs w with
 |none=>simp only;omega
 |some r=>
  have h1:=h r (l9 hl).1;have h2:=tP w r.1;simp only;cases decide (most<gj (ko w r.1))with
  |true=>simp only[cond_true,Ya];omega
  |false=>simp only[cond_false];omega
theorem mo (w:List Nat):(gH w).length≤w.length+10:=by
 rw[gH];cases hl:dW gT w with
 |none=>simp only;omega
 |some r=>
  have h1:∀r∈gT,r.2.length≤10:=ae;have:=h1 r (l9 hl).1;have h2:=tP w r.1;simp only[Ya];omega
theorem CG (w:List Nat):(kf w).length≤w.length+10:=by
 have h1:=lh w;unfold kf;cases(cW w [97,116] ||cW w [98,108] ||cW w [105,122])with
 |true=>simp
 |false=>
  simp only[cond_false];cases(lu w&&!(decide (at0 w (w.length-1)=108) ||decide (at0 w (w.length-1)=115) ||decide (at0 w (w.length-1)=122)))with
  |true=>simp only[cond_true];omega
  |false=>
   simp only[cond_false];cases(decide (gj w=1)&&gx w) <;> simp
theorem mn (w:List Nat):(gw w).length≤w.length+20:=by
 rw[gw];cases hl:dW jj w with
 |none=>simp only;omega
 |some r=>
  have h1:∀r∈jj,r.2.length≤10:=ae;have:=h1 r (l9 hl).1;have h2:=tP w r.1;have h3:=CG (ko w r.1);simp only;cases decide (r.1= [101,101,100])with
  |true=>
   simp only[cond_true];cases decide (0<gj (ko w r.1))with
   |true=>simp only[cond_true,Ya];omega
   |false=>simp only[cond_false];omega
  |false=>
   simp only[cond_false];cases oO (ko w r.1)with
   |true=>simp only[cond_true];omega
   |false=>simp only[cond_false];omega
theorem oE (w:List Nat):(iY w).length≤w.length+10:=by
 have h1:=lh w;rw[iY];cases(cW w [121]&&oO (dp w))with
 |true=>simp only[cond_true,Ya,Yb,Yc];omega
 |false=>simp only[cond_false];omega
theorem qo (w:List Nat):(kA w).length≤w.length+10:=by
 have h1:=iB (rs:=eM) (most:=1) (k:=10) ae w;rw[kA];cases dW eM w with
 |none=>simp only;omega
 |some r=>
  simp only;cases(decide (r.1= [105,111,110])&&!cW (ko w r.1) [115]&&!cW (ko w r.1) [116])with
  |true=>simp only[cond_true];omega
  |false=>simp only[cond_false];omega
theorem Ce (w:List Nat):(nh w).length≤w.length:=by
 have h1:(gS w).length≤w.length:=by
  have h1:=lh w;rw[gS];cases(cW w [101]&&(decide (1<gj (dp w)) ||decide (gj (dp w)=1)&&!gx (dp w)))with
  |true=>simp only[cond_true];omega
  |false=>simp only[cond_false];omega
 have h2:=lh (gS w);rw[nh];cases(cW (gS w) [108,108]&&decide (1<gj (gS w)))with
 |true=>simp only[cond_true];omega
 |false=>simp only[cond_false];omega
theorem nA {rs:List fN}(h:((ik rs).all λl=>l.all λx=>decide (x<256))=true):iH ((ik rs).map dQ) rs:=by
 rw[iH,Ut]
 conv=>rhs;rw[←P5 (ik rs)]
 apply T8;intro l hl;have h1:=V5.1 h l hl;exact ec λx hx=>Yt (V5.1 h1 x hx)
def vc (b:Bool):Nat:=bif b then 118 else 99
theorem MP {b:Bool}:vc b=118↔b=true:=by cases b <;> decide
theorem Km {b:Bool}:vc b=99↔b=false:=by cases b <;> decide
def lU (w:List Nat):List Nat:=(vow w).map vc
theorem kl (w:List Nat):(lU w).length=w.length:=by rw[lU,Yh,ey]
theorem Gb (w:List Nat):∀x∈lU w,x<256:=by
 intro x hx;obtain⟨b,_,rfl⟩:=Xw.1 hx;cases b <;> decide
theorem ku {w:List Nat}{i:Nat}(h:i<w.length):(lU w)[i]? =some (vc ((vow w).getD i false)):=by
 rw[lU,Xd,il h];all_goals rfl
theorem Gc {w:List Nat}{i:Nat}(h:i<w.length):at0 (lU w) i=vc ((vow w).getD i false):=by
 rw[at0,Xm,ku h];all_goals rfl
theorem Kl {w:List Nat}{i:Nat}(h:i<w.length):(vow w).getD i false=vAt w i:=by
 rw[Xm,AG h];all_goals rfl
theorem mK {w:List Nat}{i:Nat}(h:i<w.length) {b:Bool}(a:vAt w i=b):(lU w).take (i+1)=(lU w).take i++ [vc b]:=by
 rw[Ua,ku h,Kl h,a];all_goals rfl
theorem A4 {w:List Nat}{i j:Nat}(h:j<i) (hi:i≤w.length):((lU w).take i)[j]? =some (vc ((vow w).getD j false)):=by
 rw[Xz h,ku a8]
def lT (q:ByteArray):ByteArray:=dQ (lU (cF q))
theorem tS (q:ByteArray):cF (lT q)=lU (cF q):=ec (Gb _)
theorem kM (q:ByteArray):(lT q).size=q.size:=by rw[lT,gG,kl,cI]
theorem pO {q:ByteArray}{i:Nat}(h:i<q.size):at0 (cF (lT q)) i=vc ((vow (cF q)).getD i false):=by
 rw[tS,Gc (by rw[cI];exact h)]
theorem CT {q:ByteArray}(h:3≤q.size):decide (cF ((lT q).extract (q.size-3) (lT q).size)= [99,118,99])=(!((vow (cF q)).getD (q.size-3) false)&&(vow (cF q)).getD (q.size-2) false&&!((vow (cF q)).getD (q.size-1) false)):=by
 have hl:=cI q;have e:cF ((lT q).extract (q.size-3) (lT q).size)= [vc ((vow (cF q)).getD (q.size-3) false),vc ((vow (cF q)).getD (q.size-2) false),vc ((vow (cF q)).getD (q.size-1) false)]:=by
  rw[gr,tS,kM,Xq (by rw[kl,hl];exact Xj _)];apply Vu;intro j;rw[Xh]
  by_cases h0:j=0
  ·subst h0;rw[Ur,ku a8];all_goals rfl
  ·by_cases h1:j=1
   ·subst h1;rw[show q.size-3+1=q.size-2 from a8,ku a8];all_goals rfl
   ·by_cases h2:j=2
    ·subst h2;rw[show q.size-3+2=q.size-1 from a8,ku a8];all_goals rfl
    ·rw[Ve (by rw[kl];omega),Ve aH]
 rw[e];cases(vow (cF q)).getD (q.size-3) false <;> cases(vow (cF q)).getD (q.size-2) false <;> cases(vow (cF q)).getD (q.size-1) false <;> decide
theorem kR {w e:List Nat}(h:cW w e=true):e.length≤w.length:=by simp[cW]at h;exact h.1
theorem pV {w:List Nat}(h:lu w=true):2≤w.length:=by simp[lu]at h;exact h.1.1
theorem nY {w:List Nat}(h:1≤w.length) (x:Nat):cW w [x]=decide (at0 w (w.length-1)=x):=by
 have e:w.drop (w.length-1)= [at0 w (w.length-1)]:=by
  apply Vu;intro j;rw[Xh]
  by_cases h0:j=0
  ·subst h0;rw[Ur,q8 a8];all_goals rfl
  ·rw[Ve a8,Ve aH]
 rw[cW,Ys (show [x].length≤w.length from h),Vt,show w.length - [x].length=w.length-1 from rfl,e];exact decide_eq_decide.2 ak
theorem Ej (w:List Nat):(iq w).length≤w.length+100:=by
 have h0:(jU w).length≤w.length:=by
  rw[jU];cases(decide (2<w.length)&&cW w [39,115])with
  |true=>simp only[cond_true,Yg];omega
  |false=>exact Xj _
 rw[iq,qY];cases(decide ((jU w).length<3)||!(jU w).all ny)with
 |true=>simp only[cond_true];omega
 |false=>
  simp only[cond_false];have a1:=mo (jU w);have a2:=mn (gH (jU w));have a3:=oE (gw (gH (jU w)));have a4:=iB (rs:=ic) (most:=0) (k:=10) ae (iY (gw (gH (jU w))));have a5:=iB (rs:=iL) (most:=0) (k:=10) ae (fx ic 0 (iY (gw (gH (jU w)))));have a6:=qo (fx iL 0 (fx ic 0 (iY (gw (gH (jU w))))));have a7:=Ce (kA (fx iL 0 (fx ic 0 (iY (gw (gH (jU w)))))));omega
theorem all_take {w:List Nat}{i:Nat}(h:∀j,j<i→ny (at0 w j)=true) (hi:i=w.length):w.all ny=true:=by
 rw[V5];intro x hx;obtain⟨j,hj⟩:=Vy.1 hx;have hl:=(Yk.1 hj).1;have:=h j a8
 rwa [at0,Xm,hj]at this
theorem BO {w:List Nat}{i:Nat}(hi:i<w.length) (h:ny (at0 w i)=false):w.all ny=false:=by
 cases ha:w.all ny with
 |false=>rfl
 |true=>
  have:=V5.1 ha (at0 w i) (Yj (q8 hi));rw[h]at this;cases this
open Go Go.Proofs Tryz
set_option maxRecDepth 100000
section
variable {G:cJ}{H:cG}{q:ByteArray}
theorem sD (x:Nat):SC G prog 336 [.int .u8 (x:Int)] H (λv a=>v=.bool (isD x)∧a=H):=by
 refine sWk func336 ?_;refine gk (k:=cQ 3 8 (k:=λh1=>gk (k:=edq)) (q:=go ?_));refine gR ?_;refine⟨_,hsb,?_,rfl⟩;exact vb (by simp only[isD,Ub,Xu,Xs];omega)
theorem vO (x:Nat):SC G prog 293 [.int .u8 (x:Int)] H (λv a=>v=.bool (isW x)∧a=H):=by
 refine sWk func293 ?_;refine gk (k:=cQ 3 8 (k:=λh1=>gk (k:=edq)) (q:=gk (k:=dz 7 16 (k:=λh2=>gk (k:=cQ 3 15 (k:=λh3=>gk (k:=edq)) (q:=gk (k:=edq)))) (q:=go ?_))));refine dz 3 20 (k:=λh4=>gk (k:=gA (vs:=[_]) (hc:=(sD x)) (k:=gk (k:=edq)))) (q:=gk (k:=dz 3 24 (k:=λh5=>gk (k:=edq)) (q:=gk (k:=dz 3 28 (k:=λh6=>gk (k:=edq)) (q:=gR ?_)))));refine⟨_,hsb,?_,rfl⟩;exact vb (by simp only[isW,isD,Ub,Xu,Xs];omega)
theorem HN (i:Nat) (hi:i≤1000000000000) (hq:q.size≤1000000000000):SC G prog 294 [.string q,iN i] H (λv d=>v=.bool (jP (cF q) i)∧d=H):=by
 have hl:=cI q;refine sWk func294 ?_;refine gk (k:=dz 6 13 (k:=λh1=>gk (k:=edq)) (q:=go ?_));refine wi_ (k:=λh2=>?_) (m:=λh2=>?_)
 ·refine gR ?_;refine⟨_,hsb,vb ⟨λh=>by(cases h),λh=>?_⟩,rfl⟩;simp only[jP,Xu,Xs]at h;omega
 have b:decide (0<i)=true:=Ys a8;have a:decide (i+1<(cF q).length)=true:=Ys a8;refine go ?_;refine gW (λh3=>?_) λh3=>?_
 ·refine go ?_;refine d1_ rfl (vO _) (gk (k:=cQ 6 30 (k:=λh4=>gk (k:=gA (vs:=[_]) (hc:=(vO _)) (k:=gk (k:=edq)))) (q:=gR ?_)));refine⟨_,hsb,?_,rfl⟩;rw[jP,b,a,show at0 (cF q) i=39 from a8];simp;rfl
 refine gW (λc=>?_) λc=>?_
 ·refine go ?_;refine d1_ rfl (sD _) (gk (k:=cQ 6 44 (k:=λh6=>gk (k:=gA (vs:=[_]) (hc:=(sD _)) (k:=gk (k:=edq)))) (q:=gR ?_)));refine⟨_,hsb,?_,rfl⟩;rw[jP,b,a,show at0 (cF q) i=46 from a8];simp;rfl
 refine gR ?_;refine⟨_,hsb,?_,rfl⟩;rw[jP,show decide (at0 (cF q) i=39)=false from Yr a8,show decide (at0 (cF q) i=46)=false from Yr a8];simp;rfl
def eT:Enc Tok:=⟨λt=>[.string (dQ t.text),.int .i64 (t.value:Int),.int .i64 (t.pos:Int),.int .i64 (t.st:Int),.int .i64 (t.en:Int)],5,true,λ_=>rfl,λp v h=>by simp at h;rcases h with rfl|rfl|rfl|rfl|rfl <;> rfl,ae,λh=>aI,ae⟩
instance {s:ByteArray}{b c d:Nat}:i6 eT (.agg [.string s,.int .i64 0,.int .i64 ((b:Nat):Int),.int .i64 ((c:Nat):Int),.int .i64 ((d:Nat):Int)].toArray) ⟨cF s,0,b,c,d⟩:=⟨by show Value.agg (eT.f _).toArray=_;simp only[eT,iz];all_goals rfl⟩
theorem DX (hq:q.size≤1000000000):SC G prog 232 [.string q] H (λv l=>∃s:SV,v=s.val∧l=Row s eT (eX (cF q))::H):=by
 have hl:=cI q;refine sWk func232 ?_;refine go ?_;refine gk (k:=wl2_ (SV×Nat×(Option Nat)×(List Tok)) (λy=>y.2.1≤q.size+1∧eE (cF q) y.2.1=(y.2.2.1,y.2.2.2)) (λy=>[(3,y.1.val),(4,.int .i64 (stI y.2.2.1)),(5,iN y.2.1)]) [(0,_)] (λy=>[Row y.1 eT y.2.2.2]) _ (λy=>q.size+1-y.2.1) ((SV.nil,0,none, [])) (h0:=?_) (k:=?_))
 ·exact⟨Yl _,rfl⟩
 rintro⟨s,i,a,out⟩ ⟨hi,d⟩
 try dsimp only[Yd,Ye]at*
 have j:=vJ (cF q) i a out d;refine gW (λh1=>?_) λh1=>?_
 ·refine gk (k:=cQ 10 27 (k:=λh2=>gk (k:=gA (vs:=[_]) (hc:=(vO _)) (k:=gk (k:=dz 4 26 (k:=λh3=>gk (k:=gA (vs:=[_,_]) (hc:=(HN i a8 a8)) (k:=gk (k:=edq)))) (q:=gk (k:=edq)))))) (q:=?_));refine e_ (asv (v:=.bool (inW (cF q) i)) rfl (vb (by simp[inW,hl]))) ?_;refine gk (k:=cQ 3 33 (k:=λh4=>gk (k:=edq)) (q:=gW (λh=>?_) (λh=>?_)))
  ·obtain⟨c,f⟩:=h;obtain rfl:=AV.1 f;refine go ?_;refine lN ((s,i+1,some i,out)) ?_
   exact⟨a8,kp d c⟩
  refine gk (k:=cQ 3 41 (k:=λh6=>gk (k:=edq)) (q:=gW (λg=>?_) (λg=>?_)))
  ·obtain⟨c,f⟩:=g;obtain⟨b,rfl⟩:∃b,a=some b:=by
    cases a with
    |none=>simp[stI]at f
    |some b=>exact⟨b,rfl⟩
   have hb:=j.2 b rfl;have hbl:i≤q.size:=a8;dsimp only[stI];refine ws_ (wr_ (e_ mv (e_ mv (e_ mv (e_ mv ?_)))));refine e_ (jl rfl b i ⟨_,_,rfl,rfl⟩ ⟨_,_,rfl,rfl⟩ a8 a8) ?_;refine e_ mv (e_ lnn (e_ mv (e_ mv (e_ (bld [(0,_),(2,_),(3,_),(4,_)]) (fX eT (k:=λs52=>?_))))));refine app (k:=λe=>?_);refine go ?_;refine lN ((e,i+1,none,out++ [⟨cF (q.extract b i),0,out.length,b,i⟩])) ?_
   try dsimp only
   refine⟨a8,?_⟩;rw[gr];exact nP d c
  refine go ?_;refine lN ((s,i+1,a,out)) ?_
  try dsimp only
  refine⟨a8,?_⟩;cases c:inW (cF q) i <;> cases a with
  |none=>first|exact nO d c|(exfalso;simp[c,stI]at*)
  |some b=>first|exact qj d c|(exfalso;simp[c,stI]at* <;> omega)
 obtain rfl:i=q.size+1:=a8;refine gR ?_;refine⟨_,hsb,s,rfl,?_⟩;rw[eX,hl,d]
end
section
variable {G:cJ}{H:cG}{q:ByteArray}
theorem PT {x:Nat}(h:x<128):(decide (97≤x ||| 32)&&decide (x ||| 32≤122))=(decide (97≤x)&&decide (x≤122) ||decide (65≤x)&&decide (x≤90)):=by
 have:∀y:Fin 128,(decide (97≤y.val ||| 32)&&decide (y.val ||| 32≤122))=(decide (97≤y.val)&&decide (y.val≤122) ||decide (65≤y.val)&&decide (y.val≤90)):=ao;exact this ⟨x,h⟩
theorem sV (x:Nat):SC G prog 179 [.int .u8 (x:Int)] H (λv a=>v=.bool (isD x)∧a=H):=by
 refine sWk func179 ?_;refine gk (k:=cQ 3 8 (k:=λh1=>gk (k:=edq)) (q:=go ?_));refine gR ?_;refine⟨_,hsb,?_,rfl⟩;exact vb (by simp only[isD,Ub,Xu,Xs];omega)
theorem vZ (x:Nat) (hx:x<256):SC G prog 178 [.int .u8 (x:Int)] H (λv a=>v=.bool (isW x)∧a=H):=by
 refine sWk func178 ?_;refine gk (k:=dz 3 9 (k:=λh1=>gk (k:=edq)) (q:=gk (k:=dz 3 13 (k:=λh2=>gk (k:=gA (vs:=[_]) (hc:=(sV x)) (k:=gk (k:=edq)))) (q:=?_))));refine gW (λh3=>?_) λh3=>?_
 ·refine gR ?_;refine⟨_,hsb,?_,rfl⟩;exact vb (by simp[isW,isD]at* <;> omega)
 refine wk_ (qn_ (ws_ (wr_ (e_ mv ?_))));refine e_ (fI 256 rfl rfl rfl rfl _ 32 rfl rfl hx ae) ?_;refine gk (k:=cQ 3 21 (k:=λh4=>gk (k:=edq)) (q:=gR ?_));refine⟨_,hsb,?_,rfl⟩;have h2:=PT (x:=x) a8;show Value.bool _=_;rw[isW,←h2];exact vb (by simp[isD]at* <;> omega)
theorem oV (i:Nat):at0 (cF q) i<256:=by
 rw[at0,Xm];cases h:(cF q)[i]? with
 |none=>decide
 |some x=>exact jQ q x (Yj h)
theorem It (i:Nat) (hi:i<q.size) (hq:q.size≤1000000000000):SC G prog 106 [.string q,iN i] H (λv f=>v=.bool (inW (cF q) i)∧f=H):=by
 have hl:=cI q;have a:decide (i<(cF q).length)=true:=Ys a8;refine sWk func106 ?_;refine go ?_;refine d1_ rfl (vZ _ (oV _)) (gW (λh1=>?_) (λh1=>?_))
 ·refine gR ?_;refine⟨_,hsb,?_,rfl⟩;rw[inW,a,h1];all_goals rfl
 refine gk (k:=dz 6 19 (k:=λh2=>gk (k:=edq)) (q:=gW (λh3=>?_) (λh3=>?_)))
 ·have hI:jP (cF q) i=false:=by
   rw[jP];rcases(show i=0∨¬(i+1<(cF q).length)from a8)with e|e
   ·rw[show decide (0<i)=false from Yr a8];all_goals rfl
   ·rw[show decide (i+1<(cF q).length)=false from Yr e];simp
  refine gR ?_;refine⟨_,hsb,?_,rfl⟩;rw[inW,a,hI,h1];all_goals rfl
 have d:decide (0<i)=true:=Ys a8;have c:decide (i+1<(cF q).length)=true:=Ys a8;have b:isW (at0 (cF q) i)=false:=cC;refine go ?_;refine cZ cN (go ?_);refine gW (λh4=>?_) λh4=>?_
 ·refine go ?_;refine d1_ rfl (vZ _ (oV _)) (gk (k:=cQ 3 37 (k:=λh5=>gk (k:=gA (vs:=[_]) (hc:=(vZ _ (oV _))) (k:=gk (k:=edq)))) (q:=gR ?_)));refine⟨_,hsb,?_,rfl⟩;rw[inW,jP,a,d,c,b,show at0 (cF q) i=39 from a8];simp;rfl
 refine gk (k:=cQ 3 45 (k:=λh6=>gk (k:=gA (vs:=[_]) (hc:=(sV _)) (k:=gk (k:=edq)))) (q:=gk (k:=cQ 3 49 (k:=λh7=>gk (k:=gA (vs:=[_]) (hc:=(sV _)) (k:=gk (k:=edq)))) (q:=go ?_))));refine gR ?_;refine⟨_,hsb,?_,rfl⟩;rw[inW,jP,a,d,c,b,show decide (at0 (cF q) i=39)=false from Yr a8];exact vb (by simp at* <;> omega)
theorem EN (hq:q.size≤1000000000):SC G prog 58 [.string q] H (λv j=>∃s:SV,v=s.val∧j=Row s eT (eX (cF q))::H):=by
 have hl:=cI q;refine sWk func58 ?_;refine go ?_;refine s_ (fK eT rfl) ?_;rintro _ _ ⟨g,rfl,rfl⟩;refine go ?_;refine gk (k:=wl2_ (SV×Nat×(Option Nat)×(List Tok)) (λy=>y.2.1≤q.size+1∧eE (cF q) y.2.1=(y.2.2.1,y.2.2.2)) (λy=>[(3,y.1.val),(4,.int .i64 (stI y.2.2.1)),(5,iN y.2.1)]) [(0,_)] (λy=>[Row y.1 eT y.2.2.2]) _ (λy=>q.size+1-y.2.1) ((g,0,none, [])) (h0:=?_) (k:=?_))
 ·exact⟨Yl _,rfl⟩
 rintro⟨s,i,a,out⟩ ⟨hi,d⟩
 try dsimp only[Yd,Ye]at*
 have h:=vJ (cF q) i a out d;refine gW (λh1=>?_) λh1=>?_
 ·refine gk (k:=cQ 4 22 (k:=λh2=>gk (k:=gA (vs:=[_,_]) (hc:=(It i a8 a8)) (k:=gk (k:=edq)))) (q:=?_));refine e_ (asv (v:=.bool (inW (cF q) i)) rfl (vb (by simp[inW,hl]))) ?_;refine gk (k:=cQ 3 27 (k:=λh3=>gk (k:=edq)) (q:=gW (λh4=>?_) (λh4=>?_)))
  ·obtain⟨c,f⟩:=h4;obtain rfl:=AV.1 f;rw[c];refine go ?_;refine gk (k:=iff_ (k:=go ?_));refine lN ((s,i+1,some i,out)) ?_
   exact⟨a8,kp d c⟩
  refine gk (k:=cQ 3 34 (k:=λh5=>gk (k:=edq)) (q:=gk (k:=ir_ (k:=λh6=>?_) (m:=λh6=>?_))))
  ·simp only[Xu,Vq,Xs]at h6;obtain⟨c,f⟩:=h6;obtain⟨b,rfl⟩:∃b,a=some b:=by
    cases a with
    |none=>simp_all [stI]
    |some b=>exact⟨b,rfl⟩
   have hb:=h.2 b rfl;have hbl:i≤q.size:=a8;dsimp only[stI];refine ws_ (wr_ (e_ mv (e_ mv (e_ mv (e_ mv ?_)))));refine e_ (jl rfl b i ⟨_,_,rfl,rfl⟩ ⟨_,_,rfl,rfl⟩ a8 a8) ?_;refine e_ mv (e_ lnn (e_ mv (e_ mv (e_ (bld [(0,_),(2,_),(3,_),(4,_)]) (fX eT (k:=λs45=>?_))))));refine app (k:=λe=>?_);refine go ?_;refine lN ((e,i+1,none,out++ [⟨cF (q.extract b i),0,out.length,b,i⟩])) ?_
   try dsimp only
   refine⟨a8,?_⟩;rw[gr];exact nP d c
  refine go ?_;refine lN ((s,i+1,a,out)) ?_
  try dsimp only
  refine⟨a8,?_⟩;cases c:inW (cF q) i <;> cases a with
  |none=>first|exact nO d c|(exfalso;simp[c,stI]at*)
  |some b=>first|exact qj d c|(exfalso;simp[c,stI]at* <;> omega)
 obtain rfl:i=q.size+1:=a8;refine gR ?_;refine⟨_,hsb,s,rfl,?_⟩;rw[eX,hl,d]
end
section
variable {G:cJ}{H:cG}{e q:ByteArray}
theorem qQ (q:ByteArray) (k:Nat):cF (q.extract k q.size)=(cF q).drop k:=by
 rw[gr,Xq (by rw[cI];exact Xj _)]
theorem fM (q:ByteArray) (k:Nat):cF (q.extract 0 k)=(cF q).take k:=by
 rw[gr,Vi]
theorem iy (q:ByteArray):cF (q.extract 0 (q.size-1))=dp (cF q):=by rw[fM,dp,cI]
theorem A7 (q:ByteArray) (k:Nat):(q.extract 0 k).size≤q.size:=by
 have:=cI (q.extract 0 k);rw[fM,Yg,cI]at this;omega
theorem tr (hq:q.size≤1000000000000) (he:e.size≤1000000000000):SC G prog 462 [.string q,.string e] H (λv a=>v=.bool (cW (cF q) (cF e))∧a=H):=by
 refine sWk func462 ?_;refine gk (k:=cQ 10 20 (k:=λh1=>gk (k:=eg_ zw (gk (k:=eg_ np (gk (k:=edq)))))) (q:=?_));refine gR ?_;exact⟨_,hsb,vb (by simp[cW,qQ,cI]),rfl⟩
theorem kt (a:q.size≤1000000000000) (he:e.size≤1000000000000):SC G prog 454 [.string q,.string e] H (λv b=>v=.bool (cW (cF q) (cF e))∧b=H):=by
 refine sWk func454 ?_;refine go ?_;refine d2_ rfl (tr a he) (gR ?_);exact⟨_,hsb,rfl,rfl⟩
theorem iC (hq:q.size≤1000000000000) (he:e.size≤1000000000000):SC G prog 253 [.string q,.string e] H (λv a=>v=.bool (cW (cF q) (cF e))∧a=H):=by
 refine sWk func253 ?_;refine gk (k:=cQ 10 20 (k:=λh1=>gk (k:=eg_ zw (gk (k:=eg_ np (gk (k:=edq)))))) (q:=?_));refine gR ?_;exact⟨_,hsb,vb (by simp[cW,qQ,cI]),rfl⟩
theorem CO (hq:q.size≤1000000000000) (he:e.size≤1000000000000):SC G prog 364 [.string q,.string e] H (λv a=>v=.bool (jr (cF q) (cF e))∧a=H):=by
 refine sWk func364 ?_;refine gk (k:=cQ 7 17 (k:=λh1=>gk (k:=eg_ oF (gk (k:=eg_ np (gk (k:=edq)))))) (q:=?_));refine gR ?_;exact⟨_,hsb,vb (by simp[jr,fM,cI]),rfl⟩
def oT (q e:ByteArray):ByteArray:=bif jr (cF q) (cF e)then q.extract e.size q.size else q
def j9 (q e:ByteArray):ByteArray:=bif cW (cF q) (cF e)then q.extract 0 (q.size-e.size)else q
theorem Ah (a:q.size≤1000000000000) (he:e.size≤1000000000000):SC G prog 334 [.string q,.string e] H (λv b=>v=.tuple #[.string (oT q e),.bool (jr (cF q) (cF e))]∧b=H):=by
 refine sWk func334 ?_;refine go ?_;refine d2_ rfl (CO a he) (gW (λh1=>?_) (λh1=>?_))
 ·refine gR ?_;exact⟨_,hsb,by rw[oT,h1];all_goals rfl,rfl⟩
 have hle:e.size≤q.size:=by have:=h1;simp[jr,cI]at this;omega
 refine gk (k:=e_ zw (gR ?_));exact⟨_,hsb,by rw[oT,h1];all_goals rfl,rfl⟩
theorem Dc (a:q.size≤1000000000000) (he:e.size≤1000000000000):SC G prog 289 [.string q,.string e] H (λv b=>v=.tuple #[.string (oT q e),.bool (jr (cF q) (cF e))]∧b=H):=by
 refine sWk func289 ?_;refine go ?_;refine d2_ rfl (Ah a he) (gR ?_);exact⟨_,hsb,rfl,rfl⟩
theorem Ag (a:q.size≤1000000000000) (he:e.size≤1000000000000):SC G prog 471 [.string q,.string e] H (λv b=>v=.tuple #[.string (j9 q e),.bool (cW (cF q) (cF e))]∧b=H):=by
 refine sWk func471 ?_;refine go ?_;refine d2_ rfl (tr a he) (gW (λh1=>?_) (λh1=>?_))
 ·refine gR ?_;exact⟨_,hsb,by rw[j9,h1];all_goals rfl,rfl⟩
 have hle:e.size≤q.size:=by have:=h1;simp[cW,cI]at this;omega
 refine gk (k:=e_ oF (go ?_));refine gR ?_;exact⟨_,hsb,by rw[j9,h1];all_goals rfl,rfl⟩
theorem vu (a:q.size≤1000000000000) (he:e.size≤1000000000000):SC G prog 463 [.string q,.string e] H (λv b=>v=.tuple #[.string (j9 q e),.bool (cW (cF q) (cF e))]∧b=H):=by
 refine sWk func463 ?_;refine go ?_;refine d2_ rfl (Ag a he) (gR ?_);exact⟨_,hsb,rfl,rfl⟩
theorem A1 (x:Nat):SC G prog 188 [.string q,.int .u8 (x:Int)] H (λv a=>v=.int .i64 (ixR q x)∧a=H):=by
 refine sWk func188 ?_;refine go ?_;refine s_ (vR (vs:= [_,_]) func258 aa rfl aa aa rfl (λw=>AY q x w)) ?_;rintro _ _ ⟨rfl,rfl⟩;exact gZ
theorem indexByte (x:Nat):SC G prog 470 [.string q,.int .u8 (x:Int)] H (λv a=>v=.int .i64 (ixR q x)∧a=H):=by
 refine sWk func470 ?_;refine go ?_;refine d2_ rfl (A1 x) (gR ?_);exact⟨_,hsb,rfl,rfl⟩
end
section
variable {G:cJ}{H:cG}{q:ByteArray}
theorem rC (hq:q.size≤1000000000):SC G prog 472 [.string q] H (λv g=>∃s:SV,v=s.val∧g=Row s eBo (vow (cF q))::H):=by
 have hl:=cI q;refine sWk func472 ?_;refine go ?_;refine s_ (fq eBo false rfl rfl _ _ rfl rfl rfl a8 a8 a8) ?_;rintro _ _ ⟨c,rfl,hs7n,hs7c,rfl⟩;have d:cH (Row c eBo (List.replicate q.size false)::H) (Row c eBo (n9 (cF q) 0)::H):=by rw[BU,hl];exact cH.refl
 refine gk (k:=wl2_ Nat (λy=>y≤q.size) (λy=>[(10,iN y)]) [(0,_),(3,_),(9,_)] (λy=>[Row c eBo (n9 (cF q) y)]) H (λy=>q.size-y) (0) (hh:=?_) (h0:=?_) (k:=?_))
 ·exact d
 ·exact Yl _
 rintro i hi
 try dsimp only[Yd,Ye]at*
 have hp:=qU (w:=cF q) (i:=i) a8;refine gW (λh1=>?_) λh1=>?_
 ·have a:i<(cF q).length:=by simp at h1;omega
  refine wk_ (qn_ (ws_ (wb_ (ws_ (wr_ (e_ mv (e_ asn (on_ (qn_ (ws_ (wr_ (e_ mv (e_ mv ?_)))))))))))));refine e_ ixs (on_ (qn_ (wb_ (mf [(16,.bool (isV (at0 (cF q) i)))] [16,17,18,19,20,21] ?_ ?_))))
  ·refine gW (λh2=>?_) λh2=>?_
   ·refine gk (k:=jne (hs:=.cons (by first|exact rfl|exact jb (by refine bq ?_;simp[isV];omega)) (.nil)))
   refine gW (λh3=>?_) λh3=>?_
   ·refine gk (k:=jne (hs:=.cons (by first|exact rfl|exact jb (by refine bq ?_;simp[isV];omega)) (.nil)))
   refine gW (λh4=>?_) λh4=>?_
   ·refine gk (k:=jne (hs:=.cons (by first|exact rfl|exact jb (by refine bq ?_;simp[isV];omega)) (.nil)))
   refine gW (λf=>?_) λf=>?_
   ·refine gk (k:=jne (hs:=.cons (by first|exact rfl|exact jb (by refine bq ?_;simp[isV];omega)) (.nil)))
   refine gk (k:=jne (hs:=.cons (by first|exact rfl|exact jb (by refine bq ?_;simp[isV];omega)) (.nil)))
  refine wi_ (k:=λh6=>?_) (m:=λh6=>?_)
  ·refine wr_ (e_ mv (e_ mv ?_));refine e_ (cV rfl rfl i rfl a8) ?_;refine s_ (dc rfl rfl rfl a8) ?_;rintro _ _ ⟨rfl,rfl⟩;rw[sq a (b:=true) (by rw[vAt,h6];all_goals rfl)];refine go ?_;refine lN (i+1) ?_
   try dsimp only
   omega
  refine ws_ (wr_ (e_ ieq (e_ asn (on_ (qn_ (wi_ (k:=λe=>?_) (m:=λe=>?_)))))))
  ·refine wr_ (e_ mv (e_ mv (e_ mv (e_ igt (e_ mv (cQ 7 38 (k:=λh8=>eg_ mv (eg_ mv (eg_ isb (eg_ ixa (eg_ (lel (hy:=DJ a8 a8)) (eg_ jq (e_ pkt (on_ edq)))))))) (q:=?_)))))));refine e_ (cV rfl rfl i rfl a8) ?_;refine s_ (dc rfl rfl rfl a8) ?_;rintro _ _ ⟨rfl,rfl⟩;rw[sq a (by rw[vAt,h6,Ys (show at0 (cF q) i=121 from a8)];simp)];refine go ?_;refine lN (i+1) ?_
   try dsimp only
   omega
  rw[BV a (by rw[vAt,h6,Yr (show ¬at0 (cF q) i=121 from a8)];all_goals rfl)];refine go ?_;refine lN (i+1) ?_
  try dsimp only
  omega
 obtain rfl:i=q.size:=by simp at h1;omega
 refine gR ?_;refine⟨_,hsb,c,rfl,?_⟩;rw[←hl,DK]
theorem xf (c:q.size≤1000000000):SC G prog 464 [.string q] H (λv d=>v=.int .i64 (gj (cF q):Nat)∧d=H):=by
 have hl:=cI q;have hv:=ey (cF q);refine sWk func464 ?_;refine go ?_;refine c1_ rfl (rC c) ?_;rintro _ _ ⟨sv,rfl,rfl⟩;refine gk (k:=wl2_ (Nat×Nat) (λy=>1≤y.1∧(y.1≤q.size∨y.1=1)∧y.2=l8 (vow (cF q)) y.1) (λy=>[(3,iN y.2),(5,iN y.1)]) [(4,_)] (λy=>[]) _ (λy=>q.size-y.1) ((1,0)) (h0:=?_) (k:=?_))
 ·exact⟨Xj _,.inr rfl,(nV _).symm⟩
 rintro⟨i,m⟩ ⟨h1i,hi,b⟩
 try dsimp only[Yd,Ye]at*
 have hm:=tg (vow (cF q)) i;refine gW (λh1=>?_) λh1=>?_
 ·have hlt:i<(cF q).length:=by omega
  have a:l8 (vow (cF q)) (i+1)=l8 (vow (cF q)) i+(bif (vow (cF q)).getD (i-1) false&&!((vow (cF q)).getD i false)then 1 else 0):=by rw[l8,Ys (show 0<i from a8),Vt]
  refine wk_ (qn_ (ws_ (wb_ (ws_ (wr_ (e_ mv (e_ mv (e_ isb (e_ ixa (e_ (lel (hy:=il a8)) (e_ mv (cQ 6 25 (k:=λh2=>eg_ mv (eg_ mv (eg_ ixa (eg_ (lel (hy:=il a8)) (eg_ jq (e_ pkt (on_ edq))))))) (q:=on_ ?_)))))))))))));refine gk (k:=ir_ (k:=λh3=>?_) (m:=λh3=>?_))
  ·rw[h3]at a;refine go ?_;refine lN ((i+1,m+1)) ?_
   try dsimp only
   refine⟨a8,a8,?_⟩;rw[a,b];all_goals rfl
  rw[h3]at a;refine go ?_;refine lN ((i+1,m)) ?_
  try dsimp only
  refine⟨a8,a8,?_⟩;rw[a,b];all_goals rfl
 refine gR ?_;refine⟨_,hsb,?_,rfl⟩;rw[gj,b];rcases Uc q.size with h0|h0
 ·obtain rfl:i=1:=by omega
  rw[hl,h0,nV];all_goals rfl
 ·obtain rfl:i=q.size:=by omega
  rw[hl];all_goals rfl
theorem JN (c:q.size≤1000000000):SC G prog 468 [.string q] H (λv d=>v=.bool (oO (cF q))∧d=H):=by
 have hv:=ey (cF q);have hl:=cI q;refine sWk func468 ?_;refine go ?_;refine c1_ rfl (rC c) ?_;rintro _ _ ⟨sv,rfl,rfl⟩;refine gk (k:=wl2_ Nat (λy=>y≤q.size∧∀j,j<y→(vow (cF q))[j]? =some false) (λy=>[(8,iN y)]) [(6,_),(7,_)] (λy=>[]) _ (λy=>q.size-y) (0) (h0:=?_) (k:=?_))
 ·exact⟨Yl _,λj hj=>absurd hj (Up _)⟩
 rintro i ⟨hi,a⟩
 try dsimp only[Yd,Ye]at*
 refine gW (λh1=>?_) λh1=>?_
 ·refine wk_ (qn_ (ws_ (wb_ (ws_ (wr_ (e_ ixa (e_ (lel (hy:=il a8)) (go ?_))))))));refine gW (λh2=>?_) λh2=>?_
  ·have b:=il (w:=cF q) (i:=i) a8;rw[h2]at b;refine gR ?_;exact⟨_,hsb,by rw[oO,yT b];all_goals rfl,rfl⟩
  have b:=il (w:=cF q) (i:=i) a8;rw[h2]at b;refine go ?_;refine lN (i+1) ?_
  try dsimp only
  refine⟨a8,λj hj=>?_⟩
  by_cases e:j=i
  ·subst e;exact b
  ·exact a j a8
 refine gR ?_;exact⟨_,hsb,by rw[oO,vD (λj hj=>a j a8)];all_goals rfl,rfl⟩
theorem HS {G:cJ}{H:cG}{q:ByteArray}(hq:q.size≤1000000000):SC G prog 469 [.string q] H (λv H'=>v=.bool (lu (cF q))∧H'=H):=by
 have hv:=ey (cF q)
 have hl:=cI q
 refine sWk func469 ?_
 refine ws_ (wr_ (e_ asn (k:=on_ (qn_ (ws_ (wr_ (e_ mv (k:=e_ oe (k:=e_ asn (k:=on_ (qn_ (ws_ (?_)))))))))))))
 refine Kh cN (λi=>[15].contains i) (λ_ _=>True) (af_ 0 (q:=cU λH hH=>mv) (k:=af_ 1 (q:=cU λH hH=>ige) (k:=?_)))
 refine fU 2 rfl rfl (aa) rfl (cU λH hH=>mv) (λh1=>?_) (λh1=>?_)
 ·replace h1:=nrm h1
  have e1:decide (2≤(cF q).length)=true:=Ys (a8)
  refine ag_ 3 (q:=cU λH hH=>mv) (k:=ag_ 4 (q:=cU λH hH=>mv) (k:=ag_ 5 (q:=cU λH hH=>isb) (k:=ag_ 6 (q:=cU λH hH=>ixs) (k:=ag_ 7 (q:=cU λH hH=>mv) (k:=ag_ 8 (q:=cU λH hH=>mv) (k:=ag_ 9 (q:=cU λH hH=>isb) (k:=ag_ 10 (q:=cU λH hH=>ixs) (k:=ag_ 11 (q:=cU λH hH=>ieq) (k:=af_ 12 (q:=cU λH hH=>pkt) (k:=?_))))))))))
  refine fU 13 rfl rfl (aa) rfl (cU λH hH=>mv) (λh2=>?_) (λh2=>?_)
  ·replace h2:=nrm h2
   have e2:decide (at0 (cF q) ((cF q).length-1)=at0 (cF q) ((cF q).length-2))=true:=Ys (cm)
   refine ag_ 14 (q:=cU λH hH=>mv) (k:=ag_ 16 (q:=cU λH hH=>mv) (k:=ag_ 17 (q:=cU λH hH=>isb) (k:=?_)))
   refine Am 15 rfl rfl rfl (aa) rfl (λ_ _=>trivial) (dy (vs:= [_]) rfl (rC hq)) ?_
   rintro _ _ ⟨sv,rfl,rfl⟩
   refine qa (λ_=>trivial) (at2 18 (q:=ixa) (k:=at2 19 (q:=lel (hy:=il (a8))) (k:=at2 20 (q:=jq) (k:=as_ 21 (q:=pkt) (k:=as_ 22 (q:=asn) (k:=az_ (k:=qn_ (wt_ (rt_ results469 (k:=?_))))))))))
   exact⟨_,hsb,by rw[lu,e1,e2,hl];all_goals rfl,rfl⟩
  replace h2:=nrm h2
  have hD:lu (cF q)=false:=by rw[lu,e1,Yr (show ¬at0 (cF q) ((cF q).length-1)=at0 (cF q) ((cF q).length-2)from cm)];all_goals rfl
  refine ao_ 14 (k:=ao_ 16 (k:=ao_ 17 (k:=rn 15 rfl rfl rfl (aa) rfl (λ_ _=>trivial) (qa (λ_=>trivial) (ao_ 18 (k:=ao_ 19 (k:=ao_ 20 (k:=as_ 21 (q:=pkf) (k:=as_ 22 (q:=asn) (k:=az_ (k:=qn_ (wt_ (rt_ results469 (k:=?_))))))))))))))
  exact⟨_,hsb,by rw[hD];all_goals rfl,rfl⟩
 replace h1:=nrm h1
 have e1:decide (2≤(cF q).length)=false:=Yr (a8)
 have hD:lu (cF q)=false:=by rw[lu,e1];all_goals rfl
 refine ao_ 3 (k:=ao_ 4 (k:=ao_ 5 (k:=ao_ 6 (k:=ao_ 7 (k:=ao_ 8 (k:=ao_ 9 (k:=ao_ 10 (k:=ao_ 11 (k:=af_ 12 (q:=cU λH hH=>pkf) (k:=af_ 13 (q:=cU λH hH=>mv) (k:=ao_ 14 (k:=ao_ 16 (k:=ao_ 17 (k:=?_))))))))))))))
 refine rn 15 rfl rfl rfl (aa) rfl (λ_ _=>trivial) (qa (λ_=>trivial) (ao_ 18 (k:=ao_ 19 (k:=ao_ 20 (k:=as_ 21 (q:=pkf) (k:=as_ 22 (q:=asn) (k:=az_ (k:=qn_ (wt_ (rt_ results469 (k:=?_)))))))))))
 exact⟨_,hsb,by rw[hD];all_goals rfl,rfl⟩
theorem E3 (a:q.size≤1000000000):SC G prog 465 [.string q] H (λv e=>v=.bool (gx (cF q))∧e=H):=by
 have hv:=ey (cF q);have hl:=cI q;refine sWk func465 ?_;refine go ?_;refine gk (k:=dz 7 16 (k:=λh1=>gk (k:=gA (vs:=[_,_]) (hc:=(indexByte _)) (k:=gk (k:=edq)))) (q:=gW (λh2=>?_) (λh2=>?_)))
 ·have c:gx (cF q)=false:=by
   rw[gx];rcases h2 with h3|h3
   ·rw[Yr (show ¬3≤(cF q).length from a8)];all_goals rfl
   ·have hx:=(mG (q:=⟨#[119,120,121]⟩) (x:=at0 (cF q) (q.size-1)) (oV _)).1 h3;have:at0 (cF q) ((cF q).length-1)=119∨at0 (cF q) ((cF q).length-1)=120∨at0 (cF q) ((cF q).length-1)=121:=by rw[hl];rw[show cF ⟨#[119,120,121]⟩= [119,120,121]from rfl]at hx;simpa using hx
    rcases this with h|h|h <;> simp[h]
  refine gR ?_;exact⟨_,hsb,by rw[c];all_goals rfl,rfl⟩
 obtain⟨h3,h4⟩:=h2;have d:decide (3≤(cF q).length)=true:=Ys a8;have hx:¬at0 (cF q) (q.size-1)∈cF ⟨#[119,120,121]⟩:=λh=>h4 ((mG (oV _)).2 h);have b:(decide (at0 (cF q) ((cF q).length-1)=119) ||decide (at0 (cF q) ((cF q).length-1)=120) ||decide (at0 (cF q) ((cF q).length-1)=121))=false:=by
  rw[show cF ⟨#[119,120,121]⟩= [119,120,121]from rfl]at hx;rw[hl];simp at hx⊢;omega
 refine go ?_;refine c1_ rfl (rC a) ?_;rintro _ _ ⟨sv,rfl,rfl⟩;refine e_ asn (on_ (qn_ (ws_ (wr_ (e_ mv (e_ mv (e_ isb (e_ ixa (e_ (lel (hy:=il a8)) (e_ jq (e_ mv (cQ 6 31 (k:=λh3=>eg_ mv (eg_ mv (eg_ isb (eg_ ixa (eg_ (lel (hy:=il a8)) (e_ pkt (on_ edq))))))) (q:=e_ mv ?_)))))))))))));refine cQ 7 39 (k:=λh4=>eg_ mv (eg_ mv (eg_ isb (eg_ ixa (eg_ (lel (hy:=il a8)) (gk (k:=edq))))))) (q:=gR ?_);refine⟨_,hsb,?_,rfl⟩;rw[gx,d,b,hl];all_goals rfl
end
section
variable {G:cJ}{H:cG}{q:ByteArray}{rs:List fN}{s:SV}{strs:List ByteArray}
def oz (rs:List fN) (q r:ByteArray) (a:Int):Prop:=match dW rs (cF q)with
 |none=>r=q∧a= -1
 |some R=>∃k,rs[k]? =some R∧a=((2*k:Nat):Int)∧cW (cF q) R.1=true∧cF r=ko (cF q) R.1∧r.size+R.1.length=q.size
theorem pc [hs:Sl H s eS strs] (hr:iH strs rs) (hq:q.size≤1000000000) (hn:rs.length≤1000) (u:∀r∈rs,r.1.length≤1000∧r.2.length≤1000):SC G prog 466 [.string q,s.val] H (λv J=>∃r a,v=.tuple #[.string r,.int .i64 a]∧oz rs q r a∧J=H):=by
 have hl:=cI q;have hsl:=hr.length;refine sWk func466 ?_;refine go ?_;refine gk (k:=wl2_ (Nat×(Option (Nat×fN))) (λy=>y.1≤rs.length∧(rs.take y.1).foldl (lK (cF q)) none=y.2.map Prod.snd∧∀p,y.2=some p→rs[p.1]? =some p.2∧cW (cF q) p.2.1=true) (λy=>[(6,.int .i64 (atI y.2)),(7,iN (2*y.1))]) [(0,_),(1,_)] (λy=>[]) _ (λy=>rs.length-y.1) ((0,none)) (h0:=?_) (k:=?_))
 ·exact⟨Yl _,rfl,λp h=>aU⟩
 rintro⟨n,o⟩ ⟨hnl,l,A⟩
 try dsimp only[Yd,Ye]at*
 refine gW (λh1=>?_) λh1=>?_
 ·obtain⟨R,t⟩:=gE rs n;obtain⟨e,e2,he,j,he2,heb2⟩:=hr.get t;obtain⟨hR1,hR2⟩:=u R (Yj t);have C:=cI e;rw[j]at C;have c:=pI (w:=cF q) t;rw[l]at c;refine wk_ (qn_ (ws_ (wb_ (mf [(36,.bool (lsC (cF q) (o.map Prod.snd) R))] [14,15,16,17,18,19,20,21,22,23,24,25,26,27,28,29,30,31,32,33,34,35,36] ?_ ?_))))
  ·refine cZ cN (as_ 0 (q:=mv) (k:=as_ 1 (q:=mv) (k:=as_ 2 (q:=mv) (k:=as_ 3 (q:=ixa) (k:=as_ 4 (q:=lel) (k:=?_))))));refine cO 5 rfl rfl aa rfl (gi (vs:= [_,_]) rfl (kt a8 a8)) ?_;refine fU 6 rfl rfl aa rfl (df mv) (λh2=>?_) (λh2=>?_)
   ·replace h2:=nrm h2;rw[j]at h2;refine at2 7 (q:=mv) (k:=at2 8 (q:=ilt) (k:=?_));refine yW 9 rfl rfl rfl rfl aa rfl (df mv) (λh3=>?_) (λh3=>?_)
    ·replace h3:=nrm h3;obtain rfl:=BN.1 h3;refine go ?_;refine jne (hs:=.cons cg (.nil))
    replace h3:=nrm h3;obtain⟨p,rfl⟩:∃p,o=some p:=by
     cases o with
     |none=>simp[atI]at h3
     |some p=>exact⟨p,rfl⟩
    obtain⟨b,g⟩:=A p rfl;have z:=(Yk.1 b).1;obtain⟨f,F,B,i,_⟩:=hr.get b;have d:=cI f;rw[i]at d;dsimp only[atI];refine go ?_;refine jne (hs:=.cons cg (.nil))
   replace h2:=nrm h2;refine go ?_;refine gk (k:=jne (hs:=.cons cg (.nil)))
  refine wi_ (k:=λh4=>?_) (m:=λh4=>?_)
  ·rw[lK,h4]at c;refine go ?_;refine lN ((n+1,some (n,R))) ?_
   try dsimp only
   refine⟨a8,c,λp hp=>?_⟩;cases hp;refine⟨t,?_⟩;simp only[lsC,Xu]at h4;exact h4.1
  rw[lK,h4]at c;refine go ?_;refine lN ((n+1,o)) ?_
  exact⟨a8,c,A⟩
 obtain rfl:n=rs.length:=a8;rw[Xq (Xj _)]at l;refine gW (λE=>?_) λE=>?_
 ·obtain rfl:=BN.1 E;refine gR ?_;exact⟨_,hsb,q, -1,rfl,by rw[oz,dW,l];exact⟨rfl,rfl⟩,rfl⟩
 obtain⟨p,rfl⟩:∃p,o=some p:=by
  cases o with
  |none=>simp[atI]at E
  |some p=>exact⟨p,rfl⟩
 obtain⟨b,g⟩:=A p rfl;have z:=(Yk.1 b).1;obtain⟨f,F,B,i,_⟩:=hr.get b;have d:=cI f;rw[i]at d;have hle:=kR g;dsimp only[atI];refine gk (k:=e_ oF ?_);refine gR ?_;refine⟨_,hsb,q.extract 0 (q.size-f.size),_,rfl,?_,rfl⟩;have x:=cI (q.extract 0 (q.size-f.size));rw[fM,Yg]at x;rw[oz,dW,l];exact⟨p.1,b,rfl,g,by rw[fM,ko,hl,d],a8⟩
theorem sA {most:Nat} [hs:Sl H s eS strs] (hr:iH strs rs) (hq:q.size≤100000000) (j:rs.length≤1000) (c:∀r∈rs,r.1.length≤1000∧r.2.length≤1000):SC G prog 467 [.string q,s.val,iN most] H (λv w=>∃r,v=.string r∧cF r=fx rs most (cF q)∧w=H):=by
 have hl:=cI q;have hsl:=hr.length;refine sWk func467 ?_;refine go ?_;refine c2_ rfl (pc hr a8 j c) ?_;rintro _ _ ⟨r,a,rfl,hL,rfl⟩;have hrq:r.size≤q.size:=by
  rw[oz]at hL;cases h:dW rs (cF q)with
  |none=>rw[h]at hL;rw[hL.1];exact Xj _
  |some R=>rw[h]at hL;obtain⟨k,_,_,_,_,g⟩:=hL;omega
 refine gk (k:=dz 5 22 (k:=λh1=>gk (k:=gA (vs:=[_]) (hc:=(xf a8)) (k:=gk (k:=edq)))) (q:=?_));refine gW (λh2=>?_) λh2=>?_
 ·have l:fx rs most (cF q)=cF q:=by
   rw[oz]at hL;rw[fx];cases h:dW rs (cF q)with
   |none=>rfl
   |some R=>
    rw[h]at hL;obtain⟨k,h1,h2,h3,h4,g⟩:=hL;simp only;rw[←h4,Yr a8];all_goals rfl
  refine gR ?_;exact⟨_,hsb,q,rfl,l.symm,rfl⟩
 obtain⟨R,k,h1,rfl,h3,h4,g,h6⟩:∃R k,rs[k]? =some R∧a=((2*k:Nat):Int)∧cW (cF q) R.1=true∧cF r=ko (cF q) R.1∧r.size+R.1.length=q.size∧dW rs (cF q)=some R:=by
  rw[oz]at hL;cases h:dW rs (cF q)with
  |none=>rw[h]at hL;obtain⟨_,e⟩:=hL;omega
  |some R=>rw[h]at hL;obtain⟨k,u,t,p,n,m⟩:=hL;exact⟨R,k,u,t,p,n,m,rfl⟩
 obtain⟨f,i,hf1,hfb,hf2,b⟩:=hr.get h1;have d:=cI i;rw[b]at d;obtain⟨_,hz⟩:=c R (Yj h1);have hkl:=(Yk.1 h1).1;refine wk_ (qn_ (ws_ (wr_ (e_ mv (e_ mv (e_ mv (e_ iad ?_)))))));refine e_ (cV rfl rfl (2*k+1) a8 a8) ?_;refine gk (k:=e_ xC (gR ?_));refine⟨_,hsb,r++i,rfl,?_,rfl⟩;rw[dR,b,h4,fx,h6];simp only;rw[←h4,Ys a8];all_goals rfl
end
section
variable {G:cJ}{H:cG}{a:Int}{q r:ByteArray}{rs:List fN}
theorem mD (h:oz rs q r a) (ha:¬a<0):∃R k,rs[k]? =some R∧a=((2*k:Nat):Int)∧cW (cF q) R.1=true∧cF r=ko (cF q) R.1∧r.size+R.1.length=q.size∧dW rs (cF q)=some R:=by
 rw[oz]at h;cases hl:dW rs (cF q)with
 |none=>rw[hl]at h;obtain⟨_,e⟩:=h;omega
 |some R=>rw[hl]at h;obtain⟨k,g,f,d,c,b⟩:=h;exact⟨R,k,g,f,d,c,b,rfl⟩
theorem mE (h:oz rs q r a) (ha:a<0):r=q∧dW rs (cF q)=none:=by
 rw[oz]at h;cases hl:dW rs (cF q)with
 |none=>rw[hl]at h;exact⟨h.1,rfl⟩
 |some R=>rw[hl]at h;obtain⟨k,g1,g2,_⟩:=h;omega
theorem NS:iH ((ik gT).map dQ) gT:=nA ao
theorem NR:iH ((ik jj).map dQ) jj:=nA ao
theorem PO:iH ((ik ic).map dQ) ic:=nA ao
theorem PN:iH ((ik iL).map dQ) iL:=nA ao
theorem Lu:iH ((ik eM).map dQ) eM:=nA ao
theorem qq {l:List Nat}{k:Nat}(h:cF r=l) (hl:l.length≤(cF q).length+k):r.size≤q.size+k:=by
 rw[←cI r,←cI q,h];exact hl
theorem HE (hq:q.size≤10000000):SC G prog 461 [.string q] H (λv f=>∃r,v=.string r∧cF r=gH (cF q)∧f=H):=by
 refine sWk func461 ?_;refine go ?_;refine s_ (dt eS ((ik gT).map dQ) bA rfl ao) ?_;rintro _ _ ⟨s7,rfl,rfl⟩;refine c2_ rfl (pc NS a8 ae ae) ?_;rintro _ _ ⟨r,a,rfl,hL,rfl⟩;refine go ?_;refine wi_ (k:=λh1=>?_) (m:=λh1=>?_)
 ·obtain⟨rfl,hN⟩:=mE hL h1;refine gR ?_;exact⟨_,hsb,r,rfl,by rw[gH,hN],rfl⟩
 obtain⟨R,k,b,rfl,g3,e,g5,d⟩:=mD hL h1;have hk:=(Yk.1 b).1;have hk4:k<4:=hk;have c:(gT.map λr=>dQ r.2)[k]? =some (dQ R.2):=by rw[Xd,b];all_goals rfl
 have hR:R.2.length≤10:=(show ∀r∈gT,r.2.length≤10 from ae) R (Yj b);have hz:=gG R.2;refine go ?_;refine s_ (dt eS (gT.map λr=>dQ r.2) bA rfl ao) ?_;rintro _ _ ⟨s15,rfl,rfl⟩;refine e_ mv ?_;refine e_ (fH rfl rfl (2*k) 2 rfl rfl ae an) ?_;rw[show 2*k/2=k from a8];refine e_ (cV rfl rfl k rfl (by rw[Yh];exact hk)) ?_;refine e_ (dS rfl bA bA _ c) ?_;refine e_ xC (gR ?_);refine⟨_,hsb,r++dQ R.2,rfl,?_,rfl⟩;rw[dR,e,gH,d,ec];exact(show ∀r∈gT,∀x∈r.2,x<256 from ae) R (Yj b)
theorem Kw (hq:q.size≤10000000):SC G prog 458 [.string q] H (λv a=>∃r,v=.string r∧cF r=fx ic 0 (cF q)∧a=H):=by
 refine sWk func458 ?_;refine go ?_;refine s_ (dt eS ((ik ic).map dQ) bA rfl ao) ?_;rintro _ _ ⟨s4,rfl,rfl⟩;refine c3_ rfl (sA (most:=0) PO a8 ae ae) ?_;rintro _ _ ⟨r,rfl,hr,rfl⟩;refine gR ?_;exact⟨_,hsb,r,rfl,hr,rfl⟩
theorem Kv (hq:q.size≤10000000):SC G prog 457 [.string q] H (λv a=>∃r,v=.string r∧cF r=fx iL 0 (cF q)∧a=H):=by
 refine sWk func457 ?_;refine go ?_;refine s_ (dt eS ((ik iL).map dQ) bA rfl ao) ?_;rintro _ _ ⟨s4,rfl,rfl⟩;refine c3_ rfl (sA (most:=0) PN a8 ae ae) ?_;rintro _ _ ⟨r,rfl,hr,rfl⟩;refine gR ?_;exact⟨_,hsb,r,rfl,hr,rfl⟩
theorem Ku (hq:q.size≤10000000):SC G prog 456 [.string q] H (λv s=>∃r,v=.string r∧cF r=kA (cF q)∧s=H):=by
 refine sWk func456 ?_;refine ws_ (wr_ (e_ asn (on_ (qn_ (ws_ (wr_ ?_))))));refine s_ (dt eS ((ik eM).map dQ) bA rfl ao) ?_;rintro _ _ ⟨s6,rfl,rfl⟩;refine e_ asn (on_ (qn_ (ws_ (wr_ (e_ mv (e_ mv ?_))))));refine c2_ rfl (pc Lu a8 ae ae) ?_;rintro _ _ ⟨r,a,rfl,hL,rfl⟩;have hrq:r.size≤q.size:=by
  by_cases h:a<0
  ·rw[(mE hL h).1];exact Xj _
  ·obtain⟨R,k,_,_,_,_,p,_⟩:=mD hL h;omega
 refine e_ mv (e_ exr (e_ exr (e_ asn (e_ asn (on_ (qn_ (ws_ (ws_ (wr_ (e_ mv (e_ ige ?_)))))))))));obtain⟨c,e,d⟩:∃c:ByteArray,(0≤a→((ik eM).map dQ)[a.toNat]? =some c∧a.toNat<((ik eM).map dQ).length)∧(0≤a→∃R,dW eM (cF q)=some R∧cF c=R.1∧cF r=ko (cF q) R.1):=by
  by_cases h:a<0
  ·exact⟨q,λh1=>a8,λh1=>a8⟩
  ·obtain⟨R,k,h1,rfl,h3,h4,p,h6⟩:=mD hL h;obtain⟨c,_,b,f,_⟩:=Lu.get h1;rw[Uv];exact⟨c,λ_=>⟨b,(Yk.1 b).1⟩,λ_=>⟨R,h6,f,h4⟩⟩
 refine e_ mv (cQ 6 21 (k:=λh1=>eg_ mv (eg_ mv (eg_ (ixa (i:=a.toNat) (hj:=by omega) (hlt:=(e a8).2)) (eg_ (lel (hy:=(e a8).1)) (eg_ np (e_ pkt (on_ edq))))))) (q:=e_ mv (cQ 4 26 (k:=λh2=>eg_ mv (gA (vs:=[_,_]) (hc:=(kt a8 ae)) (k:=eg_ jq (e_ pkt (on_ edq))))) (q:=e_ mv (cQ 4 31 (k:=λh3=>eg_ mv (gA (vs:=[_,_]) (hc:=(kt a8 ae)) (k:=eg_ jq (e_ pkt (on_ edq))))) (q:=on_ (qn_ (wi_ (k:=λh4=>?_) (m:=λh4=>?_)))))))))
 ·have j:kA (cF q)=cF q:=by
   obtain⟨⟨⟨h0,h1⟩,h2⟩,h3⟩:=h4;obtain⟨R,b,f,l⟩:=d h0;rw[kA,b];simp only;rw[←l,←f,h1];rw[show cF ⟨#[115]⟩= [115]from rfl]at h2;rw[show cF ⟨#[116]⟩= [116]from rfl]at h3;rw[h2,h3];all_goals rfl
  refine ws_ (wr_ (e_ mv (e_ asn (on_ (qn_ (wt_ (qr_ (rT (k:=?_)))))))));exact⟨_,hsb,q,rfl,j.symm,rfl⟩
 have j:kA (cF q)=fx eM 1 (cF q):=by
  by_cases ha:a<0
  ·rw[kA,fx,(mE hL ha).2]
  ·obtain⟨R,b,f,l⟩:=d a8;rw[kA,b];simp only;rw[←l,←f];have:(decide (cF c= [105,111,110])&&!cW (cF r) [115]&&!cW (cF r) [116])=false:=by
    rw[show cF ⟨#[115]⟩= [115]from rfl,show cF ⟨#[116]⟩= [116]from rfl,show cF ⟨#[105,111,110]⟩= [105,111,110]from rfl]at h4;rcases h4 with((h1|h1)|h1)|h1
    ·omega
    ·rw[Yr h1];all_goals rfl
    ·rw[h1];simp
    ·rw[h1];simp
   rw[this];all_goals rfl
 refine wk_ (qn_ (ws_ (wr_ (e_ mv (e_ mv ?_)))));refine c3_ rfl (sA (most:=1) Lu a8 ae ae) ?_;rintro _ _ ⟨n,rfl,g,rfl⟩;refine e_ asn (on_ (qn_ (wt_ (rT (k:=?_)))));exact⟨_,hsb,n,rfl,by rw[g,j],rfl⟩
end
section
variable {G:cJ}{H:cG}{q:ByteArray}
theorem oS {e:ByteArray}(h:cW (cF q) (cF e)=true):cF (j9 q e)=(cF q).take (q.size-e.size)∧(j9 q e).size≤q.size:=by
 rw[j9,h];refine⟨fM q _,?_⟩;have:=cI (q.extract 0 (q.size-e.size));rw[fM,Yg,cI]at this;simp only[cond_true];omega
theorem vw (q e:ByteArray):(j9 q e).size≤q.size:=by
 cases h:cW (cF q) (cF e)with
 |true=>exact(oS h).2
 |false=>rw[j9,h];exact Xj _
theorem HC (hq:q.size≤10000000):SC G prog 459 [.string q] H (λv d=>∃r,v=.string r∧cF r=iY (cF q)∧d=H):=by
 have hle:=vw q ⟨#[121]⟩;have a:cW (cF q) [121]=true→cF (j9 q ⟨#[121]⟩)=dp (cF q):=λh=>by
  rw[(oS (e:=⟨#[121]⟩) h).1,dp,cI];all_goals rfl
 refine sWk func459 ?_;refine go ?_;refine d2_ rfl (vu a8 ae) (gk (k:=cQ 3 14 (k:=λh1=>gk (k:=gA (vs:=[_]) (hc:=(JN a8)) (k:=gk (k:=edq)))) (q:=go ?_)));refine gW (λh2=>?_) λh2=>?_
 ·obtain⟨b,g2⟩:=h2;have c:=a b;rw[c]at g2;refine ws_ (wr_ (e_ mv ?_));refine e_ (gU rfl rfl (by show(j9 q ⟨#[121]⟩).size+1≤_;omega)) ?_;refine gR ?_;refine⟨_,hsb,j9 q ⟨#[121]⟩++⟨#[105]⟩,rfl,?_,rfl⟩;rw[dR,c,iY,show cW (cF q) [121]=true from b,g2];all_goals rfl
 have h1:=h2;refine gR ?_;refine⟨_,hsb,q,rfl,?_,rfl⟩;rw[iY];have:(cW (cF q) [121]&&oO (dp (cF q)))=false:=by
  cases b:cW (cF q) [121]with
  |false=>rfl
  |true=>
   rcases h1 with g2|g2
   ·rw[show cW (cF q) (cF ⟨#[121]⟩)=true from b]at g2;cases g2
   ·rw[a b]at g2;rw[g2];all_goals rfl
 rw[this];all_goals rfl
theorem Kt (hq:q.size≤10000000):SC G prog 455 [.string q] H (λv j=>∃r,v=.string r∧cF r=nh (cF q)∧j=H):=by
 have c:=vw q ⟨#[101]⟩;have b:cW (cF q) [101]=true→cF (j9 q ⟨#[101]⟩)=dp (cF q):=λh=>by
  rw[(oS (e:=⟨#[101]⟩) h).1,dp,cI];all_goals rfl
 obtain⟨u,a⟩:∃u:ByteArray,u=bif cW (cF q) [101]&&(decide (1<gj (dp (cF q))) ||decide (gj (dp (cF q))=1)&&!gx (dp (cF q)))then j9 q ⟨#[101]⟩else q:=⟨_,rfl⟩;have hub:cF u=gS (cF q):=by
  rw[a,gS];cases h:(cW (cF q) [101]&&(decide (1<gj (dp (cF q))) ||decide (gj (dp (cF q))=1)&&!gx (dp (cF q))))with
  |false=>rfl
  |true=>rw[Xu]at h;exact b h.1
 have hul:u.size≤q.size:=by
  rw[a];cases(cW (cF q) [101]&&(decide (1<gj (dp (cF q))) ||decide (gj (dp (cF q))=1)&&!gx (dp (cF q))))with
  |false=>exact Xj _
  |true=>exact c
 refine sWk func455 ?_;refine ws_ (wr_ (e_ asn (on_ (qn_ (mf [(0,.string u)] [0,3,4,5,6,7,8,9,10,11,12,13,14,15,16,17,18,19,20,21,22,23,24,25] ?_ ?_)))))
 ·refine go ?_;refine d2_ rfl (vu a8 ae) (gW (λh1=>?_) (λh1=>?_))
  ·have d:=b h1;have f:cW (cF q) [101]=true:=h1;rw[f,Vt]at a;refine go ?_;refine d1_ rfl (xf a8) ?_;rw[d];refine gk (k:=dz 8 24 (k:=λh2=>gk (k:=cQ 4 23 (k:=λh3=>gk (k:=gA (vs:=[_]) (hc:=(E3 a8)) (k:=gk (k:=edq)))) (q:=gk (k:=edq)))) (q:=gW (λh4=>?_) (λh4=>?_)))
   ·rw[d]at h4;rw[show(decide (1<gj (dp (cF q))) ||decide (gj (dp (cF q))=1)&&!gx (dp (cF q)))=true by
     rcases h4 with h|⟨h,h'⟩
     ·rw[Ys a8];all_goals rfl
     ·rw[Ys (show gj (dp (cF q))=1 from a8),h'];simp]at a
    obtain rfl:u=j9 q ⟨#[101]⟩:=a;refine gk (k:=jne)
   rw[d]at h4;rw[show(decide (1<gj (dp (cF q))) ||decide (gj (dp (cF q))=1)&&!gx (dp (cF q)))=false by
    obtain⟨h,h'⟩:=h4;rw[Yr a8];rcases h' with h'|h'
    ·rw[Yr a8];all_goals rfl
    ·rw[h'];simp]at a
   obtain rfl:u=q:=a;refine gk (k:=jne)
  have f:cW (cF q) [101]=false:=h1;rw[f,Bool.false_and]at a;obtain rfl:u=q:=a;refine gk (k:=jne)
 refine go ?_;refine d2_ rfl (kt a8 ae) (gk (k:=cQ 4 32 (k:=λh5=>gk (k:=gA (vs:=[_]) (hc:=(xf a8)) (k:=gk (k:=edq)))) (q:=gW (λh6=>?_) (λh6=>?_))))
 ·obtain⟨g,k2⟩:=h6;have i:=kR g;simp only[cI]at i;have k4:(⟨#[108,108]⟩:ByteArray).size=2:=rfl;refine gk (k:=e_ oF (go ?_));refine gR ?_;refine⟨_,hsb,u.extract 0 (u.size-1),rfl,?_,rfl⟩;rw[iy,nh,←hub,show cW (cF u) [108,108]=true from g,Ys a8];all_goals rfl
 have hN:(cW (gS (cF q)) [108,108]&&decide (1<gj (gS (cF q))))=false:=by
  rw[←hub];rcases h6 with k|k
  ·rw[show cW (cF u) [108,108]=false from k];all_goals rfl
  ·rw[Yr a8];simp
 refine gR ?_;exact⟨_,hsb,u,rfl,by rw[nh,hN,hub];all_goals rfl,rfl⟩
theorem HD (hq:q.size≤10000000):SC G prog 460 [.string q] H (λv L=>∃r,v=.string r∧cF r=gw (cF q)∧L=H):=by
 refine sWk func460 ?_;refine ws_ (wr_ (e_ asn (on_ (qn_ (ws_ (wr_ (e_ mv ?_)))))));refine s_ (dt eS ((ik jj).map dQ) bA rfl ao) ?_;rintro _ _ ⟨s9,rfl,rfl⟩;refine c2_ rfl (pc NR a8 ae ae) ?_;rintro _ _ ⟨r,a,rfl,hL,rfl⟩;refine e_ mv (e_ exr (e_ exr (e_ asn (e_ asn (on_ (qn_ (ws_ (wb_ (ws_ (wr_ (e_ mv (e_ ilt (e_ asn ?_)))))))))))));refine on_ (qn_ (wi_ (k:=λh1=>?_) (m:=λh1=>?_)))
 ·obtain⟨rfl,hN⟩:=mE hL h1;refine ws_ (wr_ (e_ mv (e_ asn (on_ (qn_ (wt_ (br_ (qr_ (rT (k:=?_))))))))));exact⟨_,hsb,r,rfl,by rw[gw,hN],rfl⟩
 obtain⟨R,k,z,rfl,g3,J,g5,F⟩:=mD hL h1;have hk:k<3:=(Yk.1 z).1;have l:gw (cF q)=bif decide (R.1= [101,101,100])then(bif decide (0<gj (cF r))then cF r++R.2 else cF q)else bif oO (cF r)then kf (cF r)else cF q:=by rw[gw,F,J]
 refine ws_ (wr_ (e_ mv (e_ ieq (e_ asn (on_ (qn_ (wi_ (k:=λh2=>?_) (m:=λh2=>?_))))))))
 ·obtain rfl:k=0:=by omega
  cases z;have hS':gw (cF q)=bif decide (0<gj (cF r))then cF r++ [101,101]else cF q:=l;have hrq:r.size≤q.size:=a8;refine ws_ (ws_ (wr_ (e_ mv ?_)));refine d1_ rfl (xf a8) (e_ igt (on_ (qn_ (wi_ (k:=λh3=>?_) (m:=λh3=>?_)))))
  ·have hm:=h3;refine ws_ (wr_ (e_ mv ?_));refine e_ (gU rfl rfl (by show r.size+2≤_;omega)) ?_;refine e_ asn (on_ (qn_ (wt_ (qr_ (br_ (qr_ (rT (k:=?_))))))));exact⟨_,hsb,r++⟨#[101,101]⟩,rfl,by rw[hS',dR,Ys a8];all_goals rfl,rfl⟩
  have hm:=h3;refine wk_ (qn_ (ws_ (wr_ (e_ mv (e_ asn (on_ (qn_ (wt_ (br_ (qr_ (rT (k:=?_))))))))))));exact⟨_,hsb,q,rfl,by rw[hS',Yr (show ¬0<gj (cF r)from a8)];all_goals rfl,rfl⟩
 have s:¬R.1= [101,101,100]:=by
  rcases(show k=1∨k=2 from a8)with rfl|rfl <;> cases z <;> decide
 rw[Yr s]at l;refine ws_ (wr_ (e_ mv ?_));refine d1_ rfl (JN a8) (e_ jq (e_ asn (on_ (qn_ (wi_ (k:=λh4=>?_) (m:=λh4=>?_))))))
 ·have hv:=h4;refine ws_ (wr_ (e_ mv (e_ asn (on_ (qn_ (wt_ (br_ (qr_ (rT (k:=?_))))))))));exact⟨_,hsb,q,rfl,by rw[l,hv];all_goals rfl,rfl⟩
 have n:gw (cF q)=kf (cF r):=by rw[l,h4];all_goals rfl
 refine wk_ (bn_ (qn_ (ws_ (ws_ (wr_ ?_)))));refine s_ (dt eS [⟨#[97,116]⟩,⟨#[98,108]⟩,⟨#[105,122]⟩] bA rfl ao) ?_;rintro _ _ ⟨s31,rfl,rfl⟩;refine e_ lnn (e_ mv (on_ (qn_ (wb_ (wl2_ Nat (λy=>y≤3∧∀j e,j<y→([⟨#[97,116]⟩,⟨#[98,108]⟩,⟨#[105,122]⟩]:List ByteArray)[j]? =some e→cW (cF r) (cF e)=false) (λy=>[(33,iN y)]) [(3,_),(31,_),(32,_)] (λy=>[]) _ (λy=>3-y) (0) (h0:=?_) (k:=?_))))))
 ·exact⟨Yl _,λj e hj=>absurd hj (Up _)⟩
 rintro i ⟨hi,b⟩
 try dsimp only[Yd,Ye]at*
 refine ws_ (wr_ (e_ ilt (on_ (qn_ (ws_ (wi_ (k:=λx=>?_) (m:=λx=>?_)))))))
 ·have u:i<3:=by have:=x;simp at this;omega
  obtain⟨e,he,hes⟩:∃e,([⟨#[97,116]⟩,⟨#[98,108]⟩,⟨#[105,122]⟩]:List ByteArray)[i]? =some e∧e.size=2:=by
   rcases(show i=0∨i=1∨i=2 from a8)with rfl|rfl|rfl <;> exact⟨_,rfl,rfl⟩
  refine wk_ (qn_ (ws_ (wb_ (ws_ (wr_ (e_ ixa (e_ lel (e_ asn (on_ (qn_ (ws_ (wr_ (e_ mv ?_)))))))))))));refine e_ mv ?_;refine d2_ rfl (kt a8 a8) (on_ (qn_ (wi_ (k:=λh6=>?_) (m:=λh6=>?_))))
  ·have E:kf (cF r)=cF r++ [101]:=by
    have:(cW (cF r) [97,116] ||cW (cF r) [98,108] ||cW (cF r) [105,122])=true:=by
     have u:i<3:=(Yk.1 he).1;rcases(show i=0∨i=1∨i=2 from a8)with rfl|rfl|rfl <;> cases he
     ·rw[show cW (cF r) [97,116]=true from h6];all_goals rfl
     ·rw[show cW (cF r) [98,108]=true from h6];simp
     ·rw[show cW (cF r) [105,122]=true from h6];simp
    rw[kf,this];all_goals rfl
   refine ws_ (wr_ (e_ mv ?_));refine e_ (gU rfl rfl (by show r.size+1≤_;omega)) ?_;refine e_ asn (on_ (qn_ (wt_ (br_ (qr_ (lr_ (br_ (qr_ (rT (k:=?_))))))))));exact⟨_,hsb,r++⟨#[101]⟩,rfl,by rw[n,E,dR];all_goals rfl,rfl⟩
  have p:=h6;refine wk_ (bn_ (qn_ (wr_ (e_ iad (e_ mv (on_ ?_))))));refine lN (i+1) ?_
  try dsimp only
  refine⟨by have:=(Yk.1 he).1;simp at this;omega,λj K hj c=>?_⟩
  by_cases e:j=i
  ·subst e;rw[he]at c;cases c;exact p
  ·exact b j K a8 c
 obtain rfl:i=3:=by simp at x;omega
 have hx:(cW (cF r) [97,116] ||cW (cF r) [98,108] ||cW (cF r) [105,122])=false:=by
  rw[show cW (cF r) [97,116]=false from b 0 _ a8 rfl,show cW (cF r) [98,108]=false from b 1 _ a8 rfl,show cW (cF r) [105,122]=false from b 2 _ a8 rfl];all_goals rfl
 have g:=cI r;refine we_ (qe_ (le_ (bh_ (qn_ (ws_ (ws_ (wr_ (e_ mv ?_))))))));refine d1_ rfl (HS a8) (e_ mv (cQ 8 53 (k:=λh7=>eg_ mv (eg_ mv (eg_ oe (eg_ isb (eg_ (ixs (hj:=xN (by have:=pV ‹lu (cF r)=true›;omega)) (hlt:=by have:=pV ‹lu (cF r)=true›;omega)) (gA (vs:=[_,_]) (hc:=(indexByte _)) (k:=eg_ ilt (e_ pkt (on_ edq))))))))) (q:=on_ (qn_ (wi_ (k:=λw=>?_) (m:=λw=>?_))))))
 ·obtain⟨B,d2⟩:=w;have d3:=pV B;refine ws_ (wr_ (e_ mv (e_ mv (e_ oe (e_ isb (e_ oF (e_ asn (on_ (qn_ (wt_ (qr_ (rT (k:=?_)))))))))))));refine⟨_,hsb,r.extract 0 (r.size-1),rfl,?_,rfl⟩;have t:¬at0 (cF r) (r.size-1)∈cF ⟨#[108,115,122]⟩:=λh=>by have:=(mG (oV _)).2 h;omega
  rw[show cF ⟨#[108,115,122]⟩= [108,115,122]from rfl]at t;rw[n,kf,hx,B,g,iy];simp at t;simp[t]
 have A:(lu (cF r)&&!(decide (at0 (cF r) ((cF r).length-1)=108) ||decide (at0 (cF r) ((cF r).length-1)=115) ||decide (at0 (cF r) ((cF r).length-1)=122)))=false:=by
  rcases w with d|d
  ·rw[d];all_goals rfl
  ·have hm:=(mG (q:=⟨#[108,115,122]⟩) (oV (q:=r) (r.size-1))).1 a8;rw[show cF ⟨#[108,115,122]⟩= [108,115,122]from rfl]at hm;rw[g];simp at hm;rcases hm with h|h|h <;> simp[h]
 refine wk_ (qn_ (ws_ (ws_ (wr_ (e_ mv ?_)))));refine d1_ rfl (xf a8) (e_ ieq (e_ mv (cQ 3 65 (k:=λh9=>eg_ mv (gA (vs:=[_]) (hc:=(E3 a8)) (k:=e_ pkt (on_ edq)))) (q:=on_ (qn_ (wi_ (k:=λf=>?_) (m:=λf=>?_)))))))
 ·obtain⟨m1,C⟩:=f;refine ws_ (wr_ (e_ mv ?_));refine e_ (gU rfl rfl (by show r.size+1≤_;omega)) ?_;refine e_ asn (on_ (qn_ (wt_ (qr_ (rT (k:=?_))))));exact⟨_,hsb,r++⟨#[101]⟩,rfl,by rw[n,kf,hx,A,Ys (show gj (cF r)=1 from a8),C,dR];all_goals rfl,rfl⟩
 have hm:(decide (gj (cF r)=1)&&gx (cF r))=false:=by
  rcases f with d|d
  ·rw[Yr a8];all_goals rfl
  ·rw[d];simp
 refine wk_ (qn_ (ws_ (wr_ (e_ mv (e_ asn (on_ (qn_ (wt_ (rT (k:=?_))))))))));exact⟨_,hsb,r,rfl,by rw[n,kf,hx,A,hm];all_goals rfl,rfl⟩
end
theorem MV {G:cJ}{H:cG}{q:ByteArray}(hq:q.size≤5000000):SC G prog 453 [.string q] H (λv A=>∃r,v=.string r∧cF r=iq (cF q)∧A=H):=by
 have hl:=cI q;obtain⟨u,b⟩:∃u:ByteArray,u=bif decide (2<q.size)&&cW (cF q) [39,115]then q.extract 0 (q.size-2)else q:=⟨_,rfl⟩;have hub:cF u=jU (cF q):=by
  rw[b,jU,hl];cases(decide (2<q.size)&&cW (cF q) [39,115])with
  |false=>rfl
  |true=>exact fM q _
 have hul:=cI u;have huq:u.size≤q.size:=by
  rw[b];cases(decide (2<q.size)&&cW (cF q) [39,115])with
  |false=>exact Xj _
  |true=>
   have:=cI (q.extract 0 (q.size-2));rw[fM,Yg,hl]at this;simp only[cond_true];omega
 refine sWk func453 ?_;refine ws_ (wr_ (e_ asn (on_ (qn_ (ws_ (wr_ (e_ mv (e_ asn (on_ (qn_ (mf [(3,.string u)] [3,6,7,8,9,10,11,12,13,14,15,16,17] ?_ ?_)))))))))))
 ·refine gk (k:=cQ 3 12 (k:=λh1=>gk (k:=gA (vs:=[_,_]) (hc:=(kt a8 ae)) (k:=gk (k:=edq)))) (q:=gW (λh2=>?_) (λh2=>?_)))
  ·obtain⟨c1,z⟩:=h2;rw[Ys (show 2<q.size from a8),show cW (cF q) [39,115]=true from z]at b;obtain rfl:u=q.extract 0 (q.size-2):=b;refine gk (k:=e_ oF (gk (k:=jne)))
  have hc:(decide (2<q.size)&&cW (cF q) [39,115])=false:=by
   rcases h2 with c|c
   ·rw[Yr a8];all_goals rfl
   ·rw[show cW (cF q) [39,115]=false from c];simp
  rw[hc]at b;obtain rfl:u=q:=b;refine gk (k:=jne)
 refine gW (λh3=>?_) λh3=>?_
 ·have s:iq (cF q)=cF u:=by rw[iq,←hub,qY,Ys a8];all_goals rfl
  refine gR ?_;exact⟨_,hsb,u,rfl,s.symm,rfl⟩
 refine gk (k:=wl2_ Nat (λy=>y≤u.size∧∀j,j<y→ny (at0 (cF u) j)=true) (λy=>[(4,iN y)]) [(3,_)] (λy=>[]) _ (λy=>u.size-y) (0) (h0:=?_) (k:=?_))
 ·exact⟨Yl _,λj hj=>absurd hj (Up _)⟩
 rintro i ⟨hi,a⟩
 try dsimp only[Yd,Ye]at*
 refine gW (λh4=>?_) λh4=>?_
 ·refine gk (k:=dz 5 37 (k:=λh5=>gk (k:=edq)) (q:=go ?_));refine wi_ (k:=λh6=>?_) (m:=λh6=>?_)
  ·have w:ny (at0 (cF u) i)=false:=by simp only[ny,Vo,Xx];omega
   have s:iq (cF q)=cF u:=by rw[iq,←hub,qY,BO a8 w];simp
   refine gR ?_;exact⟨_,hsb,u,rfl,s.symm,rfl⟩
  have hy:ny (at0 (cF u) i)=true:=by simp only[ny,Xu,Xs];omega
  refine go ?_;refine lN (i+1) ?_
  try dsimp only
  refine⟨a8,λj hj=>?_⟩
  by_cases e:j=i
  ·subst e;exact hy
  ·exact a j a8
 have hA:=all_take a a8;have s:iq (cF q)=nh (kA (fx iL 0 (fx ic 0 (iY (gw (gH (cF u))))))):=cc;refine go ?_;refine c1_ rfl (HE a8) ?_;rintro _ _ ⟨r1,rfl,p,rfl⟩;have z1:=qq p (mo _);refine c1_ rfl (HD a8) ?_;rintro _ _ ⟨r2,rfl,n,rfl⟩;have z2:=qq n (mn _);refine c1_ rfl (HC a8) ?_;rintro _ _ ⟨r3,rfl,l,rfl⟩;have z3:=qq l (oE _);refine c1_ rfl (Kw a8) ?_;rintro _ _ ⟨r4,rfl,h,rfl⟩;have z4:=qq h (iB (k:=10) ae _);refine c1_ rfl (Kv a8) ?_;rintro _ _ ⟨r5,rfl,g,rfl⟩;have z5:=qq g (iB (k:=10) ae _);refine c1_ rfl (Ku a8) ?_;rintro _ _ ⟨r6,rfl,f,rfl⟩;have z6:=qq f (qo _);refine c1_ rfl (Kt a8) ?_;rintro _ _ ⟨t,rfl,d,rfl⟩;have x:cF t=iq (cF q):=by
  rw[f,g,h,l,n,p]at d;exact d.trans s.symm
 refine gR ?_;exact⟨_,hsb,t,rfl,x,rfl⟩
section
variable {G:cJ}{H:cG}{l:List ByteArray}{q:ByteArray}{s:SV}
theorem Lr [hs:Sl H s eS l] (hn:l.length≤1000000):SC G prog 451 [s.val,.string q] H (λv g=>∃k:Int,v=.int .i64 k∧(0≤k↔cF q∈l.map cF)∧g=H):=by
 refine sWk func451 ?_;refine go ?_;refine wl2_ Nat (λy=>y≤l.length∧∀j e,j<y→l[j]? =some e→¬cF q=cF e) (λy=>[(8,iN y)]) [(0,_),(1,_),(7,_)] (λy=>[]) _ (λy=>l.length-y) (0) (h0:=?_) (k:=?_)
 ·exact⟨Yl _,λj e hj=>absurd hj (Up _)⟩
 rintro i ⟨hi,a⟩
 try dsimp only[Yd,Ye]at*
 refine gW (λh1=>?_) λh1=>?_
 ·obtain⟨e,he⟩:=gE l i;refine wk_ (qn_ (ws_ (wb_ (ws_ (wr_ (e_ mv (e_ asn (on_ (qn_ (ws_ (wr_ (e_ mv (e_ mv ?_)))))))))))));refine gk (k:=e_ np (on_ (qn_ (wi_ (k:=λh2=>?_) (m:=λh2=>?_)))))
  ·have hm:cF q∈l.map cF:=by rw[h2];exact Ux (Yj he)
   refine gR ?_;exact⟨_,hsb,_,rfl,⟨λ_=>hm,λ_=>a8⟩,rfl⟩
  have c:=h2;refine go ?_;refine lN (i+1) ?_
  try dsimp only
  refine⟨a8,λj f hj b=>?_⟩
  by_cases e0:j=i
  ·subst e0;rw[he]at b;cases b;exact c
  ·exact a j f a8 b
 refine gR ?_;refine⟨_,hsb,_,rfl,⟨λh=>by(exfalso;revert h;decide),λh=>?_⟩,rfl⟩;obtain⟨e,he,d⟩:=Xw.1 h;obtain⟨j,hj⟩:=Vy.1 he;have hjl:=(Yk.1 hj).1;exact absurd d.symm (a j e a8 hj)
theorem Cp [hs:Sl H s eS l] (a:l.length≤1000000):SC G prog 450 [s.val,.string q] H (λv b=>v=.bool (decide (cF q∈l.map cF))∧b=H):=by
 refine sWk func450 ?_;refine go ?_;refine c2_ rfl (Lr a) ?_;rintro _ _ ⟨k,rfl,hk,rfl⟩;refine gR ?_;exact⟨_,hsb,vb (by simp only[Xs];exact hk),rfl⟩
def gQ:List ByteArray:=i9.map dQ
theorem l6:gQ.map cF=i9:=ao
theorem Lw:SC G prog 252 [] H (λv b=>∃s:SV,v=s.val∧b=Row s eS gQ::H):=by
 refine sWk func252 ?_;refine go ?_;refine s_ (dt eS gQ bA rfl ao) ?_;rintro _ _ ⟨a,rfl,rfl⟩;refine gR ?_;exact⟨_,hsb,a,rfl,rfl⟩
theorem Is:SC G prog 176 [.string q] H (λv g=>v=.bool (decide (cF q∈i9))∧g=H):=by
 have hz:gQ.length=42:=rfl;refine sWk func176 ?_;refine go ?_;refine c0_ rfl Lw ?_;rintro _ _ ⟨s5,rfl,rfl⟩;refine gk (k:=wl2_ Nat (λy=>y≤gQ.length∧∀j e,j<y→gQ[j]? =some e→¬cF e=cF q) (λy=>[(7,iN y)]) [(0,_),(5,_),(6,_)] (λy=>[]) _ (λy=>gQ.length-y) (0) (h0:=?_) (k:=?_))
 ·exact⟨Yl _,λj e hj=>absurd hj (Up _)⟩
 rintro i ⟨hi,a⟩
 try dsimp only[Yd,Ye]at*
 refine gW (λh1=>?_) λh1=>?_
 ·obtain⟨e,he⟩:=gE gQ i;refine wk_ (qn_ (ws_ (wb_ (ws_ (wr_ (e_ ixa (e_ lel (e_ asn (on_ (qn_ (ws_ (wr_ (e_ mv ?_)))))))))))));refine gk (k:=e_ np (on_ (qn_ (wi_ (k:=λh2=>?_) (m:=λh2=>?_)))))
  ·have hm:cF q∈i9:=by rw[←h2,←l6];exact Ux (Yj he)
   refine gR ?_;exact⟨_,hsb,by rw[Ys hm];all_goals rfl,rfl⟩
  have c:=h2;refine go ?_;refine lN (i+1) ?_
  try dsimp only
  refine⟨a8,λj f hj b=>?_⟩
  by_cases e0:j=i
  ·subst e0;rw[he]at b;cases b;exact c
  ·exact a j f a8 b
 have hm:¬cF q∈i9:=λh=>by
  rw[←l6]at h;obtain⟨e,he,d⟩:=Xw.1 h;obtain⟨j,hj⟩:=Vy.1 he;have hjl:=(Yk.1 hj).1;exact a j e a8 hj d
 refine gR ?_;exact⟨_,hsb,by rw[Yr hm];all_goals rfl,rfl⟩
end
section
variable {G:cJ}{P:Program}{t:Tm}{H:cG}{dst:Option Tmp}{ty:TypeId}{pos:String}{after:Array Edge}{g:Option (Nat×Bool)}
theorem J1 {T U:TypeId}{x y:Operand}{i j:Int}(hx:evo t x=some (.int .i64 i)) (hy:evo t y=some (.int .i64 j)) (hp:0<j) (hl: -9223372036854775808≤i∧i≤9223372036854775807):
 Ev G P ⟨dst,.binOp .quo T x y U,ty,pos,after,g⟩ t H (.int .i64 (i.tdiv j)):=
 fun ρ hρ w _=>by
  have h0:¬(j=0):=a8;have e:IntKind.wrap .i64 (i.tdiv j)=i.tdiv j:=by
   refine ie ?_;have h1:(i.tdiv j).natAbs≤i.natAbs:=by rw[Int.natAbs_tdiv];exact Vs _ _
   by_cases hi:0≤i
   ·have h2:=Int.tdiv_nonneg hi (show 0≤j from a8);omega
   ·have h2:0≤(-i).tdiv j:=Int.tdiv_nonneg a8 a8;rw[Int.neg_tdiv]at h2;omega
  simp only[execOp,hρ _ _ hx,hρ _ _ hy,eqGuard,binOp,Op.intDiv];simp only[Sem.run_bind,Sem.run_pure,ne_eq,not_true_eq_false,↓reduceIte,h0,e];all_goals rfl
end
def gz:List Nat→Int→Option Int
 | [],v=>some v
 |d::l,v=>bif decide (48≤d)&&decide (d≤57)&&!decide (10*v-((d-48:Nat):Int)< -9223372036854775808)then gz l (10*v-((d-48:Nat):Int))else none
def g8 (w:List Nat):Option Int:=
 bif decide ((bif jr w [45]then w.drop 1 else w)= [])then none else
  match gz (bif jr w [45]then w.drop 1 else w) 0 with
  |none=>none
  |some v=>bif jr w [45]then some v else bif decide (v= -9223372036854775808)then none else some (-v)
def Hb (o:Option Int) (v:Value):Prop:=match o with
 |some n=>v=.tuple #[.int .i64 n,.bool true]∧ -9223372036854775808≤n∧n≤9223372036854775807
 |none=>v=.tuple #[.int .i64 0,.bool false]
theorem re {w:List Nat}{i:Nat}(hi:i<w.length) (v:Int):gz (w.drop i) v=bif decide (48≤at0 w i)&&decide (at0 w i≤57)&&!decide (10*v-((at0 w i-48:Nat):Int)< -9223372036854775808)then gz (w.drop (i+1)) (10*v-((at0 w i-48:Nat):Int))else none:=by
 rw[List.drop_eq_getElem_cons hi,gz];have e:w[i]=at0 w i:=by
  have:=q8 hi;rw[Yi hi]at this;exact Xo this
 rw[e]
theorem DQ {v:Int}{d:Nat}(hv:v≤0) (hl: -9223372036854775808≤v) (hd:48≤d∧d≤57):v<((-9223372036854775808:Int)+((d-48:Nat):Int)).tdiv 10↔10*v-((d-48:Nat):Int)< -9223372036854775808:=by
 have e:((-9223372036854775808:Int)+((d-48:Nat):Int)).tdiv 10= -((9223372036854775808-((d-48:Nat):Int))/10):=by
  rw[show(-9223372036854775808:Int)+((d-48:Nat):Int)= -(9223372036854775808-((d-48:Nat):Int))from a8,Int.neg_tdiv,Int.tdiv_eq_ediv_of_nonneg a8]
 rw[e];omega
theorem yF (q:ByteArray) (e:ByteArray) (he:cF e= [45]):cF (oT q e)=bif jr (cF q) [45]then(cF q).drop 1 else cF q:=by
 have a:e.size=1:=by have:=cI e;rw[he]at this;exact this.symm
 rw[oT,he,a];cases jr (cF q) [45]with
 |false=>rfl
 |true=>
  simp only[cond_true];rw[gr,←cI,Xk]
end Go.Sx
