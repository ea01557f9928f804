import Derived.Test.YtcbidldebfibkaaGreatDoorQ23
set_option linter.unusedVariables false
set_option linter.unusedSimpArgs false
set_option linter.unusedSectionVars false
set_option linter.unnecessarySimpa false
set_option maxHeartbeats 0
namespace Go.Sx
open Go Go.Proofs
set_option maxRecDepth 100000
structure En where
 key:ByteArray
 docs:Nat
 tot:Nat
 at_:Nat
 size:Nat
def dC:List Nat→List Nat→Nat
 |a::x,b::y=> if a=b then dC x y+1 else 0
 |_,_=> 0
def m9 (prev:List Nat) (e:En):List Nat:=uv (dC prev (cF e.key))++(uv ((cF e.key).length - dC prev (cF e.key))++(cF e.key).drop (dC prev (cF e.key)))++(uv e.docs++uv e.tot++uv e.at_++uv e.size)
def dB:List Nat→List En→List Nat
 |_, []=> []
 |prev,e::r=> m9 prev e++dB (cF e.key) r
def jB (prev:List Nat) (l:List En):List Nat:=match l.getLast? with|none=> prev|some e=> cF e.key
def eJ (l:List En) (k:Nat):List En:=(l.take (16*k+16)).drop (16*k)
def dj (l:List En):Nat→List Nat×List Nat
 | 0=> ([], [])
 |k+1=> ((dj l k).1++uv (dB [] (eJ l k)).length,(dj l k).2++dB [] (eJ l k))
def eg (l:List En):Nat:=(l.length+15) / 16
def fU (l:List En):List Nat:=uv l.length++(dj l (eg l)).1++(dj l (eg l)).2
def uV (l:List En):Prop:=(∀e∈l,1≤e.key.size∧e.key.size≤65∧e.docs≤2147483647∧e.tot≤2147483647∧e.at_≤2147483647∧e.size≤2147483647)∧∀i a b,l[i]? =some a→l[i+1]? =some b→cF a.key<cF b.key
theorem lM (b:List Nat):dC [] b=0:=by cases b <;> rfl
theorem jP:∀a b:List Nat,dC a b≤a.length∧dC a b≤b.length
 | [],b=> by simp[lM]
 |a::x, []=> by simp[dC]
 |a::x,b::y=> by
  have:=jP x y
  simp only[dC,Yb]
  split <;> omega
theorem pU:∀a b:List Nat,a.take (dC a b)=b.take (dC a b)
 | [],b=> by simp[lM]
 |a::x, []=> by simp[dC]
 |a::x,b::y=> by
  simp only[dC]
  split
  ·rename_i h;rw[List.take_succ_cons,List.take_succ_cons,pU x y,h]
  ·simp
theorem je:∀{a b:List Nat}{k:Nat},k≤a.length→k≤b.length→(∀j,j<k→at0 a j=at0 b j)→(k=a.length∨k=b.length∨at0 a k≠at0 b k)→dC a b=k
 | [],b,k,h1,_,_,_=> by simp at h1;subst h1;exact lM b
 |a::x, [],k,_,h2,_,_=> by simp at h2;subst h2;rfl
 |a::x,b::y,0,_,_,_,h=> by
  rcases h with h|h|h
  ·simp at h
  ·simp at h
  ·simp only[dC];rw[if_neg (by simpa [at0] using h)]
 |a::x,b::y,k+1,h1,h2,hj,h=> by
  have h0:a=b:=by simpa [at0] using hj 0 (a8)
  simp only[dC];rw[if_pos h0]
  rw[je (a:=x) (b:=y) (k:=k) (cx) (by simpa using h2) (fun j hlt=> by simpa [at0] using hj (j+1) (a8)) (by simpa [at0] using h)]
theorem vF (p:List Nat):jB p []=p:=rfl
theorem A1 (p:List Nat) (l:List En) (e:En):jB p (l++ [e])=cF e.key:=by simp[jB]
theorem A2 (p:List Nat) (e:En) (l:List En):jB p (e::l)=jB (cF e.key) l:=by
 cases l with
 |nil=> rfl
 |cons q l=>
  have h:(q::l).getLast? ≠none:=aj
  simp only[jB,List.getLast?_cons_cons]
  cases hc:(q::l).getLast? with
  |none=> exact absurd hc h
  |some r=> rfl
theorem oE:∀(a b:List En) (p:List Nat),dB p (a++b)=dB p a++dB (jB p a) b
 | [],b,p=> by simp[dB,vF]
 |e::a,b,p=> by rw[Yd,dB,oE a b,A2,dB,Yf]
theorem lC {l:List En}{i:Nat}{e:En}(h:l[i]? =some e) (p:List Nat):dB p (l.take (i+1))=dB p (l.take i)++m9 (jB p (l.take i)) e:=by
 rw[cP h,oE];simp[dB]
theorem n7 {l:List En}{i:Nat}{e:En}(h:l[i]? =some e) (p:List Nat):jB p (l.take (i+1))=cF e.key:=by
 rw[cP h,A1]
theorem Fj {l:List En}{i:Nat}{e:En}(h:l[i]? =some e) (p:List Nat):jB p (l.take i)=if i=0 then p else(match l[i - 1]? with|some a=> cF a.key|none=> p):=by
 cases i with
 |zero=> simp[vF]
 |succ i=>
  have hi:=(Yk.1 h).1
  have h2:l[i]? =some l[i]:=Yi (a8)
  rw[n7 h2,if_neg (a8),Nat.add_sub_cancel,h2]
theorem lG (l:List En) (k:Nat):(eJ l k).length=min (16*k+16) l.length - 16*k:=by simp[eJ]
theorem qJ (l:List En) (k i:Nat) (h:i<16):(eJ l k)[i]? =l[16*k+i]? :=by
 rw[eJ,Xh,List.getElem?_take,if_pos (a8)]
theorem yZ {l:List En}{k:Nat}{e:En}(h:e∈eJ l k):e∈l:=Yq (Yp h)
def j8 (l:List En):Prop:=∀e∈l,e.key.size≤1000∧e.docs<1099511627776∧e.tot<1099511627776∧e.at_<1099511627776∧e.size<1099511627776
theorem yM {prev:List Nat}{e:En}(h:e.key.size≤1000∧e.docs<1099511627776∧e.tot<1099511627776∧e.at_<1099511627776∧e.size<1099511627776):(m9 prev e).length≤1040:=by
 have h0:=jP prev (cF e.key)
 have hb:=cJ e.key
 have h1:=dM (n:=dC prev (cF e.key)) (k:=6) (a8) (a8)
 have h2:=dM (n:=(cF e.key).length - dC prev (cF e.key)) (k:=6) (a8) (a8)
 have h3:=dM (n:=e.docs) (k:=6) h.2.1 (a8)
 have h4:=dM (n:=e.tot) (k:=6) h.2.2.1 (a8)
 have h5:=dM (n:=e.at_) (k:=6) h.2.2.2.1 (a8)
 have h6:=dM (n:=e.size) (k:=6) h.2.2.2.2 (a8)
 simp only[m9,Ya,Yo];omega
theorem jZ:∀{l:List En}{p:List Nat},j8 l→(dB p l).length≤1040*l.length
 | [],_,_=> by simp[dB]
 |e::r,p,h=> by
  have h1:=yM (prev:=p) (h e (aj))
  have h2:=jZ (p:=cF e.key) (fun x hx=> h x (Xa _ hx))
  simp only[dB,Ya,Yb];omega
theorem kt {l:List En}(h:j8 l) (k:Nat):j8 (eJ l k):=fun e he=> h e (yZ he)
theorem pS {l:List En}(h:j8 l) (i:Nat):j8 (l.take i):=fun e he=> h e (Yq he)
theorem lE {l:List En}(h:j8 l):∀k,(dj l k).1.length≤6*k∧(dj l k).2.length≤16640*k
 | 0=> by simp[dj]
 |k+1=> by
  obtain⟨h1,h2⟩:=lE h k
  have h3:=jZ (p:= []) (kt h k)
  have h4:=lG l k
  have h5:=dM (n:=(dB [] (eJ l k)).length) (k:=6) (a8) (a8)
  simp only[dj,Ya];omega
theorem CW {l:List En}(h:j8 l) (hn:l.length<1099511627776):(fU l).length≤20000+1100*l.length:=by
 obtain⟨h1,h2⟩:=lE h (eg l)
 have h3:=dM (n:=l.length) (k:=6) hn (a8)
 have h5:16*eg l≤l.length+15:=bH
 simp only[fU,Ya];omega
theorem pz {l:List En}(h:uV l):j8 l:=fun e he=> by
 obtain⟨_,h2,h3,h4,h5,h6⟩:=h.1 e he
 exact⟨a8,a8,a8,a8,a8⟩
theorem yK:∀(l:List En) (p:List Nat),∀x∈dB p l,x<256
 | [],_,x,hx=> by simp[dB]at hx
 |e::r,p,x,hx=> by
  simp only[dB,m9,List.mem_append]at hx
  rcases hx with((hx|hx|hx)|((hx|hx)|hx)|hx)|hx
  ·exact gH _ x hx
  ·exact gH _ x hx
  ·exact ko _ x (Yp hx)
  ·exact gH _ x hx
  ·exact gH _ x hx
  ·exact gH _ x hx
  ·exact gH _ x hx
  ·exact yK r _ x hx
theorem vW (l:List En):∀k,(∀x∈(dj l k).1,x<256)∧∀x∈(dj l k).2,x<256
 | 0=> by simp[dj]
 |k+1=> by
  obtain⟨h1,h2⟩:=vW l k
  constructor
  ·intro x hx
   rcases List.mem_append.1 hx with hx|hx
   ·exact h1 x hx
   ·exact gH _ x hx
  ·intro x hx
   rcases List.mem_append.1 hx with hx|hx
   ·exact h2 x hx
   ·exact yK _ _ x hx
theorem yQ (l:List En):∀x∈fU l,x<256:=by
 intro x hx
 obtain⟨h1,h2⟩:=vW l (eg l)
 rcases List.mem_append.1 hx with hx|hx
 ·rcases List.mem_append.1 hx with hx|hx
  ·exact gH _ x hx
  ·exact h1 x hx
 ·exact h2 x hx
abbrev Tri:=List Nat×Nat×Nat
def ev (l:List Po) (d p:Nat):List Po:=match l.getLast? with
 |some q=> if q.1=d then l.dropLast++ [(d,q.2++ [p])]else l++ [(d, [p])]
 |none=> [(d, [p])]
def jf (ts:List (Nat×Nat)):List Po:=ts.foldl (fun l t=> ev l t.1 t.2) []
def ofK (ts:List Tri) (k:List Nat):List (Nat×Nat):=(ts.filter fun t=> decide (t.1=k)).map (·.2)
theorem l3 (ts:List (Nat×Nat)) (d p:Nat):jf (ts++ [(d,p)])=ev (jf ts) d p:=by simp[jf]
theorem kP (ts:List Tri) (k:List Nat) (d p:Nat):ofK (ts++ [(k,d,p)]) k=ofK ts k++ [(d,p)]:=by simp[ofK]
theorem lP {ts:List Tri}{k k':List Nat}{d p:Nat}(h:k'≠k):ofK (ts++ [(k',d,p)]) k=ofK ts k:=by simp[ofK,h]
theorem qd {ts:List Tri}{k:List Nat}(h:k ∉ ts.map (·.1)):ofK ts k= []:=by
 simp only[ofK,List.map_eq_nil_iff,List.filter_eq_nil_iff,decide_eq_true_eq]
 intro t ht he
 exact h (he ▸ List.mem_map_of_mem ht)
theorem FD:jf []= []:=rfl
theorem D8 (d p:Nat):ev [] d p= [(d, [p])]:=rfl
structure fW (c:List (List Nat×List Po)) (ts:List Tri):Prop where
 nodup:(c.map (·.1)).Nodup
 keys:∀k,k∈c.map (·.1)↔k∈ts.map (·.1)
 vals:∀e∈c,e.2=jf (ofK ts e.1)
theorem fW.nil:fW [] []:=⟨aj,aj,aj⟩
theorem fW.new {c:List (List Nat×List Po)}{ts:List Tri}{k:List Nat}{d p:Nat}(h:fW c ts) (hk:k ∉ c.map (·.1)):fW (c++ [(k, [(d, [p])])]) (ts++ [(k,d,p)]):=by
 refine⟨?_,fun k'=> ?_,fun e he=> ?_⟩
 ·rw[List.map_append,List.nodup_append]
  refine⟨h.nodup,aj,fun a ha b hb=> ?_⟩
  simp at hb;subst hb;rintro rfl;exact hk ha
 ·simp only[List.map_append,List.mem_append,h.keys k',List.map_cons,List.map_nil]
 ·rcases List.mem_append.1 he with he|he
  ·have hne:k≠e.1:=fun hh=> hk (hh ▸ List.mem_map_of_mem he)
   rw[lP hne];exact h.vals e he
  ·simp at he;subst he
   rw[kP,l3,qd (fun hh=> hk ((h.keys k).2 hh)),FD,D8]
theorem fW.old {c:List (List Nat×List Po)}{ts:List Tri}{k:List Nat}{l:List Po}{d p i:Nat}(h:fW c ts) (hi:c[i]? =some (k,l)):fW (c.set i (k,ev l d p)) (ts++ [(k,d,p)]):=by
 have hlt:=(Yk.1 hi).1
 have hmap:(c.set i (k,ev l d p)).map (·.1)=c.map (·.1):=by
  apply List.ext_getElem?
  intro j
  rw[Xd,List.getElem?_set,Xd]
  split
  ·rename_i hj;subst hj;first|(rw[if_pos hlt,hi];all_goals rfl)|(rw[hi];all_goals rfl)
  ·rfl
 have hmem:(k,l)∈c:=Yj hi
 refine⟨by rw[hmap];exact h.nodup,fun k'=> ?_,fun e he=> ?_⟩
 ·rw[hmap,h.keys k',List.map_append,List.mem_append]
  constructor
  ·exact .inl
  ·rintro(hh|hh)
   ·exact hh
   ·simp at hh;subst hh;exact(h.keys k').1 (List.mem_map_of_mem hmem)
 ·obtain⟨j,hj⟩:=List.getElem?_of_mem he
  rw[List.getElem?_set]at hj
  split at hj
  ·rename_i hij
   try rw[if_pos (a8)]at hj
   obtain rfl:=Option.some.inj hj
   show ev l d p=_
   rw[kP,l3,←h.vals (k,l) hmem]
  ·rename_i hij
   have hne:k≠e.1:=by
    intro hh
    have h1:(c.map (·.1))[i]? =some k:=by rw[Xd,hi];all_goals rfl
    have h2:(c.map (·.1))[j]? =some k:=by rw[Xd,hj,hh];all_goals rfl
    have hjl:=(Yk.1 hj).1
    exact hij ((List.getElem?_inj (by rw[Yh];exact hlt) h.nodup).1 (h1.trans h2.symm))
   rw[lP hne];exact h.vals e (Yj hj)
theorem mW (a:List Nat):¬a<a:=List.lt_irrefl a
theorem yo {a b c:List Nat}(h:a<b) (h':b<c):a<c:=List.lt_trans h h'
theorem ud {a b:List Nat}(h:¬a<b) (h':a≠b):b<a:=by
 rw[List.not_lt,List.le_iff_lt_or_eq]at h
 exact h.resolve_right (fun e=> h' e.symm)
def o7 (ks:List (List Nat)):Prop:=ks.Pairwise (· < ·)
def wM (k:List Nat):List (List Nat)→List (List Nat)
 | []=> [k]
 |a::r=> if k<a then k::a::r else if k=a then a::r else a::wM k r
def mm (ks:List (List Nat)):List (List Nat):=ks.foldr wM []
theorem uj (k:List Nat):∀(l:List (List Nat)) (x:List Nat),x∈wM k l↔x=k∨x∈l
 | [],x=> by simp[wM]
 |a::r,x=> by
  simp only[wM]
  split
  ·simp
  ·split
   ·rename_i h;subst h;simp
   ·simp only[List.mem_cons,uj k r x];constructor
    ·rintro(h|h|h) <;> simp[h]
    ·rintro(h|h|h) <;> simp[h]
theorem vG (k:List Nat):∀{l:List (List Nat)},o7 l→o7 (wM k l)
 | [],_=> by simp[wM,o7]
 |a::r,h=> by
  obtain⟨h1,h2⟩:=List.pairwise_cons.1 h
  simp only[wM]
  split
  ·rename_i hk
   refine List.pairwise_cons.2 ⟨fun x hx=> ?_,h⟩
   rcases List.mem_cons.1 hx with rfl|hx
   ·exact hk
   ·exact yo hk (h1 x hx)
  ·split
   ·exact h
   ·rename_i hk hne
    refine List.pairwise_cons.2 ⟨fun x hx=> ?_,vG k h2⟩
    rcases(uj k r x).1 hx with rfl|hx
    ·exact ud hk hne
    ·exact h1 x hx
theorem jO:∀(ks:List (List Nat)) (x:List Nat),x∈mm ks↔x∈ks
 | [],x=> by simp[mm]
 |k::r,x=> by show x∈wM k (mm r)↔_;rw[uj,jO r x,List.mem_cons]
theorem jd:∀(ks:List (List Nat)),o7 (mm ks)
 | []=> by simp[mm,o7]
 |k::r=> vG k (jd r)
theorem tH:∀{a b:List (List Nat)},o7 a→o7 b→(∀x,x∈a↔x∈b)→a=b
 | [], [],_,_,_=> rfl
 | [],y::b,_,_,h=> by have:=(h y).2 (aj);simp at this
 |x::a, [],_,_,h=> by have:=(h x).1 (aj);simp at this
 |x::a,y::b,ha,hb,h=> by
  obtain⟨ha1,ha2⟩:=List.pairwise_cons.1 ha
  obtain⟨hb1,hb2⟩:=List.pairwise_cons.1 hb
  have hxy:x=y:=by
   rcases List.mem_cons.1 ((h x).1 (aj))with h1|h1
   ·exact h1
   ·rcases List.mem_cons.1 ((h y).2 (aj))with h2|h2
    ·exact h2.symm
    ·exact absurd (yo (hb1 x h1) (ha1 y h2)) (mW y)
  subst hxy
  congr 1
  refine tH ha2 hb2 fun z=> ⟨fun hz=> ?_,fun hz=> ?_⟩
  ·rcases List.mem_cons.1 ((h z).1 (Xa _ hz))with rfl|h1
   ·exact absurd (ha1 z hz) (mW z)
   ·exact h1
  ·rcases List.mem_cons.1 ((h z).2 (Xa _ hz))with rfl|h1
   ·exact absurd (hb1 z hz) (mW z)
   ·exact h1
def dy (ts:List Tri):List (List Nat×List Po):=(mm (ts.map (·.1))).map fun k=> (k,jf (ofK ts k))
structure o8 (R:List (List Nat×List Po)) (ts:List Tri):Prop where
 rise:o7 (R.map (·.1))
 keys:∀k,k∈R.map (·.1)↔k∈ts.map (·.1)
 vals:∀e∈R,e.2=jf (ofK ts e.1)
theorem tF (ts:List Tri):(dy ts).map (·.1)=mm (ts.map (·.1)):=by simp[dy,Function.comp_def]
theorem o8.eq {R:List (List Nat×List Po)}{ts:List Tri}(h:o8 R ts):R=dy ts:=by
 have h1:R.map (·.1)=mm (ts.map (·.1)):=tH h.rise (jd _) fun x=> by rw[h.keys,jO]
 have h2:R=(R.map (·.1)).map fun k=> (k,jf (ofK ts k)):=by
  rw[List.map_map]
  conv=> lhs;rw[←List.map_id R]
  exact List.map_congr_left fun e he=> by show e=(e.1,jf (ofK ts e.1));rw[←h.vals e he]
 rw[h2,h1,dy]
def ltP (a b:Nat×Nat):Prop:=a.1<b.1∨a.1=b.1∧a.2<b.2
def UpT (ts:List Tri):Prop:=∀k,(ofK ts k).Pairwise ltP
theorem vz:∀{l:List Nat}{nb x:Nat},oW nb l→(∀y∈l,y<x)→nb≤x→oW nb (l++ [x])
 | [],nb,x,_,_,h=> ⟨h,trivial⟩
 |y::r,nb,x,hk,hl,_=> ⟨hk.1,vz hk.2 (fun z hz=> hl z (Xa _ hz)) (by have:=hl y (aj);omega)⟩
theorem tX:∀{l:List Po}{nb:Nat}{p:Po},jI nb l→e8 nb l≤p.1→p.2≠ []→oW 0 p.2→jI nb (l++ [p])
 | [],nb,p,_,h1,h2,h3=> ⟨h1,h2,h3,trivial⟩
 |q::r,nb,p,hk,h1,h2,h3=> by
  rw[ln]at h1
  exact⟨hk.1,hk.2.1,hk.2.2.1,tX hk.2.2.2 h1 h2 h3⟩
theorem vC:∀{l:List Po}{nb:Nat}{p:Po},jI nb (l++ [p])→jI nb l∧e8 nb l≤p.1∧p.2≠ []∧oW 0 p.2
 | [],nb,p,h=> ⟨trivial,h.1,h.2.1,h.2.2.1⟩
 |q::r,nb,p,h=> by
  obtain⟨h1,h2⟩:=vC (l:=r) h.2.2.2
  rw[ln]
  exact⟨⟨h.1,h.2.1,h.2.2.1,h1⟩,h2⟩
theorem yv:∀r:List (Nat×Nat),r.reverse.Pairwise ltP→jI 0 (jf r.reverse)∧∀p∈jf r.reverse,∀x∈p.2,(p.1,x)∈r.reverse
 | [],_=> ⟨trivial,by simp[jf]⟩
 |(d,p)::r,h=> by
  rw[List.reverse_cons]at h⊢
  obtain⟨hp1,_,hp2⟩:=List.pairwise_append.1 h
  have hlt:∀u∈r.reverse,ltP u (d,p):=fun u hu=> hp2 u hu (d,p) (aj)
  obtain⟨i1,i2⟩:=yv r hp1
  rw[l3]
  generalize r.reverse=ts at*
  generalize jf ts=l at*
  rcases List.eq_nil_or_concat l with rfl|⟨l',q,hl⟩
  ·refine⟨⟨Yl _,aj,⟨Yl _,trivial⟩,trivial⟩,?_⟩
   intro q hq x hx;simp[ev]at hq;subst hq;simp at hx;subst hx;simp
  ·obtain rfl:l=l'++ [q]:=by simpa using hl
   obtain⟨c1,c2,c3,c4⟩:=vC i1
   by_cases he:q.1=d
   ·have hadd:ev (l'++ [q]) d p=l'++ [(d,q.2++ [p])]:=by simp[ev,he]
    rw[hadd]
    have hq:∀y∈q.2,y<p:=fun y hy=> by
     rcases hlt _ (i2 q (aj) y hy)with h1|h1
     ·simp at h1;omega
     ·exact h1.2
    refine⟨tX c1 (by show e8 0 l'≤d;omega) (aj) (vz c4 hq (Yl _)),?_⟩
    intro r hr x hx
    rcases List.mem_append.1 hr with hr|hr
    ·exact Yy _ (i2 r (Yy _ hr) x hx)
    ·simp at hr;subst hr
     rcases List.mem_append.1 hx with hx|hx
     ·exact Yy _ (by have:=i2 q (aj) x hx;rwa [he]at this)
     ·simp at hx;subst hx;simp
   ·have hadd:ev (l'++ [q]) d p=l'++ [q]++ [(d, [p])]:=by simp[ev,he]
    rw[hadd]
    obtain⟨y,hy⟩:=List.exists_mem_of_ne_nil _ c3
    have hqd:q.1<d:=by
     rcases hlt _ (i2 q (aj) y hy)with h1|h1
     ·exact h1
     ·exact absurd h1.1 he
    refine⟨tX i1 (by rw[n6];exact hqd) (aj) ⟨Yl _,trivial⟩,?_⟩
    intro r hr x hx
    rcases List.mem_append.1 hr with hr|hr
    ·exact Yy _ (i2 r hr x hx)
    ·simp at hr;subst hr;simp at hx;subst hx;simp
theorem Iq {ts:List (Nat×Nat)}(h:ts.Pairwise ltP):jI 0 (jf ts)∧∀p∈jf ts,∀x∈p.2,(p.1,x)∈ts:=by
 have:=yv ts.reverse (by rwa [List.reverse_reverse])
 rwa [List.reverse_reverse]at this
theorem Eo {m N T y:Nat}(hm:T / 8<m) (hN:N<2 ^ T):(leB m N).set (T / 8) (N / 256 ^ (T / 8)+y % 2 ^ (8 - T % 8)*2 ^ (T % 8))=leB m (N+2 ^ T*(y % 2 ^ (8 - T % 8)))∧N / 256 ^ (T / 8)+y % 2 ^ (8 - T % 8)*2 ^ (T % 8)<256∧(leB m N)[T / 8]? =some (N / 256 ^ (T / 8))∧N+2 ^ T*(y % 2 ^ (8 - T % 8))<2 ^ (T+(8 - T % 8)):=by
 have hp:0<256 ^ (T / 8):=Nat.pow_pos (ag)
 have h1:=tq hN
 have hr:T % 8<8:=Nat.mod_lt _ (ag)
 have h2:y % 2 ^ (8 - T % 8)<2 ^ (8 - T % 8):=Nat.mod_lt _ (Nat.two_pow_pos _)
 have h3:2 ^ (8 - T % 8)*2 ^ (T % 8)=256:=by rw[←Nat.pow_add,show 8 - T % 8+T % 8=8 from a8]
 have h4:N / 256 ^ (T / 8)+y % 2 ^ (8 - T % 8)*2 ^ (T % 8)<256:=by
  have h5:(y % 2 ^ (8 - T % 8)+1)*2 ^ (T % 8)≤2 ^ (8 - T % 8)*2 ^ (T % 8):=Nat.mul_le_mul_right _ h2
  rw[Nat.add_mul,h3]at h5
  omega
 have h256:2 ^ (T % 8)≤2 ^ 7:=Nat.pow_le_pow_right (ag) (a8)
 have hq:(N+2 ^ T*(y % 2 ^ (8 - T % 8))) / 256 ^ (T / 8)=N / 256 ^ (T / 8)+y % 2 ^ (8 - T % 8)*2 ^ (T % 8):=by
  rw[jT T,Nat.mul_assoc,Nat.add_mul_div_left _ _ hp,Nat.mul_comm (2 ^ (T % 8))]
 refine⟨?_,h4,?_,?_⟩
 ·apply List.ext_getElem?
  intro j
  rw[List.getElem?_set,fE]
  by_cases hj:T / 8=j
  ·subst hj
   rw[if_pos rfl,if_pos hm,qh hm,hq,Nat.mod_eq_of_lt h4]
  ·rw[if_neg hj]
   by_cases hjm:j<m
   ·rw[qh hjm,qh hjm]
    rcases Nat.lt_or_ge j (T / 8)with hlt|hge
    ·rw[jT T,Nat.mul_assoc,yp hlt]
    ·obtain⟨d,rfl⟩:∃d,j=T / 8+1+d:=⟨j - (T / 8+1),a8⟩
     rw[Nat.add_assoc,Nat.pow_add,←Nat.div_div_eq_div_mul,←Nat.div_div_eq_div_mul,hq]
     have h6:256≤256 ^ (1+d):=by rw[Nat.pow_add,Nat.pow_one];exact Nat.le_mul_of_pos_right _ (Nat.pow_pos (ag))
     rw[Nat.div_eq_of_lt (show N / 256 ^ (T / 8)<256 ^ (1+d)from a8),Nat.div_eq_of_lt (show N / 256 ^ (T / 8)+y % 2 ^ (8 - T % 8)*2 ^ (T % 8)<256 ^ (1+d)from a8)]
   ·rw[List.getElem?_eq_none (by rw[fE];omega),List.getElem?_eq_none (by rw[fE];omega)]
 ·rw[qh hm,Nat.mod_eq_of_lt (show N / 256 ^ (T / 8)<256 from a8)]
 ·rw[Nat.pow_add]
  have h7:2 ^ T*(y % 2 ^ (8 - T % 8)+1)≤2 ^ T*2 ^ (8 - T % 8):=Nat.mul_le_mul_left _ h2
  rw[Nat.mul_add]at h7
  omega
theorem Er {a y k:Nat}(ha:a<2 ^ k) (hk:k<8):a |||(y*2 ^ k % 256)=a+y % 2 ^ (8 - k)*2 ^ k:=by
 have h3:(256:Nat)=2 ^ (8 - k)*2 ^ k:=by rw[←Nat.pow_add,show 8 - k+k=8 from a8]
 have h4:y*2 ^ k % 256=y % 2 ^ (8 - k)*2 ^ k:=by
  conv=> lhs;rw[h3]
  rw[Nat.mul_mod_mul_right]
 rw[h4,Nat.or_comm,Nat.mul_comm,←Nat.two_pow_add_eq_or_of_lt ha,Nat.add_comm]
theorem Es (x d e:Nat):x % 2 ^ d+2 ^ d*(x / 2 ^ d % 2 ^ e)=x % 2 ^ (d+e):=by
 rw[Nat.pow_add,Nat.mod_mul]
theorem BC {s:SV}{lo hi j:Nat}(h:lo<s.c):(s.cut 1 lo hi).elt 1 j 0=s.elt 1 (lo+j) 0:=by
 have h2:¬s.c=lo:=a8
 simp only[SV.cut,SV.elt,if_neg h2,Option.map_map]
 cases s.a with
 |none=> rfl
 |some a=>
  by_cases h0:lo=0
  ·subst h0;simp[Addr.add]
  ·simp[Addr.add,h0,Nat.add_assoc]
theorem Ll {H:cG}{s:SV}{pre l:List Nat}{lo hi:Nat} [h:Sl H s eB (pre++l)] (h1:pre.length=lo) (h2:hi=lo+l.length):Sl H (s.cut 1 lo hi) eB l:=by
 have:=Sl.cut h (lo:=lo) (hi:=hi) (a8) (aS)
 rw[List.take_of_length_le (aS),←h1,List.drop_left]at this
 rw[←h1]
 exact this
theorem Hl (pre l:List Nat) (j v:Nat):(pre++l).set (pre.length+j) v=pre++l.set j v:=by
 rw[List.set_append,if_neg (a8),Nat.add_sub_cancel_left]
theorem NJ {G:cM}{H R:cG}{s:SV}{pre:List Nat}{m N a w x:Nat} [hr:pI H s eB (pre++leB m N) R] (hN:N<2 ^ a) (hm:a+w≤8*m) (hx:x<2 ^ w) (hx40:x<1099511627776) (hm9:m≤10000000000) (hp9:pre.length≤10000000000) (hw:w≤40) (hc:pre.length<s.c∨w=0):SC G Tryz.prog 182 [(s.cut 1 pre.length (pre.length+m)).val, .int .i64 (a:Int), .int .i64 (w:Int), .int .i64 (x:Int)] H (fun v H'=> v= .tuple #[]∧H'=Row s eB (pre++leB m (N+2 ^ a*x))::R):=by
 refine SC.less (jr hr cK.refl) ?_
 refine sWk Tryz.func182 Tryz.ntmps182 ?_
 refine gk (k:=dn (Nat×(List Nat)) (fun y=> N+2 ^ a*(x % 2 ^ y.1)<2 ^ (a+y.1)∧y.1≤w+8∧y.2=leB m (N+2 ^ a*(x % 2 ^ y.1))) (fun y=> [(8, .int .i64 ((y.1:Nat):Int))]) [(0,_),(1,_),(2,_),(3,_)] (fun y=> [Row s eB (pre++y.2)]) _ (fun y=> w - y.1) ((0,leB m N)) (h0:=?_) (k:=?_))
 ·try dsimp only
  exact⟨by simp[Nat.mod_one];exact hN,a8,by simp[Nat.mod_one]⟩
 rintro⟨d,o⟩ ⟨hd,hdw,ho⟩
 try dsimp only[Yd,Ye]at*
 refine gk (k:=wi_ (k:=fun h1=>?_) (m:=fun h1=>?_))
 ·have hdw2:d<w:=by omega
  have hTm:(a+d) / 8<m:=a8
  have hps:=Eo (m:=m) (y:=x / 2 ^ d) hTm hd
  obtain⟨hp1,hp2,hp3,hp4⟩:=hps
  rw[←ho]at hp1 hp3
  have hol:o.length=m:=by rw[ho,fE]
  have hpc:pre.length<s.c:=a8
  haveI hcs:Sl (Row s eB (pre++o)::R) (s.cut 1 pre.length (pre.length+m)) eB o:=Ll rfl (a8)
  have hget:(pre++o)[pre.length+(a+d) / 8]? =some ((N+2 ^ a*(x % 2 ^ d)) / 256 ^ ((a+d) / 8)):=by
   rw[Yu (a8),Nat.add_sub_cancel_left];exact hp3
  have hk8:(a+d) % 8<8:=Nat.mod_lt _ (ag)
  have hk7:2 ^ ((a+d) % 8)≤2 ^ 7:=Nat.pow_le_pow_right (ag) (a8)
  have hxd:x / 2 ^ d≤x:=Nat.div_le_self _ _
  have hsh:x / 2 ^ d*2 ^ ((a+d) % 8)≤x*2 ^ 7:=Nat.mul_le_mul hxd hk7
  have htop:=tq hd
  have hpb:=Er (y:=x / 2 ^ d) htop hk8
  have hplen:(pre++o).length=pre.length+m:=by rw[Ya,hol]
  refine wk_ (qn_ (wb_ (ws_ (wr_ (e_ mv (k:=e_ mv (k:=e_ iad (k:=?_))))))))
  refine e_ (gQ rfl rfl (a+d) 8 (a8) rfl (ag)) (k:=?_)
  refine go ?_
  refine di cL (fun i=> [15].contains i) (fun k H=> (k=5→Sl H (s.cut 1 pre.length (pre.length+m)) eB o)∧(k=6→Sl H s eB (pre++o))∧(k=14→Sl H (s.cut 1 pre.length (pre.length+m)) eB o)) (af_ 0 (q:=cE fun H hH=>mv) (k:=af_ 1 (q:=cE fun H hH=>mv) (k:=af_ 2 (q:=cE fun H hH=>mv) (k:=af_ 3 (q:=cE fun H hH=>iad) (k:=?_)))))
  refine cH 4 rfl rfl (aa) rfl (cE fun H hH=>iF rfl rfl (a+d) 8 (a8) rfl (ag) (aw)) (?_)
  refine cH 5 rfl rfl (aa) rfl (cE fun H hH=>by have hN:=hH.1 rfl;exact evq (cO rfl rfl ((a+d) / 8) rfl (a8)) (congrArg Value.pointer (BC hpc))) (?_)
  refine cH 6 rfl rfl (aa) rfl (cE fun H hH=>by have hN:=hH.2.1 rfl;exact lel (hy:=hget)) (?_)
  refine af_ 7 (q:=cE fun H hH=>mv) (k:=af_ 8 (q:=cE fun H hH=>mv) (k:=?_))
  refine cH 9 rfl rfl (aa) rfl (cE fun H hH=>ei rfl rfl x d rfl rfl (bS)) (?_)
  refine af_ 10 (q:=cE fun H hH=>mv) (k:=?_)
  refine cH 11 rfl rfl (aa) rfl (cE fun H hH=>yD rfl rfl (x / 2 ^ d) ((a+d) % 8) rfl rfl (a8) (a8)) (?_)
  refine cH 12 rfl rfl (aa) rfl (cE fun H hH=>dd 256 rfl rfl rfl _ rfl) (?_)
  refine cH 13 rfl rfl (aa) rfl (cE fun H hH=>evq (j0 256 rfl rfl rfl rfl _ _ rfl rfl (a8) (Nat.mod_lt _ (ag))) (congrArg (fun n:Nat=> Value.int .u8 (n:Int)) hpb)) (?_)
  refine cH 14 rfl rfl (aa) rfl (cE fun H hH=>by have hN:=hH.2.2 rfl;exact evq (cO rfl rfl ((a+d) / 8) rfl (a8)) (congrArg Value.pointer (BC hpc))) (?_)
  refine cQ 15 rfl (aa) rfl (fun k hk=> ⟨fun hi=> ab,fun hi=> ab,fun hi=> ab⟩) (fo (s:=s) (i:=pre.length+(a+d) / 8) rfl rfl rfl (a8)) ?_
  rintro _ _ ⟨rfl,rfl⟩
  refine db (aa) (fun k hk=> ⟨fun hi=> absurd hk (ad),fun hi=> absurd hk (ad),fun hi=> absurd hk (ad)⟩) (qn_ (wr_ (?_)))
  rw[Hl,hp1]
  have hstep:N+2 ^ a*(x % 2 ^ d)+2 ^ (a+d)*(x / 2 ^ d % 2 ^ (8 - (a+d) % 8))=N+2 ^ a*(x % 2 ^ (d+(8 - (a+d) % 8))):=by
   rw[←Es x d,Nat.mul_add,Nat.add_assoc,Nat.pow_add,Nat.mul_assoc]
  refine e_ mv (k:=e_ mv (k:=e_ isb (k:=?_)))
  refine e_ (evq iad (congrArg (Value.int .i64) (show _=((d+(8 - (a+d) % 8):Nat):Int)from a8))) (k:=?_)
  refine go ?_
  refine ln_ ((d+(8 - (a+d) % 8),leB m (N+2 ^ a*(x % 2 ^ d)+2 ^ (a+d)*(x / 2 ^ d % 2 ^ (8 - (a+d) % 8))))) (k:=?_)
  try dsimp only
  exact⟨by rw[←hstep,←Nat.add_assoc];exact hp4,a8,by rw[hstep]⟩
 have hxd:x % 2 ^ d=x:=Nat.mod_eq_of_lt (Nat.lt_of_lt_of_le hx (Nat.pow_le_pow_right (ag) (a8)))
 rw[hxd]at ho
 rw[ho]
 refine gk (k:=rt_ Tryz.results182 (k:=?_))
 exact⟨_,hsb,rfl,rfl⟩
theorem A5 (ns:List Nat):iW (dg ns)=false:=by
 rw[il];intro i x h
 exact Az ns x (Yj h)
section
variable {G:cM}{P:Program}{N:Nat}{Q:fY}{t:Tm}{H:cG}{ops:Array Oper}{l:List Oper}
theorem Mg (s:SV) {α:Type}{e:Enc α}{xs:List α} [hs:Sl H s e xs] (h:xs.length≤s.c→O G P N ops l Q t H):O G P N ops l Q t H:=
 ⟨fun a w ha hw=> (h (by obtain⟨h1,h2,_⟩:=hs.get hw;omega)).go a w ha hw⟩
end
theorem Fe (m:Nat):leB m 0=List.replicate m 0:=by
 apply List.ext_getElem?
 intro j
 by_cases h:j<m
 ·rw[qh h,List.getElem?_replicate,if_pos h];simp
 ·rw[List.getElem?_eq_none (by rw[fE];omega),List.getElem?_eq_none (by rw[List.length_replicate];omega)]
theorem wj {G:cM}{H R:cG}{b:Nat}{xs:List Nat}{s:SV}{ns:List Nat} [hg:Glb G R] [hr:Rem H Wr b xs R] [hs:Sl R s eI (dg ns)] (hn:xs.length≤1000000000) (hm:ns.length≤100000000) (hl:∀x∈ns,x<1099511627776) (hw0:dG (orL ns)=0→ns.length≤65536):SC G Tryz.prog 156 [.pointer (some ⟨b,0,none⟩),s.val] H (fun v H'=> v= .nilIface∧H'=Wr b (xs++fB ns)::R):=by
 have hlen:=dX ns
 have hbl:=A5 ns
 refine SC.rem (h:=hr) ?_
 refine sWk Tryz.func156 Tryz.ntmps156 ?_
 refine ws_ (wr_ (e_ asn (k:=on_ (qn_ (ws_ (ws_ (wr_ (e_ mv (k:=?_)))))))))
 refine d1_ rfl (z8 (a8)) (k:=?_)
 rw[hbl]
 refine on_ (qn_ (wi_ (k:=fun h1=>?_) (m:=fun h1=>?_)))
 ·exact absurd h1 (ag)
 refine wk_ (qn_ (ws_ (wr_ (e_ asn (k:=on_ (qn_ (ws_ (ws_ (wr_ (e_ mv (k:=e_ lnn (k:=e_ mv (k:=on_ (?_))))))))))))))
 refine qn_ (wb_ (dn (Nat) (fun y=> y≤ns.length) (fun y=> [(5, .int .i64 ((orL (ns.take y):Nat):Int)),(17, .int .i64 ((y:Nat):Int))]) [(0,_),(1,_),(15,_),(16,_)] (fun y=> []) _ (fun y=> ns.length - y) (0) (h0:=?_) (k:=?_)))
 ·try dsimp only
  exact Yl _
 rintro i hi
 try dsimp only[Yd,Ye]at*
 refine ws_ (wr_ (e_ ilt (k:=on_ (qn_ (ws_ (wi_ (k:=fun h2=>?_) (m:=fun h2=>?_)))))))
 ·obtain⟨x,hx⟩:∃x,ns[i]? =some x:=⟨_,Yi (a8)⟩
  have hxi:=eE hx
  have hx40:=hl x (Yj hx)
  have ho:orL (ns.take i)<2 ^ 40:=rj (ag) fun y hy=> hl y (Yq hy)
  refine wk_ (qn_ (ws_ (wb_ (ws_ (wr_ (e_ ixa (k:=e_ lel (k:=e_ asn (k:=on_ (qn_ (wr_ (e_ mv (k:=e_ mv (k:=?_))))))))))))))
  refine e_ (evq (IC rfl rfl (orL (ns.take i)) x rfl rfl (a8) (a8)) (congrArg (fun n:Nat=> Value.int .i64 (n:Int)) (yh hx).symm)) (k:=?_)
  refine e_ asn (k:=on_ (bn_ (qn_ (wr_ (e_ iad (k:=e_ mv (k:=on_ (?_))))))))
  refine ln_ (i+1) (k:=?_)
  try dsimp only
  omega
 obtain rfl:i=ns.length:=a8
 rw[List.take_length]
 have ho:orL ns<2 ^ 40:=rj (ag) hl
 refine we_ (qe_ (le_ (bh_ (qn_ (ws_ (wr_ (e_ mv (k:=?_))))))))
 refine e_ (cS 18446744073709551616 rfl rfl rfl (orL ns) rfl (a8)) (k:=?_)
 refine d1_ rfl (MM (a8)) (k:=?_)
 obtain⟨W,hW⟩:∃W,W=dG (orL ns):=⟨_,rfl⟩
 rw[←hW]
 have hW40:W≤40:=by rw[hW,fi];exact ho
 have hxW:∀x∈ns,x<2 ^ W:=fun x hx=> by rw[hW];exact EI hx
 have hul:=dc (n:=ns.length) (a8)
 refine e_ asn (k:=on_ (qn_ (ws_ (ws_ (wr_ (e_ mv (k:=e_ ieq (k:=e_ mv (k:=cY 4 34 (k:=fun h3=>eg_ mv (k:=eg_ lnn (k:=eg_ igt (k:=e_ pkt (k:=on_ (edq)))))) (q:=on_ (qn_ (wi_ (k:=fun h4=>?_) (m:=fun h4=>?_)))))))))))))
 ·obtain⟨c1,c2⟩:=h4
  exfalso;rw[←hW]at hw0;have:=hw0 (a8);omega
 refine wk_ (qn_ (ws_ (wr_ (e_ mv (k:=e_ mv (k:=e_ lnn (k:=?_)))))))
 refine e_ ((ae)) (k:=?_)
 refine d2_ rfl (eC (dg ns).length (a8) (a8)) (k:=?_)
 rw[hlen]
 refine on_ (qn_ (ws_ (ws_ (wr_ (e_ mv (k:=e_ lnn (k:=e_ ieq (k:=on_ (qn_ (wi_ (k:=fun h5=>?_) (m:=fun h5=>?_)))))))))))
 ·have hnil:ns= []:=List.eq_nil_of_length_eq_zero (a8)
  refine ws_ (wr_ (e_ asn (k:=on_ (qn_ (wt_ (qr_ (rt_ Tryz.results156 (k:=?_))))))))
  exact⟨_,hsb,rfl,by rw[fB,if_pos hnil,Ym]⟩
 have hne:¬ns= []:=fun h=> by have h9:=h5;rw[hlen,h]at h9;exact h9 rfl
 refine wk_ (qn_ (ws_ (wr_ (e_ mv (k:=e_ mv (k:=?_))))))
 refine e_ (cS 256 rfl rfl rfl W rfl (a8)) (k:=?_)
 refine d2_ rfl (nE W (ah)) (k:=on_ (qn_ (ws_ (wr_ (?_)))))
 refine EK b fun sw=> ?_
 have hnW:ns.length*W≤ns.length*40:=Nat.mul_le_mul_left _ hW40
 have hcast:((dg ns).length:Int)*(W:Int)=((ns.length*W:Nat):Int):=by rw[hlen];simp
 refine e_ mv (k:=e_ nck (k:=e_ fla (k:=e_ ldv (k:=e_ lnn (k:=e_ asn (k:=on_ (qn_ (ws_ (wr_ (e_ mv (k:=e_ mv (k:=e_ nck (k:=e_ fla (k:=?_))))))))))))))
 refine e_ ldv (k:=e_ mv (k:=e_ lnn (k:=e_ mv (k:=e_ iml (k:=e_ iad (k:=?_))))))
 refine e_ (iF rfl rfl (ns.length*W+7) 8 (a8) rfl (ag) (aw)) (k:=?_)
 refine s_ (tz (T3:=9) rfl rfl rfl (aB) (aB) inferInstance) (k:=?_)
 rintro _ _ ⟨s64,rfl,rfl⟩
 obtain⟨m,hm8⟩:∃m,m=(ns.length*W+7) / 8:=⟨_,rfl⟩
 obtain⟨pre,hpre⟩:∃pre,pre=xs++uv ns.length++ [W]:=⟨_,rfl⟩
 rw[←hm8,←hpre,←Fe]
 have hpl:pre.length≤1000000011:=by rw[hpre];simp only[Ya,Yb,Yc];omega
 refine Mg s64 fun hcap=> ?_
 rw[Ya,fE]at hcap
 refine e_ nck (k:=e_ fla (k:=sto (k:=on_ (qn_ (ws_ (ws_ (wr_ (e_ mv (k:=e_ lnn (k:=e_ mv (k:=on_ (qn_ (wb_ (?_))))))))))))))
 refine dn (Nat×(List Nat)) (fun y=> y.1≤ns.length∧y.2=leB m (gV W (ns.take y.1))) (fun y=> [(69, .int .i64 ((y.1:Nat):Int))]) [(0,_),(8,_),(9,_),(67,_),(68,_)] (fun y=> [Row s64 eB (pre++y.2)]) _ (fun y=> ns.length - y.1) ((0,leB m 0)) (h0:=?_) (k:=?_)
 ·try dsimp only
  exact⟨Yl _,rfl⟩
 rintro⟨i,o⟩ ⟨hi,ho2⟩
 try dsimp only[Yd,Ye]at*
 refine ws_ (wr_ (e_ ilt (k:=on_ (qn_ (ws_ (wi_ (k:=fun h6=>?_) (m:=fun h6=>?_)))))))
 ·obtain⟨x,hx⟩:∃x,ns[i]? =some x:=⟨_,Yi (a8)⟩
  have hxi:=eE hx
  have hx40:=hl x (Yj hx)
  have hxw:=hxW x (Yj hx)
  have hol:(pre++o).length=pre.length+m:=by rw[Ya,ho2,fE]
  have hiW:i*W≤i*40:=Nat.mul_le_mul_left _ hW40
  have hi1:(i+1)*W≤ns.length*W:=Nat.mul_le_mul_right _ (a8)
  have hi2:(i+1)*W=i*W+W:=by rw[Nat.add_mul,Nat.one_mul]
  have hci:(i:Int)*(W:Int)=((i*W:Nat):Int):=aj
  have hNi:gV W (ns.take i)<2 ^ (i*W):=by
   have:=qc (w:=W) (l:=ns.take i) fun y hy=> hxW y (Yq hy)
   rwa [Yg,Nat.min_eq_left hi,Nat.mul_comm]at this
  have hcp:pre.length<s64.c∨W=0:=a8
  refine wk_ (qn_ (ws_ (wb_ (ws_ (wr_ (e_ mv (k:=e_ ixa (k:=e_ lel (k:=e_ asn (k:=e_ asn (k:=on_ (qn_ (wr_ (?_))))))))))))))
  rw[ho2]
  refine e_ mv (k:=e_ nck (k:=e_ fla (k:=e_ ldv (k:=e_ mv (k:=?_)))))
  refine e_ (ef rfl (aI) pre.length (pre.length+m) ⟨_,_,rfl,by rw[hpre]⟩ (by rw[Ya,fE]) (a8) (by rw[Ya,fE];exact Nat.le_refl _)) (k:=?_)
  refine e_ mv (k:=e_ mv (k:=?_))
  refine e_ (evq iml (congrArg (Value.int .i64) hci)) (k:=?_)
  refine e_ mv (k:=e_ mv (k:=?_))
  refine cp_ (vs:=[_,_,_,_]) rfl (NJ (pre:=pre) (m:=m) (N:=gV W (ns.take i)) (a:=i*W) (w:=W) (x:=x) hNi (a8) hxw hx40 (a8) (a8) hW40 hcp) (k:=?_)
  rw[Nat.mul_comm i W,←tV hx]
  refine on_ (bn_ (qn_ (wr_ (e_ iad (k:=e_ mv (k:=on_ (?_)))))))
  refine ln_ ((i+1,leB m (gV W (ns.take (i+1))))) (k:=?_)
  try dsimp only
  exact⟨a8,rfl⟩
 obtain rfl:i=ns.length:=a8
 rw[List.take_length]at ho2
 have hres:fB ns=uv ns.length++ [W]++leB m (gV W ns):=by
  rw[fB,if_neg hne,←hW,Bg,hm8];simp
 have hfin:xs++fB ns=pre++o:=by rw[hres,hpre,ho2];simp
 refine we_ (qe_ (le_ (bh_ (qn_ (ws_ (wr_ (e_ asn (k:=on_ (qn_ (wt_ (rt_ Tryz.results156 (k:=?_))))))))))))
 rw[hfin]
 exact⟨_,hsb,rfl,rfl⟩
end Go.Sx
