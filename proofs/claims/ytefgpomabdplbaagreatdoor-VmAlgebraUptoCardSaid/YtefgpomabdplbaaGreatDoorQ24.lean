import Derived.Test.YtefgpomabdplbaaGreatDoorQ23
set_option linter.unusedVariables false
set_option linter.unusedSimpArgs false
set_option linter.unusedSectionVars false
set_option linter.unnecessarySimpa false
set_option maxHeartbeats 0
namespace Go.Sx
open Go Go.Proofs
set_option maxRecDepth 100000
abbrev Tri:=List Nat×Nat×Nat
def iU (l:List Po) (d p:Nat):List Po:=match l.getLast? with
 |some q=> if q.1=d then l.dropLast++ [(d,q.2++ [p])]else l++ [(d, [p])]
 |none=> [(d, [p])]
def iD (ts:List (Nat×Nat)):List Po:=ts.foldl (fun l t=> iU l t.1 t.2) []
def ofK (ts:List Tri) (k:List Nat):List (Nat×Nat):=(ts.filter fun t=> decide (t.1=k)).map (·.2)
theorem om (ts:List (Nat×Nat)) (d p:Nat):iD (ts++ [(d,p)])=iU (iD ts) d p:=by simp[iD]
theorem pZ (ts:List Tri) (k:List Nat) (d p:Nat):ofK (ts++ [(k,d,p)]) k=ofK ts k++ [(d,p)]:=by simp[ofK]
theorem rG {ts:List Tri}{k k':List Nat}{d p:Nat}(h:k'≠k):ofK (ts++ [(k',d,p)]) k=ofK ts k:=by simp[ofK,h]
theorem FR {ts:List Tri}{k:List Nat}(h:k ∉ ts.map (·.1)):ofK ts k= []:=by
 simp only[ofK,List.map_eq_nil_iff,List.filter_eq_nil_iff,decide_eq_true_eq]
 intro t ht he
 exact h (he ▸ List.mem_map_of_mem ht)
theorem GR:iD []= []:=rfl
theorem E4 (d p:Nat):iU [] d p= [(d, [p])]:=rfl
structure fD (c:List (List Nat×List Po)) (ts:List Tri):Prop where
 nodup:(c.map (·.1)).Nodup
 keys:∀k,k∈c.map (·.1)↔k∈ts.map (·.1)
 vals:∀e∈c,e.2=iD (ofK ts e.1)
theorem fD.nil:fD [] []:=⟨an,an,an⟩
theorem fD.new {c:List (List Nat×List Po)}{ts:List Tri}{k:List Nat}{d p:Nat}(h:fD c ts) (hk:k ∉ c.map (·.1)):fD (c++ [(k, [(d, [p])])]) (ts++ [(k,d,p)]):=by
 refine⟨?_,fun k'=> ?_,fun e he=> ?_⟩
 ·rw[List.map_append,List.nodup_append]
  refine⟨h.nodup,an,fun a ha b hb=> ?_⟩
  simp at hb;subst hb;rintro rfl;exact hk ha
 ·simp only[List.map_append,List.mem_append,h.keys k',List.map_cons,List.map_nil]
 ·rcases List.mem_append.1 he with he|he
  ·have hne:k≠e.1:=fun hh=> hk (hh ▸ List.mem_map_of_mem he)
   rw[rG hne];exact h.vals e he
  ·simp at he;subst he
   rw[pZ,om,FR (fun hh=> hk ((h.keys k).2 hh)),GR,E4]
theorem fD.old {c:List (List Nat×List Po)}{ts:List Tri}{k:List Nat}{l:List Po}{d p i:Nat}(h:fD c ts) (hi:c[i]? =some (k,l)):fD (c.set i (k,iU l d p)) (ts++ [(k,d,p)]):=by
 have hlt:=(Yk.1 hi).1
 have hmap:(c.set i (k,iU l d p)).map (·.1)=c.map (·.1):=by
  apply List.ext_getElem?
  intro j
  rw[Xd,List.getElem?_set,Xd]
  split
  ·rename_i hj;subst hj;first|(rw[if_pos hlt,hi];all_goals rfl)|(rw[hi];all_goals rfl)
  ·rfl
 have hmem:(k,l)∈c:=Yj hi
 refine⟨by rw[hmap];exact h.nodup,fun k'=> ?_,fun e he=> ?_⟩
 ·rw[hmap,h.keys k',List.map_append,List.mem_append]
  constructor
  ·exact .inl
  ·rintro(hh|hh)
   ·exact hh
   ·simp at hh;subst hh;exact(h.keys k').1 (List.mem_map_of_mem hmem)
 ·obtain⟨j,hj⟩:=List.getElem?_of_mem he
  rw[List.getElem?_set]at hj
  split at hj
  ·rename_i hij
   try rw[if_pos (aa)]at hj
   obtain rfl:=Option.some.inj hj
   show iU l d p=_
   rw[pZ,om,←h.vals (k,l) hmem]
  ·rename_i hij
   have hne:k≠e.1:=by
    intro hh
    have h1:(c.map (·.1))[i]? =some k:=by rw[Xd,hi];all_goals rfl
    have h2:(c.map (·.1))[j]? =some k:=by rw[Xd,hj,hh];all_goals rfl
    have hjl:=(Yk.1 hj).1
    exact hij ((List.getElem?_inj (by rw[Yh];exact hlt) h.nodup).1 (h1.trans h2.symm))
   rw[rG hne];exact h.vals e (Yj hj)
theorem pb (a:List Nat):¬a<a:=List.lt_irrefl a
theorem G9 {a b c:List Nat}(h:a<b) (h':b<c):a<c:=List.lt_trans h h'
theorem wD {a b:List Nat}(h:¬a<b) (h':a≠b):b<a:=by
 rw[List.not_lt,List.le_iff_lt_or_eq]at h
 exact h.resolve_right (fun e=> h' e.symm)
def uR (ks:List (List Nat)):Prop:=ks.Pairwise (· < ·)
def wH (k:List Nat):List (List Nat)→List (List Nat)
 | []=> [k]
 |a::r=> if k<a then k::a::r else if k=a then a::r else a::wH k r
def lH (ks:List (List Nat)):List (List Nat):=ks.foldr wH []
theorem tS (k:List Nat):∀(l:List (List Nat)) (x:List Nat),x∈wH k l↔x=k∨x∈l
 | [],x=> by simp[wH]
 |a::r,x=> by
  simp only[wH]
  split
  ·simp
  ·split
   ·rename_i h;subst h;simp
   ·simp only[List.mem_cons,tS k r x];constructor
    ·rintro(h|h|h) <;> simp[h]
    ·rintro(h|h|h) <;> simp[h]
theorem vA (k:List Nat):∀{l:List (List Nat)},uR l→uR (wH k l)
 | [],_=> by simp[wH,uR]
 |a::r,h=> by
  obtain⟨h1,h2⟩:=List.pairwise_cons.1 h
  simp only[wH]
  split
  ·rename_i hk
   refine List.pairwise_cons.2 ⟨fun x hx=> ?_,h⟩
   rcases List.mem_cons.1 hx with rfl|hx
   ·exact hk
   ·exact G9 hk (h1 x hx)
  ·split
   ·exact h
   ·rename_i hk hne
    refine List.pairwise_cons.2 ⟨fun x hx=> ?_,vA k h2⟩
    rcases(tS k r x).1 hx with rfl|hx
    ·exact wD hk hne
    ·exact h1 x hx
theorem jk:∀(ks:List (List Nat)) (x:List Nat),x∈lH ks↔x∈ks
 | [],x=> by simp[lH]
 |k::r,x=> by show x∈wH k (lH r)↔_;rw[tS,jk r x,List.mem_cons]
theorem iz:∀(ks:List (List Nat)),uR (lH ks)
 | []=> by simp[lH,uR]
 |k::r=> vA k (iz r)
theorem tz:∀{a b:List (List Nat)},uR a→uR b→(∀x,x∈a↔x∈b)→a=b
 | [], [],_,_,_=> rfl
 | [],y::b,_,_,h=> by have:=(h y).2 (an);simp at this
 |x::a, [],_,_,h=> by have:=(h x).1 (an);simp at this
 |x::a,y::b,ha,hb,h=> by
  obtain⟨ha1,ha2⟩:=List.pairwise_cons.1 ha
  obtain⟨hb1,hb2⟩:=List.pairwise_cons.1 hb
  have hxy:x=y:=by
   rcases List.mem_cons.1 ((h x).1 (an))with h1|h1
   ·exact h1
   ·rcases List.mem_cons.1 ((h y).2 (an))with h2|h2
    ·exact h2.symm
    ·exact absurd (G9 (hb1 x h1) (ha1 y h2)) (pb y)
  subst hxy
  congr 1
  refine tz ha2 hb2 fun z=> ⟨fun hz=> ?_,fun hz=> ?_⟩
  ·rcases List.mem_cons.1 ((h z).1 (Xa _ hz))with rfl|h1
   ·exact absurd (ha1 z hz) (pb z)
   ·exact h1
  ·rcases List.mem_cons.1 ((h z).2 (Xa _ hz))with rfl|h1
   ·exact absurd (hb1 z hz) (pb z)
   ·exact h1
def dm (ts:List Tri):List (List Nat×List Po):=(lH (ts.map (·.1))).map fun k=> (k,iD (ofK ts k))
structure Bk (R:List (List Nat×List Po)) (ts:List Tri):Prop where
 rise:uR (R.map (·.1))
 keys:∀k,k∈R.map (·.1)↔k∈ts.map (·.1)
 vals:∀e∈R,e.2=iD (ofK ts e.1)
theorem tv (ts:List Tri):(dm ts).map (·.1)=lH (ts.map (·.1)):=by simp[dm,Function.comp_def]
theorem Bk.eq {R:List (List Nat×List Po)}{ts:List Tri}(h:Bk R ts):R=dm ts:=by
 have h1:R.map (·.1)=lH (ts.map (·.1)):=tz h.rise (iz _) fun x=> by rw[h.keys,jk]
 have h2:R=(R.map (·.1)).map fun k=> (k,iD (ofK ts k)):=by
  rw[List.map_map]
  conv=> lhs;rw[←List.map_id R]
  exact List.map_congr_left fun e he=> by show e=(e.1,iD (ofK ts e.1));rw[←h.vals e he]
 rw[h2,h1,dm]
def ltP (a b:Nat×Nat):Prop:=a.1<b.1∨a.1=b.1∧a.2<b.2
def UpT (ts:List Tri):Prop:=∀k,(ofK ts k).Pairwise ltP
theorem vq:∀{l:List Nat}{nb x:Nat},pY nb l→(∀y∈l,y<x)→nb≤x→pY nb (l++ [x])
 | [],nb,x,_,_,h=> ⟨h,trivial⟩
 |y::r,nb,x,hk,hl,_=> ⟨hk.1,vq hk.2 (fun z hz=> hl z (Xa _ hz)) (by have:=hl y (an);omega)⟩
theorem tG:∀{l:List Po}{nb:Nat}{p:Po},fW nb l→dS nb l≤p.1→p.2≠ []→pY 0 p.2→fW nb (l++ [p])
 | [],nb,p,_,h1,h2,h3=> ⟨h1,h2,h3,trivial⟩
 |q::r,nb,p,hk,h1,h2,h3=> by
  rw[iC]at h1
  exact⟨hk.1,hk.2.1,hk.2.2.1,tG hk.2.2.2 h1 h2 h3⟩
theorem vu:∀{l:List Po}{nb:Nat}{p:Po},fW nb (l++ [p])→fW nb l∧dS nb l≤p.1∧p.2≠ []∧pY 0 p.2
 | [],nb,p,h=> ⟨trivial,h.1,h.2.1,h.2.2.1⟩
 |q::r,nb,p,h=> by
  obtain⟨h1,h2⟩:=vu (l:=r) h.2.2.2
  rw[iC]
  exact⟨⟨h.1,h.2.1,h.2.2.1,h1⟩,h2⟩
theorem yJ:∀r:List (Nat×Nat),r.reverse.Pairwise ltP→fW 0 (iD r.reverse)∧∀p∈iD r.reverse,∀x∈p.2,(p.1,x)∈r.reverse
 | [],_=> ⟨trivial,by simp[iD]⟩
 |(d,p)::r,h=> by
  rw[List.reverse_cons]at h⊢
  obtain⟨hp1,_,hp2⟩:=List.pairwise_append.1 h
  have hlt:∀u∈r.reverse,ltP u (d,p):=fun u hu=> hp2 u hu (d,p) (an)
  obtain⟨i1,i2⟩:=yJ r hp1
  rw[om]
  generalize r.reverse=ts at*
  generalize iD ts=l at*
  rcases List.eq_nil_or_concat l with rfl|⟨l',q,hl⟩
  ·refine⟨⟨Yl _,an,⟨Yl _,trivial⟩,trivial⟩,?_⟩
   intro q hq x hx;simp[iU]at hq;subst hq;simp at hx;subst hx;simp
  ·obtain rfl:l=l'++ [q]:=by simpa using hl
   obtain⟨c1,c2,c3,c4⟩:=vu i1
   by_cases he:q.1=d
   ·have hadd:iU (l'++ [q]) d p=l'++ [(d,q.2++ [p])]:=by simp[iU,he]
    rw[hadd]
    have hq:∀y∈q.2,y<p:=fun y hy=> by
     rcases hlt _ (i2 q (an) y hy)with h1|h1
     ·simp at h1;omega
     ·exact h1.2
    refine⟨tG c1 (by show dS 0 l'≤d;omega) (an) (vq c4 hq (Yl _)),?_⟩
    intro r hr x hx
    rcases List.mem_append.1 hr with hr|hr
    ·exact Yy _ (i2 r (Yy _ hr) x hx)
    ·simp at hr;subst hr
     rcases List.mem_append.1 hx with hx|hx
     ·exact Yy _ (by have:=i2 q (an) x hx;rwa [he]at this)
     ·simp at hx;subst hx;simp
   ·have hadd:iU (l'++ [q]) d p=l'++ [q]++ [(d, [p])]:=by simp[iU,he]
    rw[hadd]
    obtain⟨y,hy⟩:=List.exists_mem_of_ne_nil _ c3
    have hqd:q.1<d:=by
     rcases hlt _ (i2 q (an) y hy)with h1|h1
     ·exact h1
     ·exact absurd h1.1 he
    refine⟨tG i1 (by rw[mF];exact hqd) (an) ⟨Yl _,trivial⟩,?_⟩
    intro r hr x hx
    rcases List.mem_append.1 hr with hr|hr
    ·exact Yy _ (i2 r hr x hx)
    ·simp at hr;subst hr;simp at hx;subst hx;simp
theorem JS {ts:List (Nat×Nat)}(h:ts.Pairwise ltP):fW 0 (iD ts)∧∀p∈iD ts,∀x∈p.2,(p.1,x)∈ts:=by
 have:=yJ ts.reverse (by rwa [List.reverse_reverse])
 rwa [List.reverse_reverse]at this
theorem Cn {s:SV}{lo hi j:Nat}(h:lo<s.c):(s.cut 1 lo hi).elt 1 j 0=s.elt 1 (lo+j) 0:=by
 have h2:¬s.c=lo:=aa
 simp only[SV.cut,SV.elt,if_neg h2,Option.map_map]
 cases s.a with
 |none=> rfl
 |some a=>
  by_cases h0:lo=0
  ·subst h0;simp[Addr.add]
  ·simp[Addr.add,h0,Nat.add_assoc]
theorem NB {H:cG}{s:SV}{pre l:List Nat}{lo hi:Nat} [h:Sl H s eB (pre++l)] (h1:pre.length=lo) (h2:hi=lo+l.length):Sl H (s.cut 1 lo hi) eB l:=by
 have:=Sl.cut h (lo:=lo) (hi:=hi) (aa) (aT)
 rw[List.take_of_length_le (aT),←h1,List.drop_left]at this
 rw[←h1]
 exact this
theorem Ja (pre l:List Nat) (j v:Nat):(pre++l).set (pre.length+j) v=pre++l.set j v:=by
 rw[List.set_append,if_neg (aa),Nat.add_sub_cancel_left]
theorem Qt {G:cK}{H R:cG}{s:SV}{pre:List Nat}{m N a w x:Nat} [hr:na H s eB (pre++leB m N) R] (hN:N<2 ^ a) (hm:a+w≤8*m) (hx:x<2 ^ w) (hx40:x<1099511627776) (hm9:m≤10000000000) (hp9:pre.length≤10000000000) (hw:w≤40) (hc:pre.length<s.c∨w=0):SC G Tryz.prog 180 [(s.cut 1 pre.length (pre.length+m)).val, .int .i64 (a:Int), .int .i64 (w:Int), .int .i64 (x:Int)] H (fun v H'=> v= .tuple #[]∧H'=Row s eB (pre++leB m (N+2 ^ a*x))::R):=by
 refine SC.less (gB hr cJ.refl) ?_
 refine sWk Tryz.func180 Tryz.ntmps180 ?_
 refine gk (k:=dt (Nat×(List Nat)) (fun y=> N+2 ^ a*(x % 2 ^ y.1)<2 ^ (a+y.1)∧y.1≤w+8∧y.2=leB m (N+2 ^ a*(x % 2 ^ y.1))) (fun y=> [(8, .int .i64 ((y.1:Nat):Int))]) [(0,_),(1,_),(2,_),(3,_)] (fun y=> [Row s eB (pre++y.2)]) _ (fun y=> w - y.1) ((0,leB m N)) (h0:=?_) (k:=?_))
 ·try dsimp only
  exact⟨by simp[Nat.mod_one];exact hN,aa,by simp[Nat.mod_one]⟩
 rintro⟨d,o⟩ ⟨hd,hdw,ho⟩
 try dsimp only[Yd,Ye]at*
 refine gk (k:=wi_ (k:=fun h1=>?_) (m:=fun h1=>?_))
 ·have hdw2:d<w:=by omega
  have hTm:(a+d) / 8<m:=aa
  have hps:=FB (m:=m) (y:=x / 2 ^ d) hTm hd
  obtain⟨hp1,hp2,hp3,hp4⟩:=hps
  rw[←ho]at hp1 hp3
  have hol:o.length=m:=by rw[ho,eJ]
  have hpc:pre.length<s.c:=aa
  haveI hcs:Sl (Row s eB (pre++o)::R) (s.cut 1 pre.length (pre.length+m)) eB o:=NB rfl (aa)
  have hget:(pre++o)[pre.length+(a+d) / 8]? =some ((N+2 ^ a*(x % 2 ^ d)) / 256 ^ ((a+d) / 8)):=by
   rw[Yu (aa),Nat.add_sub_cancel_left];exact hp3
  have hk8:(a+d) % 8<8:=Nat.mod_lt _ (ag)
  have hk7:2 ^ ((a+d) % 8)≤2 ^ 7:=Nat.pow_le_pow_right (ag) (aa)
  have hxd:x / 2 ^ d≤x:=Nat.div_le_self _ _
  have hsh:x / 2 ^ d*2 ^ ((a+d) % 8)≤x*2 ^ 7:=Nat.mul_le_mul hxd hk7
  have htop:=EB hd
  have hpb:=FD (y:=x / 2 ^ d) htop hk8
  have hplen:(pre++o).length=pre.length+m:=by rw[Ya,hol]
  refine wk_ (qn_ (wb_ (ws_ (wr_ (e_ mv (k:=e_ mv (k:=e_ iad (k:=?_))))))))
  refine e_ (kG rfl rfl (a+d) 8 (aa) rfl (ag)) (k:=?_)
  refine go ?_
  refine df cI (fun i=> [15].contains i) (fun k H=> (k=5→Sl H (s.cut 1 pre.length (pre.length+m)) eB o)∧(k=6→Sl H s eB (pre++o))∧(k=14→Sl H (s.cut 1 pre.length (pre.length+m)) eB o)) (af_ 0 (q:=cD fun H hH=>mv) (k:=af_ 1 (q:=cD fun H hH=>mv) (k:=af_ 2 (q:=cD fun H hH=>mv) (k:=af_ 3 (q:=cD fun H hH=>iad) (k:=?_)))))
  refine cE 4 rfl rfl (a8) rfl (cD fun H hH=>gn rfl rfl (a+d) 8 (aa) rfl (ag) (aq)) (?_)
  refine cE 5 rfl rfl (a8) rfl (cD fun H hH=>by have hN:=hH.1 rfl;exact evq (di rfl rfl ((a+d) / 8) rfl (aa)) (congrArg Value.pointer (Cn hpc))) (?_)
  refine cE 6 rfl rfl (a8) rfl (cD fun H hH=>by have hN:=hH.2.1 rfl;exact lel (hy:=hget)) (?_)
  refine af_ 7 (q:=cD fun H hH=>mv) (k:=af_ 8 (q:=cD fun H hH=>mv) (k:=?_))
  refine cE 9 rfl rfl (a8) rfl (cD fun H hH=>fC rfl rfl x d rfl rfl (by show _≤64;omega)) (?_)
  refine af_ 10 (q:=cD fun H hH=>mv) (k:=?_)
  refine cE 11 rfl rfl (a8) rfl (cD fun H hH=>ud rfl rfl (x / 2 ^ d) ((a+d) % 8) rfl rfl (aa) (aa)) (?_)
  refine cE 12 rfl rfl (a8) rfl (cD fun H hH=>dj 256 rfl rfl rfl _ rfl) (?_)
  refine cE 13 rfl rfl (a8) rfl (cD fun H hH=>evq (iE 256 rfl rfl rfl rfl _ _ rfl rfl (aa) (Nat.mod_lt _ (ag))) (congrArg (fun n:Nat=> Value.int .u8 (n:Int)) hpb)) (?_)
  refine cE 14 rfl rfl (a8) rfl (cD fun H hH=>by have hN:=hH.2.2 rfl;exact evq (di rfl rfl ((a+d) / 8) rfl (aa)) (congrArg Value.pointer (Cn hpc))) (?_)
  refine cN 15 rfl (a8) rfl (fun k hk=> ⟨fun hi=> ab,fun hi=> ab,fun hi=> ab⟩) (dH (s:=s) (i:=pre.length+(a+d) / 8) rfl rfl rfl (aa)) ?_
  rintro _ _ ⟨rfl,rfl⟩
  refine db (a8) (fun k hk=> ⟨fun hi=> absurd hk (ad),fun hi=> absurd hk (ad),fun hi=> absurd hk (ad)⟩) (qn_ (wr_ (?_)))
  rw[Ja,hp1]
  have hstep:N+2 ^ a*(x % 2 ^ d)+2 ^ (a+d)*(x / 2 ^ d % 2 ^ (8 - (a+d) % 8))=N+2 ^ a*(x % 2 ^ (d+(8 - (a+d) % 8))):=by
   rw[←yg x d,Nat.mul_add,Nat.add_assoc,Nat.pow_add,Nat.mul_assoc]
  refine e_ mv (k:=e_ mv (k:=e_ isb (k:=?_)))
  refine e_ (evq iad (congrArg (Value.int .i64) (show _=((d+(8 - (a+d) % 8):Nat):Int)from aa))) (k:=?_)
  refine go ?_
  refine ln_ ((d+(8 - (a+d) % 8),leB m (N+2 ^ a*(x % 2 ^ d)+2 ^ (a+d)*(x / 2 ^ d % 2 ^ (8 - (a+d) % 8))))) (k:=?_)
  try dsimp only
  exact⟨by rw[←hstep,←Nat.add_assoc];exact hp4,aa,by rw[hstep]⟩
 have hxd:x % 2 ^ d=x:=Nat.mod_eq_of_lt (Nat.lt_of_lt_of_le hx (Nat.pow_le_pow_right (ag) (aa)))
 rw[hxd]at ho
 rw[ho]
 refine gk (k:=rt_ Tryz.results180 (k:=?_))
 exact⟨_,hsb,rfl,rfl⟩
theorem AE (ns:List Nat):l9 (cV ns)=false:=by
 rw[kf];intro i x h
 exact Be ns x (Yj h)
section
variable {G:cK}{P:Program}{N:Nat}{Q:Post}{t:Tm}{H:cG}{ops:Array Oper}{l:List Oper}
theorem OA (s:SV) {α:Type}{e:Enc α}{xs:List α} [hs:Sl H s e xs] (h:xs.length≤s.c→O G P N ops l Q t H):O G P N ops l Q t H:=
 ⟨fun a w ha hw=> (h (by obtain⟨h1,h2,_⟩:=hs.get hw;omega)).go a w ha hw⟩
end
theorem Gk (m:Nat):leB m 0=List.replicate m 0:=by
 apply List.ext_getElem?
 intro j
 by_cases h:j<m
 ·rw[oe h,List.getElem?_replicate,if_pos h];simp
 ·rw[List.getElem?_eq_none (by rw[eJ];omega),List.getElem?_eq_none (by rw[Xe];omega)]
theorem wc {G:cK}{H R:cG}{b:Nat}{xs:List Nat}{s:SV}{ns:List Nat} [hg:Glb G R] [hr:Rem H Wr b xs R] [hs:Sl R s eI (cV ns)] (hn:xs.length≤1000000000) (hm:ns.length≤100000000) (hl:∀x∈ns,x<1099511627776) (hw0:dX (orL ns)=0→ns.length≤65536):SC G Tryz.prog 146 [.pointer (some ⟨b,0,none⟩),s.val] H (fun v H'=> v= .nilIface∧H'=Wr b (xs++dJ ns)::R):=by
 have hlen:=dO ns
 have hbl:=AE ns
 refine SC.rem (h:=hr) ?_
 refine sWk Tryz.func146 Tryz.ntmps146 ?_
 refine ws_ (wr_ (e_ asn (k:=on_ (qn_ (ws_ (ws_ (wr_ (e_ mv (k:=?_)))))))))
 refine d1_ rfl (zy (aa)) (k:=?_)
 rw[hbl]
 refine on_ (qn_ (wi_ (k:=fun h1=>?_) (m:=fun h1=>?_)))
 ·exact absurd h1 (ag)
 refine wk_ (qn_ (ws_ (wr_ (e_ asn (k:=on_ (qn_ (ws_ (ws_ (wr_ (e_ mv (k:=e_ lnn (k:=e_ mv (k:=on_ (?_))))))))))))))
 refine qn_ (wb_ (dt (Nat) (fun y=> y≤ns.length) (fun y=> [(5, .int .i64 ((orL (ns.take y):Nat):Int)),(17, .int .i64 ((y:Nat):Int))]) [(0,_),(1,_),(15,_),(16,_)] (fun y=> []) _ (fun y=> ns.length - y) (0) (h0:=?_) (k:=?_)))
 ·try dsimp only
  exact Yl _
 rintro i hi
 try dsimp only[Yd,Ye]at*
 refine ws_ (wr_ (e_ ilt (k:=on_ (qn_ (ws_ (wi_ (k:=fun h2=>?_) (m:=fun h2=>?_)))))))
 ·obtain⟨x,hx⟩:∃x,ns[i]? =some x:=⟨_,Yi (aa)⟩
  have hxi:=ez hx
  have hx40:=hl x (Yj hx)
  have ho:orL (ns.take i)<2 ^ 40:=nQ (ag) fun y hy=> hl y (Yq hy)
  refine wk_ (qn_ (ws_ (wb_ (ws_ (wr_ (e_ ixa (k:=e_ lel (k:=e_ asn (k:=on_ (qn_ (wr_ (e_ mv (k:=e_ mv (k:=?_))))))))))))))
  refine e_ (evq (wS rfl rfl (orL (ns.take i)) x rfl rfl (aa) (aa)) (congrArg (fun n:Nat=> Value.int .i64 (n:Int)) (yn hx).symm)) (k:=?_)
  refine e_ asn (k:=on_ (bn_ (qn_ (wr_ (e_ iad (k:=e_ mv (k:=on_ (?_))))))))
  refine ln_ (i+1) (k:=?_)
  try dsimp only
  omega
 obtain rfl:i=ns.length:=aa
 rw[List.take_length]
 have ho:orL ns<2 ^ 40:=nQ (ag) hl
 refine we_ (qe_ (le_ (bh_ (qn_ (ws_ (wr_ (e_ mv (k:=?_))))))))
 refine e_ (cU 18446744073709551616 rfl rfl rfl (orL ns) rfl (aa)) (k:=?_)
 refine d1_ rfl (NY (aa)) (k:=?_)
 obtain⟨W,hW⟩:∃W,W=dX (orL ns):=⟨_,rfl⟩
 rw[←hW]
 have hW40:W≤40:=by rw[hW,fZ];exact ho
 have hxW:∀x∈ns,x<2 ^ W:=fun x hx=> by rw[hW];exact FM hx
 have hul:=fq (n:=ns.length) (aa)
 refine e_ asn (k:=on_ (qn_ (ws_ (ws_ (wr_ (e_ mv (k:=e_ ieq (k:=e_ mv (k:=dh 4 34 (k:=fun h3=>eg_ mv (k:=eg_ lnn (k:=eg_ igt (k:=e_ pkt (k:=on_ (edq)))))) (q:=on_ (qn_ (wi_ (k:=fun h4=>?_) (m:=fun h4=>?_)))))))))))))
 ·obtain⟨c1,c2⟩:=h4
  exfalso;rw[←hW]at hw0;have:=hw0 (aa);omega
 refine wk_ (qn_ (ws_ (wr_ (e_ mv (k:=e_ mv (k:=e_ lnn (k:=?_)))))))
 refine e_ ((ae)) (k:=?_)
 refine d2_ rfl (ek (cV ns).length (aa) (aa)) (k:=?_)
 rw[hlen]
 refine on_ (qn_ (ws_ (ws_ (wr_ (e_ mv (k:=e_ lnn (k:=e_ ieq (k:=on_ (qn_ (wi_ (k:=fun h5=>?_) (m:=fun h5=>?_)))))))))))
 ·have hnil:ns= []:=List.eq_nil_of_length_eq_zero (aa)
  refine ws_ (wr_ (e_ asn (k:=on_ (qn_ (wt_ (qr_ (rt_ Tryz.results146 (k:=?_))))))))
  exact⟨_,hsb,rfl,by rw[dJ,if_pos hnil,Ym]⟩
 have hne:¬ns= []:=fun h=> by have h9:=h5;rw[hlen,h]at h9;exact h9 rfl
 refine wk_ (qn_ (ws_ (wr_ (e_ mv (k:=e_ mv (k:=?_))))))
 refine e_ (cU 256 rfl rfl rfl W rfl (aa)) (k:=?_)
 refine d2_ rfl (ny W (ai)) (k:=on_ (qn_ (ws_ (wr_ (?_)))))
 refine FT b fun sw=> ?_
 have hnW:ns.length*W≤ns.length*40:=Nat.mul_le_mul_left _ hW40
 have hcast:((cV ns).length:Int)*(W:Int)=((ns.length*W:Nat):Int):=by rw[hlen];simp
 refine e_ mv (k:=e_ nck (k:=e_ fla (k:=e_ ldv (k:=e_ lnn (k:=e_ asn (k:=on_ (qn_ (ws_ (wr_ (e_ mv (k:=e_ mv (k:=e_ nck (k:=e_ fla (k:=?_))))))))))))))
 refine e_ ldv (k:=e_ mv (k:=e_ lnn (k:=e_ mv (k:=e_ iml (k:=e_ iad (k:=?_))))))
 refine e_ (gn rfl rfl (ns.length*W+7) 8 (aa) rfl (ag) (aq)) (k:=?_)
 refine s_ (tj (T3:=9) rfl rfl rfl (by simp only[Ya,Yb,Yc];omega) (by simp only[Ya,Yb,Yc];omega) inferInstance) (k:=?_)
 rintro _ _ ⟨s64,rfl,rfl⟩
 obtain⟨m,hm8⟩:∃m,m=(ns.length*W+7) / 8:=⟨_,rfl⟩
 obtain⟨pre,hpre⟩:∃pre,pre=xs++uv ns.length++ [W]:=⟨_,rfl⟩
 rw[←hm8,←hpre,←Gk]
 have hpl:pre.length≤1000000011:=by rw[hpre];simp only[Ya,Yb,Yc];omega
 refine OA s64 fun hcap=> ?_
 rw[Ya,eJ]at hcap
 refine e_ nck (k:=e_ fla (k:=sto (k:=on_ (qn_ (ws_ (ws_ (wr_ (e_ mv (k:=e_ lnn (k:=e_ mv (k:=on_ (qn_ (wb_ (?_))))))))))))))
 refine dt (Nat×(List Nat)) (fun y=> y.1≤ns.length∧y.2=leB m (gj W (ns.take y.1))) (fun y=> [(69, .int .i64 ((y.1:Nat):Int))]) [(0,_),(8,_),(9,_),(67,_),(68,_)] (fun y=> [Row s64 eB (pre++y.2)]) _ (fun y=> ns.length - y.1) ((0,leB m 0)) (h0:=?_) (k:=?_)
 ·try dsimp only
  exact⟨Yl _,rfl⟩
 rintro⟨i,o⟩ ⟨hi,ho2⟩
 try dsimp only[Yd,Ye]at*
 refine ws_ (wr_ (e_ ilt (k:=on_ (qn_ (ws_ (wi_ (k:=fun h6=>?_) (m:=fun h6=>?_)))))))
 ·obtain⟨x,hx⟩:∃x,ns[i]? =some x:=⟨_,Yi (aa)⟩
  have hxi:=ez hx
  have hx40:=hl x (Yj hx)
  have hxw:=hxW x (Yj hx)
  have hol:(pre++o).length=pre.length+m:=by rw[Ya,ho2,eJ]
  have hiW:i*W≤i*40:=Nat.mul_le_mul_left _ hW40
  have hi1:(i+1)*W≤ns.length*W:=Nat.mul_le_mul_right _ (aa)
  have hi2:(i+1)*W=i*W+W:=by rw[Nat.add_mul,Nat.one_mul]
  have hci:(i:Int)*(W:Int)=((i*W:Nat):Int):=an
  have hNi:gj W (ns.take i)<2 ^ (i*W):=by
   have:=yl (w:=W) (l:=ns.take i) fun y hy=> hxW y (Yq hy)
   rwa [Yg,Nat.min_eq_left hi,Nat.mul_comm]at this
  have hcp:pre.length<s64.c∨W=0:=aa
  refine wk_ (qn_ (ws_ (wb_ (ws_ (wr_ (e_ mv (k:=e_ ixa (k:=e_ lel (k:=e_ asn (k:=e_ asn (k:=on_ (qn_ (wr_ (?_))))))))))))))
  rw[ho2]
  refine e_ mv (k:=e_ nck (k:=e_ fla (k:=e_ ldv (k:=e_ mv (k:=?_)))))
  refine e_ (eL rfl (bQ) pre.length (pre.length+m) ⟨_,_,rfl,by rw[hpre]⟩ (by rw[Ya,eJ]) (aa) (by rw[Ya,eJ];exact Nat.le_refl _)) (k:=?_)
  refine e_ mv (k:=e_ mv (k:=?_))
  refine e_ (evq iml (congrArg (Value.int .i64) hci)) (k:=?_)
  refine e_ mv (k:=e_ mv (k:=?_))
  refine cp_ (vs:=[_,_,_,_]) rfl (Qt (pre:=pre) (m:=m) (N:=gj W (ns.take i)) (a:=i*W) (w:=W) (x:=x) hNi (aa) hxw hx40 (aa) (aa) hW40 hcp) (k:=?_)
  rw[Nat.mul_comm i W,←Ao hx]
  refine on_ (bn_ (qn_ (wr_ (e_ iad (k:=e_ mv (k:=on_ (?_)))))))
  refine ln_ ((i+1,leB m (gj W (ns.take (i+1))))) (k:=?_)
  try dsimp only
  exact⟨aa,rfl⟩
 obtain rfl:i=ns.length:=aa
 rw[List.take_length]at ho2
 have hres:dJ ns=uv ns.length++ [W]++leB m (gj W ns):=by
  rw[dJ,if_neg hne,←hW,BS,hm8];simp
 have hfin:xs++dJ ns=pre++o:=by rw[hres,hpre,ho2];simp
 refine we_ (qe_ (le_ (bh_ (qn_ (ws_ (wr_ (e_ asn (k:=on_ (qn_ (wt_ (rt_ Tryz.results146 (k:=?_))))))))))))
 rw[hfin]
 exact⟨_,hsb,rfl,rfl⟩
end Go.Sx
