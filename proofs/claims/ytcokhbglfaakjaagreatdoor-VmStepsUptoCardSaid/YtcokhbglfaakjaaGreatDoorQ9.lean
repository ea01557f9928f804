import Derived.Test.YtcokhbglfaakjaaGreatDoorQ8
set_option linter.all false
set_option maxHeartbeats 0
namespace Go.Sx
open Go Go.Proofs
set_option maxRecDepth 100000
section
variable {i:Nat}
structure En where
 key:ByteArray
 docs:Nat
 tot:Nat
 at_:Nat
 size:Nat
def eY:List Nat→List Nat→Nat
 |a::x,b::y=>if a=b then eY x y+1 else 0
 |_,_=>0
def oX (prev:List Nat) (e:En):List Nat:=uv (eY prev (dC e.key))++(uv ((dC e.key).length-eY prev (dC e.key))++(dC e.key).drop (eY prev (dC e.key)))++(uv e.docs++uv e.tot++uv e.at_++uv e.size)
def fe:List Nat→List En→List Nat
 |_, []=>[]
 |prev,e::r=>oX prev e++fe (dC e.key) r
def nk (prev:List Nat) (l:List En):List Nat:=match l.getLast? with|none=>prev|some e=>dC e.key
def gB (l:List En) (k:Nat):List En:=(l.take (16*k+16)).drop (16*k)
def eH (l:List En):Nat→List Nat×List Nat
 | 0=>([], [])
 |k+1=>((eH l k).1++uv (fe [] (gB l k)).length,(eH l k).2++fe [] (gB l k))
def gO (l:List En):Nat:=(l.length+15)/16
def iC (l:List En):List Nat:=uv l.length++(eH l (gO l)).1++(eH l (gO l)).2
def w9 (l:List En):Prop:=(∀e∈l,1≤e.key.size∧e.key.size≤65∧e.docs≤2147483647∧e.tot≤2147483647∧e.at_≤2147483647∧e.size≤2147483647)∧∀i a b,l[i]? =some a→l[i+1]? =some b→dC a.key<dC b.key
theorem qP (b:List Nat):eY [] b=0:=by cases b <;> rfl
theorem n6:∀a b:List Nat,eY a b≤a.length∧eY a b≤b.length
 | [],b=>by simp[qP]
 |a::x, []=>by simp[eY]
 |a::x,b::y=>by
  have:=n6 x y;simp only[eY,Yb]
  split <;> omega
theorem tG:∀a b:List Nat,a.take (eY a b)=b.take (eY a b)
 | [],b=>by simp[qP]
 |a::x, []=>by simp[eY]
 |a::x,b::y=>by
  simp only[eY]
  split
  ·rename_i h;rw[Vq,Vq,tG x y,h]
  ·simp
theorem pG:∀{a b:List Nat}{k:Nat},k≤a.length→k≤b.length→(∀j,j<k→at0 a j=at0 b j)→(k=a.length∨k=b.length∨at0 a k≠at0 b k)→eY a b=k
 | [],b,k,h1,_,_,_=>by simp at h1;subst h1;exact qP b
 |a::x, [],k,_,h2,_,_=>by simp at h2;subst h2;rfl
 |a::x,b::y,0,_,_,_,h=>by
  rcases h with h|h|h
  ·simp at h
  ·simp at h
  ·simp only[eY];rw[if_neg (by simpa [at0] using h)]
 |a::x,b::y,k+1,h1,h2,hj,h=>by
  have h0:a=b:=by simpa [at0] using hj 0 a8
  simp only[eY];rw[if_pos h0];rw[pG (a:=x) (b:=y) (k:=k) dt cD (λj hlt=>by simpa [at0] using hj (j+1) a8) (by simpa [at0] using h)]
theorem Ir (p:List Nat):nk p []=p:=rfl
theorem EP (p:List Nat) (l:List En) (e:En):nk p (l++ [e])=dC e.key:=by simp[nk]
theorem ER (p:List Nat) (e:En) (l:List En):nk p (e::l)=nk (dC e.key) l:=by
 cases l with
 |nil=>rfl
 |cons q l=>
  have h:(q::l).getLast? ≠none:=aq;simp only[nk,List.getLast?_cons_cons];cases hc:(q::l).getLast? with
  |none=>exact absurd hc h
  |some r=>rfl
theorem rN:∀(a b:List En) (p:List Nat),fe p (a++b)=fe p a++fe (nk p a) b
 | [],b,p=>by simp[fe,Ir]
 |e::a,b,p=>by rw[Yd,fe,rN a b,ER,fe,Yf]
theorem qe {l:List En}{e:En}(h:l[i]? =some e) (p:List Nat):fe p (l.take (i+1))=fe p (l.take i)++oX (nk p (l.take i)) e:=by
 rw[dK h,rN];simp[fe]
theorem sW {l:List En}{e:En}(h:l[i]? =some e) (p:List Nat):nk p (l.take (i+1))=dC e.key:=by
 rw[dK h,EP]
theorem ri (l:List En) (k:Nat):(gB l k).length=min (16*k+16) l.length-16*k:=by simp[gB]
theorem DL (l:List En) (k i:Nat) (h:i<16):(gB l k)[i]? =l[16*k+i]? :=by
 rw[gB,Xh,X3,if_pos a8]
theorem DK {l:List En}{k:Nat}{e:En}(h:e∈gB l k):e∈l:=Yq (Yp h)
def lV (l:List En):Prop:=∀e∈l,e.key.size≤1000∧e.docs<1099511627776∧e.tot<1099511627776∧e.at_<1099511627776∧e.size<1099511627776
theorem Di {prev:List Nat}{e:En}(h:e.key.size≤1000∧e.docs<1099511627776∧e.tot<1099511627776∧e.at_<1099511627776∧e.size<1099511627776):(oX prev e).length≤1040:=by
 have h0:=n6 prev (dC e.key);have hb:=dI e.key;have h1:=gb (n:=eY prev (dC e.key)) (k:=6) a8 a8;have h2:=gb (n:=(dC e.key).length-eY prev (dC e.key)) (k:=6) a8 a8;have h3:=gb (n:=e.docs) (k:=6) h.2.1 a8;have h4:=gb (n:=e.tot) (k:=6) h.2.2.1 a8;have h5:=gb (n:=e.at_) (k:=6) h.2.2.2.1 a8;have h6:=gb (n:=e.size) (k:=6) h.2.2.2.2 a8;simp only[oX,Ya,Yo];omega
theorem oW:∀{l:List En}{p:List Nat},lV l→(fe p l).length≤1040*l.length
 | [],_,_=>by simp[fe]
 |e::r,p,h=>by
  have h1:=Di (prev:=p) (h e aq);have h2:=oW (p:=dC e.key) (λx hx=>h x (Xa _ hx));simp only[fe,Ya,Yb];omega
theorem qN {l:List En}(h:lV l) (k:Nat):lV (gB l k):=λe he=>h e (DK he)
theorem AB {l:List En}(h:lV l) (i:Nat):lV (l.take i):=λe he=>h e (Yq he)
theorem qf {l:List En}(h:lV l):∀k,(eH l k).1.length≤6*k∧(eH l k).2.length≤16640*k
 | 0=>by simp[eH]
 |k+1=>by
  obtain⟨h1,h2⟩:=qf h k;have h3:=oW (p:= []) (qN h k);have h4:=ri l k;have h5:=gb (n:=(fe [] (gB l k)).length) (k:=6) a8 a8;simp only[eH,Ya];omega
theorem IV {l:List En}(h:lV l) (hn:l.length<1099511627776):(iC l).length≤20000+1100*l.length:=by
 obtain⟨h1,h2⟩:=qf h (gO l);have h3:=gb (n:=l.length) (k:=6) hn a8;have h5:16*gO l≤l.length+15:=cS;simp only[iC,Ya];omega
theorem xF {l:List En}(h:w9 l):lV l:=λe he=>by
 obtain⟨_,h2,h3,h4,h5,h6⟩:=h.1 e he;exact⟨a8,a8,a8,a8,a8⟩
theorem Dg:∀(l:List En) (p:List Nat),∀x∈fe p l,x<256
 | [],_,x,hx=>by simp[fe]at hx
 |e::r,p,x,hx=>by
  simp only[fe,oX,Xm]at hx;rcases hx with((hx|hx|hx)|((hx|hx)|hx)|hx)|hx
  ·exact kz _ x hx
  ·exact kz _ x hx
  ·exact lZ _ x (Yp hx)
  ·exact kz _ x hx
  ·exact kz _ x hx
  ·exact kz _ x hx
  ·exact kz _ x hx
  ·exact Dg r _ x hx
theorem zW (l:List En):∀k,(∀x∈(eH l k).1,x<256)∧∀x∈(eH l k).2,x<256
 | 0=>by simp[eH]
 |k+1=>by
  obtain⟨h1,h2⟩:=zW l k
  constructor
  ·intro x hx;rcases Xm.1 hx with hx|hx
   ·exact h1 x hx
   ·exact kz _ x hx
  ·intro x hx;rcases Xm.1 hx with hx|hx
   ·exact h2 x hx
   ·exact Dg _ _ x hx
theorem Dx (l:List En):∀x∈iC l,x<256:=by
 intro x hx;obtain⟨h1,h2⟩:=zW l (gO l);rcases Xm.1 hx with hx|hx
 ·rcases Xm.1 hx with hx|hx
  ·exact kz _ x hx
  ·exact h1 x hx
 ·exact h2 x hx
end
section
variable {c:List (List Nat×List Po)}{d p:Nat}{k:List Nat}
abbrev Tri:=List Nat×Nat×Nat
def fI (l:List Po) (d p:Nat):List Po:=match l.getLast? with
 |some q=>if q.1=d then l.dropLast++ [(d,q.2++ [p])]else l++ [(d, [p])]
 |none=>[(d, [p])]
def jI (ts:List (Nat×Nat)):List Po:=ts.foldl (λl t=>fI l t.1 t.2) []
def ofK (ts:List Tri) (k:List Nat):List (Nat×Nat):=(ts.filter λt=>decide (t.1=k)).map (·.2)
theorem mT (a:List (Nat×Nat)) (d p:Nat):jI (a++ [(d,p)])=fI (jI a) d p:=by simp[jI]
theorem mG (a:List Tri) (k:List Nat) (d p:Nat):ofK (a++ [(k,d,p)]) k=ofK a k++ [(d,p)]:=by simp[ofK]
theorem nU {a:List Tri}{k':List Nat}(h:k'≠k):ofK (a++ [(k',d,p)]) k=ofK a k:=by simp[ofK,h]
theorem tQ {a:List Tri}(h:k ∉ a.map (·.1)):ofK a k= []:=by
 simp only[ofK,List.map_eq_nil_iff,List.filter_eq_nil_iff,Xq];intro t b he;exact h (he ▸ Vj b)
theorem M5:jI []= []:=rfl
theorem J5 (d p:Nat):fI [] d p= [(d, [p])]:=rfl
structure iE (c:List (List Nat×List Po)) (ts:List Tri):Prop where
 nodup:(c.map (·.1)).Nodup
 keys:∀k,k∈c.map (·.1)↔k∈ts.map (·.1)
 vals:∀e∈c,e.2=jI (ofK ts e.1)
theorem iE.nil:iE [] []:=⟨aq,aq,aq⟩
theorem iE.new {i:List Tri}(h:iE c i) (hk:k ∉ c.map (·.1)):iE (c++ [(k, [(d, [p])])]) (i++ [(k,d,p)]):=by
 refine⟨?_,λl=>?_,λe he=>?_⟩
 ·rw[Xp,List.nodup_append];refine⟨h.nodup,aq,λa ha b j=>?_⟩;simp at j;subst j;rintro rfl;exact hk ha
 ·simp only[Xp,Xm,h.keys l,Xs,Ud]
 ·rcases Xm.1 he with he|he
  ·have f:k≠e.1:=λg=>hk (g ▸ Vj he);rw[nU f];exact h.vals e he
  ·simp at he;subst he;rw[mG,mT,tQ (λg=>hk ((h.keys k).2 g)),M5,J5]
theorem iE.old {n:List Tri}{l:List Po}{i:Nat}(h:iE c n) (hi:c[i]? =some (k,l)):iE (c.set i (k,fI l d p)) (n++ [(k,d,p)]):=by
 have f:=(Yk.1 hi).1;have b:(c.set i (k,fI l d p)).map (·.1)=c.map (·.1):=by
  apply Vz;intro j;rw[Xd,Vf,Xd]
  split
  ·rename_i hj;subst hj;first|(rw[if_pos f,hi];rfl)|(rw[hi];rfl)
  ·rfl
 have a:(k,l)∈c:=Yj hi;refine⟨by rw[b];exact h.nodup,λq=>?_,λe he=>?_⟩
 ·rw[b,h.keys q,Xp,Xm]
  constructor
  ·exact .inl
  ·rintro(hh|hh)
   ·exact hh
   ·simp at hh;subst hh;exact(h.keys q).1 (Vj a)
 ·obtain⟨j,hj⟩:=Vo he;rw[Vf]at hj
  split at hj
  ·rename_i g
   try rw[if_pos a8]at hj
   obtain rfl:=Xk hj;show fI l d p=_;rw[mG,mT,←h.vals (k,l) a]
  ·rename_i g;have m:k≠e.1:=by
    intro hh;have h1:(c.map (·.1))[i]? =some k:=by rw[Xd,hi];rfl
    have h2:(c.map (·.1))[j]? =some k:=by rw[Xd,hj,hh];rfl
    have hjl:=(Yk.1 hj).1;exact g ((S1 (by rw[Yh];exact f) h.nodup).1 (h1.trans h2.symm))
   rw[nU m];exact h.vals e (Yj hj)
theorem ni (a:List Nat):¬a<a:=List.lt_irrefl a
theorem zw {a b c:List Nat}(h:a<b) (d:b<c):a<c:=List.lt_trans h d
theorem v7 {a b:List Nat}(h:¬a<b) (c:a≠b):b<a:=by
 rw[List.not_lt,List.le_iff_lt_or_eq]at h;exact h.resolve_right (λe=>c e.symm)
def tm (ks:List (List Nat)):Prop:=ks.Pairwise (· < ·)
def AY (k:List Nat):List (List Nat)→List (List Nat)
 | []=>[k]
 |a::r=>if k<a then k::a::r else if k=a then a::r else a::AY k r
def oA (ks:List (List Nat)):List (List Nat):=ks.foldr AY []
theorem xU (k:List Nat):∀(l:List (List Nat)) (x:List Nat),x∈AY k l↔x=k∨x∈l
 | [],x=>by simp[AY]
 |a::r,x=>by
  simp only[AY]
  split
  ·simp
  ·split
   ·rename_i h;subst h;simp
   ·simp only[Xo,xU k r x];constructor
    ·rintro(h|h|h) <;> simp[h]
    ·rintro(h|h|h) <;> simp[h]
theorem zy (k:List Nat):∀{l:List (List Nat)},tm l→tm (AY k l)
 | [],_=>by simp[AY,tm]
 |a::r,h=>by
  obtain⟨h1,h2⟩:=Vl.1 h;simp only[AY]
  split
  ·rename_i hk;refine Vl.2 ⟨λx hx=>?_,h⟩;rcases Xo.1 hx with rfl|hx
   ·exact hk
   ·exact zw hk (h1 x hx)
  ·split
   ·exact h
   ·rename_i hk b;refine Vl.2 ⟨λx hx=>?_,zy k h2⟩;rcases(xU k r x).1 hx with rfl|hx
    ·exact v7 hk b
    ·exact h1 x hx
theorem lJ:∀(ks:List (List Nat)) (x:List Nat),x∈oA ks↔x∈ks
 | [],x=>by simp[oA]
 |k::r,x=>by show x∈AY k (oA r)↔_;rw[xU,lJ r x,Xo]
theorem kN:∀(ks:List (List Nat)),tm (oA ks)
 | []=>by simp[oA,tm]
 |k::r=>zy k (kN r)
theorem xm:∀{a b:List (List Nat)},tm a→tm b→(∀x,x∈a↔x∈b)→a=b
 | [], [],_,_,_=>rfl
 | [],y::b,_,_,h=>by have:=(h y).2 aq;simp at this
 |x::a, [],_,_,h=>by have:=(h x).1 aq;simp at this
 |x::a,y::b,ha,hb,h=>by
  obtain⟨e,i⟩:=Vl.1 ha;obtain⟨d,g⟩:=Vl.1 hb;have f:x=y:=by
   rcases Xo.1 ((h x).1 aq)with h1|h1
   ·exact h1
   ·rcases Xo.1 ((h y).2 aq)with h2|h2
    ·exact h2.symm
    ·exact absurd (zw (d x h1) (e y h2)) (ni y)
  subst f;congr 1;refine xm i g λz=>⟨λc=>?_,λc=>?_⟩
  ·rcases Xo.1 ((h z).1 (Xa _ c))with rfl|h1
   ·exact absurd (e z c) (ni z)
   ·exact h1
  ·rcases Xo.1 ((h z).2 (Xa _ c))with rfl|h1
   ·exact absurd (d z c) (ni z)
   ·exact h1
def eE (ts:List Tri):List (List Nat×List Po):=(oA (ts.map (·.1))).map λk=>(k,jI (ofK ts k))
structure rn (R:List (List Nat×List Po)) (ts:List Tri):Prop where
 rise:tm (R.map (·.1))
 keys:∀k,k∈R.map (·.1)↔k∈ts.map (·.1)
 vals:∀e∈R,e.2=jI (ofK ts e.1)
theorem xj (a:List Tri):(eE a).map (·.1)=oA (a.map (·.1)):=by simp[eE,Function.comp_def]
theorem rn.eq {R:List (List Nat×List Po)}{a:List Tri}(h:rn R a):R=eE a:=by
 have h1:R.map (·.1)=oA (a.map (·.1)):=xm h.rise (kN _) λx=>by rw[h.keys,lJ]
 have h2:R=(R.map (·.1)).map λk=>(k,jI (ofK a k)):=by
  rw[Uo]
  conv=>lhs;rw[←P0 R]
  exact T1 λe he=>by show e=(e.1,jI (ofK a e.1));rw[←h.vals e he]
 rw[h2,h1,eE]
def ltP (a b:Nat×Nat):Prop:=a.1<b.1∨a.1=b.1∧a.2<b.2
def UpT (ts:List Tri):Prop:=∀k,(ofK ts k).Pairwise ltP
theorem zm:∀{l:List Nat}{nb x:Nat},tP nb l→(∀y∈l,y<x)→nb≤x→tP nb (l++ [x])
 | [],nb,x,_,_,h=>⟨h,trivial⟩
 |y::r,nb,x,hk,hl,_=>⟨hk.1,zm hk.2 (λz a=>hl z (Xa _ a)) (by have:=hl y aq;omega)⟩
theorem xE:∀{l:List Po}{nb:Nat}{p:Po},j5 nb l→fB nb l≤p.1→p.2≠ []→tP 0 p.2→j5 nb (l++ [p])
 | [],nb,p,_,h1,h2,h3=>⟨h1,h2,h3,trivial⟩
 |q::r,nb,p,hk,h1,h2,h3=>by
  rw[kQ]at h1;exact⟨hk.1,hk.2.1,hk.2.2.1,xE hk.2.2.2 h1 h2 h3⟩
theorem zo:∀{l:List Po}{nb:Nat}{p:Po},j5 nb (l++ [p])→j5 nb l∧fB nb l≤p.1∧p.2≠ []∧tP 0 p.2
 | [],nb,p,h=>⟨trivial,h.1,h.2.1,h.2.2.1⟩
 |q::r,nb,p,h=>by
  obtain⟨h1,h2⟩:=zo (l:=r) h.2.2.2;rw[kQ];exact⟨⟨h.1,h.2.1,h.2.2.1,h1⟩,h2⟩
theorem D2:∀r:List (Nat×Nat),r.reverse.Pairwise ltP→j5 0 (jI r.reverse)∧∀p∈jI r.reverse,∀x∈p.2,(p.1,x)∈r.reverse
 | [],_=>⟨trivial,by simp[jI]⟩
 |(d,p)::r,h=>by
  rw[List.reverse_cons]at h⊢;obtain⟨j,_,i⟩:=Uj.1 h;have e:∀u∈r.reverse,ltP u (d,p):=λu m=>i u m (d,p) aq;obtain⟨k,c⟩:=D2 r j;rw[mT];generalize r.reverse=ts at*;generalize jI ts=l at*;rcases X4 l with rfl|⟨b,q,hl⟩
  ·refine⟨⟨Yl _,aq,⟨Yl _,trivial⟩,trivial⟩,?_⟩;intro q f x hx;simp[fI]at f;subst f;simp at hx;subst hx;simp
  ·obtain rfl:l=b++ [q]:=by simpa using hl
   obtain⟨t,c2,s,n⟩:=zo k
   by_cases he:q.1=d
   ·have a:fI (b++ [q]) d p=b++ [(d,q.2++ [p])]:=by simp[fI,he]
    rw[a];have f:∀y∈q.2,y<p:=λy hy=>by
     rcases e _ (c q aq y hy)with h1|h1
     ·simp at h1;omega
     ·exact h1.2
    refine⟨xE t (by show fB 0 b≤d;omega) aq (zm n f (Yl _)),?_⟩;intro r hr x hx;rcases Xm.1 hr with hr|hr
    ·exact Yy _ (c r (Yy _ hr) x hx)
    ·simp at hr;subst hr;rcases Xm.1 hx with hx|hx
     ·exact Yy _ (by have:=c q aq x hx;rwa [he]at this)
     ·simp at hx;subst hx;simp
   ·have a:fI (b++ [q]) d p=b++ [q]++ [(d, [p])]:=by simp[fI,he]
    rw[a];obtain⟨y,hy⟩:=List.exists_mem_of_ne_nil _ s;have g:q.1<d:=by
     rcases e _ (c q aq y hy)with h1|h1
     ·exact h1
     ·exact absurd h1.1 he
    refine⟨xE k (by rw[pR];exact g) aq ⟨Yl _,trivial⟩,?_⟩;intro r hr x hx;rcases Xm.1 hr with hr|hr
    ·exact Yy _ (c r hr x hx)
    ·simp at hr;subst hr;simp at hx;subst hx;simp
theorem Pw {a:List (Nat×Nat)}(h:a.Pairwise ltP):j5 0 (jI a)∧∀p∈jI a,∀x∈p.2,(p.1,x)∈a:=by
 have:=D2 a.reverse (by rwa [S0])
 rwa [S0]at this
end
open Tryz
section
variable {pre:List Nat}{s:SV}
theorem Ha {lo hi j:Nat}(h:lo<s.c):(s.cut 1 lo hi).elt 1 j 0=s.elt 1 (lo+j) 0:=by
 have h2:¬s.c=lo:=a8;simp only[SV.cut,SV.elt,if_neg h2,Option.map_map];cases s.a with
 |none=>rfl
 |some a=>
  by_cases h0:lo=0
  ·subst h0;simp[Addr.add]
  ·simp[Addr.add,h0,V0]
theorem UI {H:dD}{l:List Nat}{lo hi:Nat} [h:Sl H s eB (pre++l)] (h1:pre.length=lo) (h2:hi=lo+l.length):Sl H (s.cut 1 lo hi) eB l:=by
 have:=Sl.cut h (lo:=lo) (hi:=hi) a8 bz;rw[Xr bz,←h1,Vg]at this;rw[←h1];exact this
theorem Oi (pre l:List Nat) (j v:Nat):(pre++l).set (pre.length+j) v=pre++l.set j v:=by
 rw[List.set_append,if_neg a8,Q4]
theorem ZW {G:dJ}{H R:dD}{m N a w x:Nat} [hr:mh H s eB (pre++leB m N) R] (hN:N<2^a) (hm:a+w≤8*m) (hx:x<2^w) (hx40:x<1099511627776) (hm9:m≤10000000000) (hp9:pre.length≤10000000000) (hw:w≤40) (hc:pre.length<s.c∨w=0):SC G prog 222 [(s.cut 1 pre.length (pre.length+m)).val,iN a,iN w,iN x] H (λv A=>v=.tuple #[]∧A=Row s eB (pre++leB m (N+2^a*x))::R):=by
 refine SC.less (gi hr dH.refl) ?_;refine sWk func222 ?_;refine gk (k:=e8 (Nat×(List Nat)) (λy=>N+2^a*(x%2^y.1)<2^(a+y.1)∧y.1≤w+8∧y.2=leB m (N+2^a*(x%2^y.1))) (λy=>[(8,iN y.1)]) [(0,_),(1,_),(2,_),(3,_)] (λy=>[Row s eB (pre++y.2)]) _ (λy=>w-y.1) ((0,leB m N)) (h0:=?_) (k:=?_))
 ·try dsimp only
  exact⟨by simp[Nat.mod_one];exact hN,a8,by simp[Nat.mod_one]⟩
 rintro⟨d,o⟩ ⟨hd,hdw,j⟩
 try dsimp only[Yd,Ye]at*
 refine gW (λh1=>?_) λh1=>?_
 ·have hdw2:d<w:=by omega
  have z:(a+d)/8<m:=a8;have l:=KH (m:=m) (y:=x/2^d) z hd;obtain⟨g,hp2,f,q⟩:=l;rw[←j]at g f;have r:o.length=m:=by rw[j,gH]
  have hpc:pre.length<s.c:=a8;haveI hcs:Sl (Row s eB (pre++o)::R) (s.cut 1 pre.length (pre.length+m)) eB o:=UI rfl a8;have h:(pre++o)[pre.length+(a+d)/8]? =some ((N+2^a*(x%2^d))/256^((a+d)/8)):=by
   rw[Yu a8,Q4];exact f
  have t:(a+d)%8<8:=V2 _ ae;have u:2^((a+d)%8)≤2^7:=X0 ae a8;have c:x/2^d≤x:=Nat.div_le_self _ _;have hsh:x/2^d*2^((a+d)%8)≤x*2^7:=Uv c u;have e:=Jy hd;have p:=KJ (y:=x/2^d) e t;have hplen:(pre++o).length=pre.length+m:=by rw[Ya,r]
  refine wk_ (qn_ (wb_ (ws_ (wr_ (e_ mv (e_ mv (e_ iad ?_)))))));refine e_ (mw rfl rfl (a+d) 8 a8 rfl ae) (go ?_);refine wD [15] (λk H=>(k=5→Sl H (s.cut 1 pre.length (pre.length+m)) eB o)∧(k=6→Sl H s eB (pre++o))∧(k=14→Sl H (s.cut 1 pre.length (pre.length+m)) eB o)) (aF 0 (k:=aF 1 (k:=aF 2 (k:=aF 3 (k:=?_)))));refine aN 4 rfl (λH hH=>fX rfl rfl (a+d) 8 a8 rfl ae ai) ?_;refine aN 5 rfl (λH hH=>by have hN:=hH.1 rfl;exact evq (er rfl rfl ((a+d)/8) rfl a8) (congrArg Value.pointer (Ha hpc))) ?_;refine aN 6 rfl (λH hH=>by have hN:=hH.2.1 rfl;exact lel (hy:=h)) ?_;refine aF 7 (k:=aF 8 (k:=?_));refine aN 9 rfl (λH hH=>hX rfl rfl x d rfl rfl (by show _≤64;omega)) ?_;refine aF 10 (k:=?_);refine aN 11 rfl (λH hH=>ye rfl rfl (x/2^d) ((a+d)%8) rfl rfl a8 a8) ?_;refine aN 12 rfl (λH hH=>ez 256 rfl rfl rfl _ rfl) ?_;refine aN 13 rfl (λH hH=>evq (ku 256 rfl rfl rfl rfl _ _ rfl rfl a8 (V2 _ ae)) (congrArg (λn:Nat=>Value.int .u8 (n:Int)) p)) ?_;refine aN 14 rfl (λH hH=>by have hN:=hH.2.2 rfl;exact evq (er rfl rfl ((a+d)/8) rfl a8) (congrArg Value.pointer (Ha hpc))) ?_;refine aS 15 rfl (et (s:=s) (i:=pre.length+(a+d)/8) rfl rfl rfl a8) ?_;rintro _ _ ⟨rfl,rfl⟩;refine aZ (qn_ (wr_ ?_));rw[Oi,g];have b:N+2^a*(x%2^d)+2^(a+d)*(x/2^d%2^(8-(a+d)%8))=N+2^a*(x%2^(d+(8-(a+d)%8))):=by
   rw[←CA x d,R7,V0,Uz,V3]
  refine e_ mv (e_ mv (e_ isb ?_));refine e_ (evq iad (congrArg (Value.int .i64) (show _=((d+(8-(a+d)%8):Nat):Int)from a8))) (go ?_);refine lN ((d+(8-(a+d)%8),leB m (N+2^a*(x%2^d)+2^(a+d)*(x/2^d%2^(8-(a+d)%8))))) ?_
  try dsimp only
  exact⟨by rw[←b,←V0];exact q,a8,by rw[b]⟩
 have c:x%2^d=x:=Xw (Q6 hx (X0 ae a8));rw[c]at j;rw[j];exact gZ
end
theorem EU (ns:List Nat):o8 (dT ns)=false:=by
 rw[mX];intro i x h;exact FD ns x (Yj h)
section
variable {G:dJ}{P:Program}{N:Nat}{Q:Post}{t:Tm}{H:dD}{ops:Array Oper}{l:List Oper}
theorem XL (s:SV) {α:Type}{e:Enc α}{xs:List α} [hs:Sl H s e xs] (h:xs.length≤s.c→O G P N ops l Q t H):O G P N ops l Q t H:=
 ⟨λa w ha b=>(h (by obtain⟨h1,h2,_⟩:=hs.get b;omega)).go a w ha b⟩
end
theorem Lu (m:Nat):leB m 0=List.replicate m 0:=by
 apply Vz;intro j
 by_cases h:j<m
 ·rw[rH h,S2,if_pos h];simp
 ·rw[Xz (by rw[gH];omega),Xz (by rw[Xe];omega)]
theorem Av {G:dJ}{H R:dD}{b:Nat}{xs:List Nat}{s:SV}{ns:List Nat} [hg:Glb G R] [hr:Rem H Wr b xs R] [hs:Sl R s eI (dT ns)] (hn:xs.length≤1000000000) (hm:ns.length≤100000000) (hl:∀x∈ns,x<1099511627776) (r:fO (orL ns)=0→ns.length≤65536):SC G prog 167 [pA b,s.val] H (λv U=>v=.nilIface∧U=Wr b (xs++ff ns)::R):=by
 have d:=eJ ns;have M:=EU ns;refine SC.rem (h:=hr) ?_;refine sWk func167 ?_;refine ws_ (wr_ (e_ asn (on_ (qn_ (ws_ (ws_ (wr_ (e_ mv ?_))))))));refine d1_ rfl (DP a8) ?_;rw[M];refine on_ (qn_ (wi_ (k:=λh1=>?_) (m:=λh1=>?_)))
 ·exact absurd h1 ae
 refine wk_ (qn_ (ws_ (wr_ (e_ asn (on_ (qn_ (ws_ (ws_ (wr_ (e_ mv (e_ lnn (e_ mv (on_ ?_)))))))))))));refine qn_ (wb_ (e8 Nat (λy=>y≤ns.length) (λy=>[(5,iN (orL (ns.take y))),(17,iN y)]) [(0,_),(1,_),(15,_),(16,_)] (λy=>[]) _ (λy=>ns.length-y) (0) (h0:=?_) (k:=?_)))
 ·exact Yl _
 rintro i hi
 try dsimp only[Yd,Ye]at*
 refine ws_ (wr_ (e_ ilt (on_ (qn_ (ws_ (wi_ (k:=λh2=>?_) (m:=λh2=>?_)))))))
 ·obtain⟨x,hx⟩:=gE ns i;have F:=gh hx;have g:=hl x (Yj hx);have T:orL (ns.take i)<2^40:=qU ae λy hy=>hl y (Yq hy);refine wk_ (qn_ (ws_ (wb_ (ws_ (wr_ (e_ ixa (e_ lel (e_ asn (on_ (qn_ (wr_ (e_ mv (e_ mv ?_)))))))))))));refine e_ (evq (Bd rfl rfl (orL (ns.take i)) x rfl rfl a8 a8) (congrArg (λn:Nat=>iN n) (CF hx).symm)) ?_;refine e_ asn (on_ (bn_ (qn_ (wr_ (e_ iad (e_ mv (on_ ?_)))))));refine lN (i+1) ?_
  try dsimp only
  omega
 obtain rfl:i=ns.length:=a8;rw[Xn];have T:orL ns<2^40:=qU ae hl;refine we_ (qe_ (le_ (bh_ (qn_ (ws_ (wr_ (e_ mv ?_)))))));refine e_ (dW 18446744073709551616 rfl rfl rfl (orL ns) rfl a8) ?_;refine d1_ rfl (Wb a8) ?_;obtain⟨W,C⟩:=ex (fO (orL ns));rw[←C];have e:W≤40:=by rw[C,j7];exact T
 have p:∀x∈ns,x<2^W:=λx hx=>by rw[C];exact KT hx
 have hul:=iw (n:=ns.length) a8;refine e_ asn (on_ (qn_ (ws_ (ws_ (wr_ (e_ mv (e_ ieq (e_ mv (dV 4 34 (k:=λh3=>eg_ mv (eg_ lnn (eg_ igt (e_ pkt (on_ edq))))) (q:=on_ (qn_ (wi_ (k:=λh4=>?_) (m:=λh4=>?_)))))))))))))
 ·obtain⟨c1,c2⟩:=h4;exfalso;rw[←C]at r;have:=r a8;omega
 refine wk_ (qn_ (ws_ (wr_ (e_ mv (e_ mv (e_ lnn ?_))))));refine e_ ((ad)) ?_;refine d2_ rfl (gl (dT ns).length a8 a8) ?_;rw[d];refine on_ (qn_ (ws_ (ws_ (wr_ (e_ mv (e_ lnn (e_ ieq (on_ (qn_ (wi_ (k:=λh5=>?_) (m:=λh5=>?_)))))))))))
 ·have u:ns= []:=Uc a8;refine ws_ (wr_ (e_ asn (on_ (qn_ (wt_ (qr_ (rT (k:=?_))))))));exact⟨_,hsb,rfl,by rw[ff,if_pos u,Ym]⟩
 have J:¬ns= []:=λh=>by have h9:=h5;rw[d,h]at h9;exact h9 rfl
 refine wk_ (qn_ (ws_ (wr_ (e_ mv (e_ mv ?_)))));refine e_ (dW 256 rfl rfl rfl W rfl a8) ?_;refine d2_ rfl (qA W aj) (on_ (qn_ (ws_ (wr_ ?_))));refine KY b λsw=>?_;have hnW:ns.length*W≤ns.length*40:=V7 _ e;have hcast:((dT ns).length:Int)*(W:Int)=((ns.length*W:Nat):Int):=by rw[d];simp
 refine e_ mv (e_ nck (e_ fla (e_ ldv (e_ lnn (e_ asn (on_ (qn_ (ws_ (wr_ (e_ mv (e_ mv (e_ nck (e_ fla ?_)))))))))))));refine e_ ldv (e_ mv (e_ lnn (e_ mv (e_ iml (e_ iad ?_)))));refine e_ (fX rfl rfl (ns.length*W+7) 8 a8 rfl ae ai) ?_;refine s_ (xa (T3:=9) rfl rfl rfl (by simp only[Ya,Yb,Yc];omega) (by simp only[Ya,Yb,Yc];omega) inferInstance) ?_;rintro _ _ ⟨j,rfl,rfl⟩;obtain⟨m,z⟩:=ex ((ns.length*W+7)/8);obtain⟨pre,c⟩:=ex (xs++uv ns.length++ [W]);rw[←z,←c,←Lu];have hpl:pre.length≤1000000011:=by rw[c];simp only[Ya,Yb,Yc];omega
 refine XL j λB=>?_;rw[Ya,gH]at B;refine e_ nck (e_ fla (sto (k:=on_ (qn_ (ws_ (ws_ (wr_ (e_ mv (e_ lnn (e_ mv (on_ (qn_ (wb_ ?_)))))))))))));refine e8 (Nat×(List Nat)) (λy=>y.1≤ns.length∧y.2=leB m (jd W (ns.take y.1))) (λy=>[(69,iN y.1)]) [(0,_),(8,_),(9,_),(67,_),(68,_)] (λy=>[Row j eB (pre++y.2)]) _ (λy=>ns.length-y.1) ((0,leB m 0)) (h0:=?_) (k:=?_)
 ·exact⟨Yl _,rfl⟩
 rintro⟨i,o⟩ ⟨hi,f⟩
 try dsimp only[Yd,Ye]at*
 refine ws_ (wr_ (e_ ilt (on_ (qn_ (ws_ (wi_ (k:=λh6=>?_) (m:=λh6=>?_)))))))
 ·obtain⟨x,hx⟩:=gE ns i;have F:=gh hx;have g:=hl x (Yj hx);have E:=p x (Yj hx);have hol:(pre++o).length=pre.length+m:=by rw[Ya,f,gH]
  have hiW:i*W≤i*40:=V7 _ e;have hi1:(i+1)*W≤ns.length*W:=Vu _ a8;have hi2:(i+1)*W=i*W+W:=by rw[Vy,Nat.one_mul]
  have L:(i:Int)*(W:Int)=((i*W:Nat):Int):=aq;have S:jd W (ns.take i)<2^(i*W):=by
   have:=CD (w:=W) (l:=ns.take i) λy hy=>p y (Yq hy)
   rwa [Yg,Ug hi,V5]at this
  have K:pre.length<j.c∨W=0:=a8;refine wk_ (qn_ (ws_ (wb_ (ws_ (wr_ (e_ mv (e_ ixa (e_ lel (e_ asn (e_ asn (on_ (qn_ (wr_ ?_)))))))))))));rw[f];refine e_ mv (e_ nck (e_ fla (e_ ldv (e_ mv ?_))));refine e_ (fV rfl bH pre.length (pre.length+m) ⟨_,_,rfl,by rw[c]⟩ (by rw[Ya,gH]) a8 (by rw[Ya,gH];exact Xl _)) ?_;refine e_ mv (e_ mv ?_);refine e_ (evq iml (congrArg (Value.int .i64) L)) ?_;refine e_ mv (e_ mv ?_);refine cp_ (vs:=[_,_,_,_]) rfl (ZW (pre:=pre) (m:=m) (N:=jd W (ns.take i)) (a:=i*W) (w:=W) (x:=x) S a8 E g a8 a8 e K) ?_;rw[V5 i W,←EF hx];refine on_ (bn_ (qn_ (wr_ (e_ iad (e_ mv (on_ ?_))))));refine lN ((i+1,leB m (jd W (ns.take (i+1))))) ?_
  exact⟨a8,rfl⟩
 obtain rfl:i=ns.length:=a8;rw[Xn]at f;have t:ff ns=uv ns.length++ [W]++leB m (jd W ns):=by
  rw[ff,if_neg J,←C,Gu,z];simp
 have A:xs++ff ns=pre++o:=by rw[t,c,f];simp
 refine we_ (qe_ (le_ (bh_ (qn_ (ws_ (wr_ (e_ asn (on_ (qn_ (wt_ (rT (k:=?_))))))))))));rw[A];exact⟨_,hsb,rfl,rfl⟩
section
variable {G:dJ}{H:dD}{l:List (Nat×SV)}{nb:Nat}{ps:List Po}{s:SV}
def ePo:Enc (Nat×SV):=⟨λp=>[.int .i64 ((p.1:Nat):Int),p.2.val],2,true,λ_=>rfl,λp v h=>by simp at h;rcases h with rfl|rfl <;> rfl,ae,λh=>aK,ae⟩
instance {p:Nat×SV}:kV ePo p (.agg [.int .i64 ((p.1:Nat):Int),p.2.val].toArray):=⟨rfl⟩
instance {d:Nat}{s:SV}:gP ePo (.agg [.int .i64 ((d:Nat):Int),s.val].toArray) (d,s):=⟨rfl⟩
def su (H:dD) (l:List (Nat×SV)) (ps:List Po):Prop:=l.length=ps.length∧∀(i:Nat) (p:Nat×SV) (q:Po),l[i]? =some p→ps[i]? =some q→p.1=q.1∧Sl H p.2 eI (dT q.2)
theorem su.get (h:su H l ps){i:Nat}(hi:i<l.length):∃s pos,l[i]? =some ((ps.getD i (0, [])).1,s)∧ps[i]? =some ((ps.getD i (0, [])).1,pos)∧Sl H s eI (dT pos):=by
 obtain⟨p,hp⟩:∃p,l[i]? =some p:=⟨_,Yi hi⟩;obtain⟨q,a⟩:∃q,ps[i]? =some q:=⟨_,Yi (by rw[←h.1];exact hi)⟩;obtain⟨h1,h2⟩:=h.2 i p q hp a;rw[Xj,a];exact⟨p.2,q.2,by rw[hp,V4,←h1],rfl,h2⟩
theorem su.cut (h:su H l ps) (a b:Nat):su H ((l.take b).drop a) ((ps.take b).drop a):=by
 refine⟨by simp[h.1],λi p q hp c=>?_⟩;rw[Xh,X3]at hp c
 split at hp
 ·rename_i d;rw[if_pos d]at c;exact h.2 _ p q hp c
 ·cases hp
theorem su.tail {A:Hp}(h:su H l ps):su (A::H) l ps:=⟨h.1,λi p q hp a=>by
 obtain⟨h1,h2⟩:=h.2 i p q hp a;exact⟨h1,Sl.tail⟩⟩
theorem AA {l:List Po}(h:fL l) (i:Nat):fL (l.take i):=⟨by have:=h.1;rw[Yg];omega,λp hp=>h.2 p (Yq hp)⟩
theorem NN {d:Nat}{pos:List Nat} [hs:Sl H s eI (dT pos)] (hd:d≤1000000) (hnb:nb≤d) (c:pos≠ []) (b:tP 0 pos) (hl:pos.length≤100000000):SC G prog 252 [.agg #[iN d,s.val],.int .i64 (((nb:Nat):Int)-1)] H (λv g=>v=.nilIface∧g=H):=by
 have hlen:=eJ pos;have hpos:0<pos.length:=List.length_pos_iff.2 c;refine sWk func252 ?_;refine ws_ (wr_ (bxx (k:=λb2=>?_)));refine e_ asn (on_ (qn_ (ws_ (wb_ (ws_ (wr_ (e_ fla (e_ ldv (e_ ilt (e_ mv (ep 4 16 (k:=λh1=>eg_ fla (eg_ ldv (eg_ ige (e_ pkf (on_ edq))))) (q:=e_ asn (on_ ?_)))))))))))));refine qn_ (wi_ (k:=λh2=>?_) (m:=λh2=>?_))
 ·exact absurd h2 a8
 refine ws_ (wr_ (e_ fla (e_ ldv (e_ mv (e_ ile (e_ asn (on_ (qn_ (wi_ (k:=λh3=>?_) (m:=λh3=>?_))))))))))
 ·exact absurd h3 a8
 refine ws_ (wr_ (e_ fla (e_ ldv (e_ lnn (e_ ieq (e_ asn (on_ (qn_ (wi_ (k:=λh4=>?_) (m:=λh4=>?_))))))))))
 ·exact absurd h4 a8
 refine wk_ (bn_ (qn_ (ws_ (ws_ (wr_ (e_ fla (e_ ldv (e_ lnn (e_ mv (on_ (qn_ (wb_ (e8 Nat (λy=>True) (λy=>[(33,iN y)]) [(2,_),(31,_),(32,_)] (λy=>[]) _ (λy=>pos.length-y) (0) (h0:=?_) (k:=?_))))))))))))))
 ·try dsimp only
  all_goals trivial
 rintro i -
 try dsimp only[Yd,Ye]at*
 refine ws_ (wr_ (e_ ilt (on_ (qn_ (ws_ (wi_ (k:=λh5=>?_) (m:=λh5=>?_)))))))
 ·obtain⟨x,hx⟩:=gE pos i;have a:=gh hx;refine wk_ (qn_ (ws_ (wb_ (ws_ (wr_ (e_ ixa (e_ lel (e_ asn (on_ (qn_ (ws_ (wr_ (e_ mv ?_)))))))))))));refine e_ ilt (on_ (qn_ (wi_ (k:=λh6=>?_) (m:=λh6=>?_))))
  ·exact absurd h6 a8
  refine wk_ (bn_ (qn_ (wr_ (e_ iad (e_ mv (on_ ?_))))));refine lN (i+1) ?_
  try dsimp only
  all_goals trivial
 refine we_ (qe_ (le_ (bh_ (qn_ (ws_ (ws_ (wr_ (e_ asn (on_ (qn_ (wb_ (e8 Nat (λy=>1≤y) (λy=>[(7,iN y)]) [(2,_)] (λy=>[]) _ (λy=>pos.length-y) (1) (h0:=?_) (k:=?_)))))))))))))
 ·exact Xl _
 rintro j hj
 try dsimp only[Yd,Ye]at*
 refine ws_ (ws_ (wr_ (e_ mv (e_ fla (e_ ldv (e_ lnn (e_ ilt (on_ (qn_ (wi_ (k:=λf=>?_) (m:=λf=>?_)))))))))))
 ·obtain⟨x,hx⟩:=gE pos j;obtain⟨y,hy⟩:=gE pos (j-1);have a:=gh hx;have hyi:=gh hy;have e:=rE b hx;rw[if_neg a8,Xj,hy,V4]at e;refine wk_ (qn_ (ws_ (wb_ (ws_ ?_))));refine dX dN (as_ 0 (q:=fla) (k:=as_ 1 (q:=ldv) (k:=as_ 2 (q:=mv) (k:=as_ 3 (q:=ixa) (k:=as_ 4 (q:=lel) (k:=as_ 5 (q:=fla) (k:=as_ 6 (q:=ldv) (k:=as_ 7 (q:=mv) (k:=as_ 8 (q:=isb) (k:=as_ 9 (q:=ixa) (k:=as_ 10 (q:=lel) (k:=as_ 11 (q:=ile) (k:=az_ (k:=?_))))))))))))));refine qn_ (wi_ (k:=λh8=>?_) (m:=λh8=>?_))
  ·exact absurd h8 a8
  refine wk_ (bn_ (qn_ (wr_ (e_ mv (e_ iad (e_ asn (on_ ?_)))))));refine lN (j+1) ?_
  try dsimp only
  omega
 refine we_ (qe_ (le_ (bh_ (qn_ (ws_ (wr_ (e_ asn (on_ (qn_ (wt_ (rT (k:=?_))))))))))));exact⟨_,hsb,rfl,rfl⟩
theorem NJ [hg:Glb G H] [hs:Sl H s ePo l] (hp:su H l ps) (A:j5 nb ps) (hsm:fL ps) (hn:ps.length≤16) (hnb:nb≤1000001):SC G prog 253 [s.val,.int .i64 (((nb:Nat):Int)-1)] H (λv Y=>∃V:SV,v=V.val∧Y=Row V eB (my nb ps)::H):=by
 have hpl:=hp.1;have L:(dT (je nb ps)).length=l.length:=by rw[eJ,iO,hpl]
 have M:(dT (kt ps)).length=l.length:=by rw[eJ,kt,Yh,hpl]
 have hT:∀i,ec (ps.take i)≤1600000000:=λi=>by
  have:=Aq (AA hsm i);rw[Yg]at this;omega
 refine sWk func253 ?_;refine go ?_;refine c0_ rfl iM ?_;rintro _ _ ⟨F,rfl,rfl⟩;refine e_ asn (on_ (qn_ (ru (SV×SV) (λy=>True) (λy=>[(6,y.1.val),(7,y.2.val)]) [6,7,15,16,17,18,19,20] (λy=>[Row y.1 eI (List.replicate l.length (0:Int)),Row y.2 eI (List.replicate l.length (0:Int))]) (Wr F []::H) ?_ ?_)))
 ·refine wD [2,5] (λk H=>(k=1→Sl H s ePo l)∧(k=4→Sl H s ePo l)) (aF 0 (k:=?_));refine aN 1 rfl (λH hH=>by have hN:=hH.1 rfl;exact lnn) ?_;refine aF 3 (k:=?_);refine aN 4 rfl (λH hH=>by have hN:=hH.2 rfl;exact lnn) ?_;refine Bw 2 5 rfl rfl aa rfl rfl (λk hk=>⟨λhi=>bm,λhi=>bm⟩) (gn eI 0 rfl rfl _ _ rfl rfl rfl a8 a8 a8) (gn eI 0 rfl rfl _ _ rfl rfl rfl a8 a8 a8) ?_ ?_
  ·rintro _ _ ⟨f,rfl,t,u,rfl⟩;refine aF 6 (k:=?_);refine aS 5 rfl (gn eI 0 rfl rfl _ _ rfl rfl rfl a8 a8 a8) ?_;rintro _ _ ⟨e,rfl,n,r,rfl⟩;refine gk (k:=aZ (jnE ((f,e)) (q:=?_)));trivial
  rintro _ _ ⟨e,rfl,n,r,rfl⟩;refine aS 2 rfl (gn eI 0 rfl rfl _ _ rfl rfl rfl a8 a8 a8) ?_;rintro _ _ ⟨f,rfl,t,u,rfl⟩;refine gk (k:=aZ (jnE ((f,e)) (q:=?_)));trivial
 rintro⟨f,e⟩ -
 try dsimp only[Yd,Ye]at*
 refine ws_ (ws_ (wr_ ?_));rw[show Row f eI (List.replicate l.length (0:Int))=Row f eI (gx (dT (je nb ps)) 0 0)from by rw[mW,L],show Row e eI (List.replicate l.length (0:Int))=Row e eI (gx (dT (kt ps)) 0 0)from by rw[mW,M]];refine gk (k:=e8 Nat (λy=>y≤l.length) (λy=>[(1,.int .i64 (((fB nb (ps.take y):Nat):Int)-1)),(23,iN y)]) [(0,_),(5,_),(6,_),(7,_),(21,_),(22,_)] (λy=>[Row f eI (gx (dT (je nb ps)) 0 y),Row e eI (gx (dT (kt ps)) 0 y)]) _ (λy=>l.length-y) (0) (h0:=?_) (k:=?_))
 ·exact Yl _
 rintro i hi
 try dsimp only[Yd,Ye]at*
 refine gW (λh1=>?_) λh1=>?_
 ·obtain⟨X,pos,B,a,R⟩:=hp.get (i:=i) a8;generalize (ps.getD i (0, [])).1=d at B a;have E:=(jP A a).1;have K:=(jP A a).2.1;have hpos:0<pos.length:=List.length_pos_iff.2 K;have c:=hsm.2 _ (Yj a);simp only at E c K;have w:=eJ pos;have hg1:(dT (je nb ps))[i]? =some ((d-fB nb (ps.take i):Nat):Int):=gh (vk a);have S:(dT (kt ps))[i]? =some ((pos.length-1:Nat):Int):=gh (by rw[kt,Xd,a];rfl);have hl1:=kG (z:=(0:Int)) (full:=dT (je nb ps)) (i:=i) a8;have hl2:=kG (z:=(0:Int)) (full:=dT (kt ps)) (i:=i) a8;refine gk (k:=alc (k:=λb9=>?_));refine e_ asn (sto (k:=on_ (qn_ (ws_ (wr_ (e_ mv (e_ mv (e_ fla (e_ ldv (e_ mv (e_ isb ?_)))))))))));refine e_ (evq isb (congrArg (Value.int .i64) (show _=((d-fB nb (ps.take i):Nat):Int)from a8))) (go ?_);refine s_ (et (i:=i) rfl rfl rfl a8) ?_;rintro _ _ ⟨rfl,rfl⟩;refine on_ (qn_ (ws_ (wr_ (e_ fla (e_ ldv (e_ asn (on_ (qn_ (wr_ (e_ mv (e_ mv (e_ fla (e_ ldv ?_)))))))))))));refine e_ lnn ?_;refine e_ (evq isb (congrArg (Value.int .i64) (show _=((pos.length-1:Nat):Int)from a8))) (go ?_);refine s_ (et (i:=i) rfl rfl rfl a8) ?_;rintro _ _ ⟨rfl,rfl⟩;refine on_ (bn_ (qn_ (wr_ ?_)));rw[oT hg1,oT S];have C:fB nb (ps.take (i+1))=d+1:=sV a;have T:(d:Int)=((fB nb (ps.take (i+1)):Nat):Int)-1:=by rw[C];omega
  rw[T];refine go ?_;refine lN (i+1) ?_
  try dsimp only
  omega
 obtain rfl:i=l.length:=a8;rw[show gx (dT (je nb ps)) 0 l.length=dT (je nb ps)from by rw[←L,nu],show gx (dT (kt ps)) 0 l.length=dT (kt ps)from by rw[←M,nu]];refine go ?_;refine d2_ rfl (Av aq cI (λx hx=>bB) (λ_=>cI)) (go ?_);refine d2_ rfl (Av (by have:=kY (ns:=je nb ps) (λx hx=>bB) cI;rw[iO]at this;simp only[Ya,Yc];omega) bX (λx hx=>cr) (λ_=>bX)) (on_ (qn_ (ws_ (ws_ (wr_ ?_)))));obtain⟨b,h⟩:=ex ([]++ff (je nb ps)++ff (kt ps));have hprl:b.length≤1000:=by
  have h1:=kY (ns:=je nb ps) (λx hx=>bB) cI;have h2:=kY (ns:=kt ps) (λx hx=>cr) bX;rw[iO]at h1;rw[show(kt ps).length=ps.length from by rw[kt,Yh]]at h2;rw[h];simp only[Ya,Yc];omega
 rw[←h,show Wr F b=Wr F (b++fP (ps.take 0))from by simp[fP]];refine gk (k:=e8 Nat (λy=>y≤l.length) (λy=>[(54,iN y)]) [(5,_),(52,_),(53,_)] (λy=>[Wr F (b++fP (ps.take y))]) _ (λy=>l.length-y) (0) (h0:=?_) (k:=?_))
 ·exact Yl _
 rintro i hi
 try dsimp only[Yd,Ye]at*
 refine gW (λh2=>?_) λh2=>?_
 ·obtain⟨X,pos,B,a,R⟩:=hp.get (i:=i) a8;generalize (ps.getD i (0, [])).1=d at B a;have m:=(jP A a).2.2;have c:=hsm.2 _ (Yj a);simp only at c m;have w:=eJ pos;have hTi:=hT i;have htl:=sN (l:=ps.take i) (λp hp=>(hsm.2 p (Yq hp)).2.2);refine gk (k:=alc (k:=λb11=>?_));refine sto (k:=on_ (qn_ (ws_ (wr_ (e_ fla (e_ ldv (e_ lnn ?_)))))));rw[show Wr F (b++fP (ps.take i))=Wr F (b++fP (ps.take i)++gU 0 (pos.take 0))from by simp[gU]];refine gk (k:=e8 Nat (λy=>y≤pos.length) (λy=>[(61,iN y)]) [(5,_),(11,_),(52,_),(53,_),(54,_),(59,_),(60,_)] (λy=>[Wr F (b++fP (ps.take i)++gU 0 (pos.take y))]) _ (λy=>pos.length-y) (0) (h0:=?_) (k:=?_))
  ·exact Yl _
  rintro j hj
  try dsimp only[Yd,Ye]at*
  refine gW (λh3=>?_) λh3=>?_
  ·obtain⟨x,hx⟩:=gE pos j;have hxi:=gh hx;have hxl:=c.2.2 x (Yj hx);have E:=rE m hx;have g:=pB (nb:=0) hx;have J:=uJ (l:=pos.take j) (nb:=0) (λy hy=>c.2.2 y (Yq hy));rw[Yg]at J;refine go ?_;refine gW (λh4=>?_) λh4=>?_
   ·obtain⟨y,hy⟩:=gE pos (j-1);have hyi:=gh hy;rw[if_neg a8,Xj,hy,V4]at E g;refine wr_ (e_ mv (e_ fla (e_ ldv (e_ mv (e_ isb (e_ ixa (e_ lel (e_ iad ?_))))))));refine e_ (evq isb (congrArg (Value.int .i64) (show _=((x-(y+1):Nat):Int)from a8))) ?_;refine e_ asn (on_ (qn_ (wr_ (e_ mv (e_ mv ?_)))));refine e_ ((ad)) ?_;refine d2_ rfl (gl _ a8 aj) ?_;rw[Yf (b++fP (ps.take i)),←g];refine go ?_;refine lN (j+1) ?_
    try dsimp only
    omega
   rw[if_pos a8,R8]at g;refine wk_ (qn_ (wr_ (e_ mv (e_ mv ?_))));refine e_ ((ad)) ?_;refine d2_ rfl (gl _ a8 aj) ?_;rw[Yf (b++fP (ps.take i)),←g];refine go ?_;refine lN (j+1) ?_
   try dsimp only
   omega
  obtain rfl:j=pos.length:=a8;rw[Xn,Yf,show fP (ps.take i)++gU 0 pos=fP (ps.take (i+1))from(vI a).symm];refine go ?_;refine lN (i+1) ?_
  try dsimp only
  omega
 obtain rfl:i=l.length:=a8;rw[show ps.take l.length=ps from by rw[hpl,Xn],show b++fP ps=my nb ps from by rw[h];rfl];have hbl:=uy (nb:=nb) hsm;have U:=hT 16;rw[Xr a8]at U;refine go ?_;refine c1_ rfl (kK a8) ?_;rintro _ _ ⟨N,rfl,rfl⟩;refine gR ?_;exact⟨_,hsb,N,rfl,rfl⟩
end
section
variable {G:dJ}{H R:dD}{P:Program}{d i p r:Nat}{q s:ByteArray}{s':SV}{t:Tm}{ts:List Tri}
structure PG where
 d:Nat
 s:SV
 pos:List Nat
structure EG where
 key:ByteArray
 s:SV
 l:List PG
def pgV (p:PG):Nat×SV:=(p.d,p.s)
def pgP (p:PG):Po:=(p.d,p.pos)
def pgH (p:PG):dD:= [Row p.s eI (dT p.pos)]
def egH (e:EG):dD:= [Row e.s ePo (e.l.map pgV),Cl pgH e.l]
def kvs (es:List EG):List (ByteArray×Value):=es.map λe=>(e.key,e.s.val)
def pe (es:List EG):List (List Nat×List Po):=es.map λe=>(dC e.key,e.l.map pgP)
def kl (r:Nat) (ts:List Tri):Hp:=λL=>∃es,iE (pe es) ts∧Sep [Cl egH es,Mv r (kvs es)] L
theorem tu {es:List EG}(h:iE (pe es) ts):dH (Cl egH es::Mv r (kvs es)::R) (kl r ts::R):=λL hL=>by
 obtain⟨L1,L2,rfl,h1,L3,a,rfl,h2,h3⟩:=hL;exact⟨(L1++L3)++a, [],⟨L1++L3,a,rfl,⟨es,h,L1,L3,rfl,h1,L3, [],aq,h2,rfl⟩,h3⟩,aq⟩
theorem I2 (hr:Rem H kl r ts R){w:World}(c:Sat G w H):∃a,iE (pe a) ts∧Sat G w (Cl egH a::Mv r (kvs a)::R):=by
 obtain⟨d,L,⟨L1,L2,rfl,⟨a,h,L3,L4,rfl,h1,b,e,rfl,h2,h3⟩,h4⟩,hl⟩:=hr.sat c;obtain rfl:e= []:=h3;exact⟨a,h,d,_,⟨L3,b++L2,aq,h1,b,L2,rfl,h2,h4⟩,hl⟩
theorem Gz {N:Nat}{Q:Post}{ops:Array Oper}{l:List Oper}(hr:Rem H kl r ts R) (h:∀b,iE (pe b) ts→O G P N ops l Q t (Cl egH b::Mv r (kvs b)::R)):O G P N ops l Q t H:=
 ⟨λa w ha d=>by
   obtain⟨b,hk,c⟩:=I2 hr d;exact(h b hk).go a w ha c⟩
theorem AW {es:List EG}{e:EG}(h:es[i]? =some e):(kvs es)[i]? =some (e.key,e.s.val):=by rw[kvs,Xd,h];rfl
theorem GL (es:List EG) (i:Nat) (e:EG):kvs (es.set i e)=(kvs es).set i (e.key,e.s.val):=by rw[kvs,kvs,R9]
theorem Kc {α:Type}{l:List α}{a:α}(h:l[i]? =some a):l.set i a=l:=by
 apply Vz;intro j;rw[Vf]
 split
 ·rename_i hj;subst hj;rw[h];simp[(Yk.1 h).1]
 ·rfl
theorem Lw {es:List EG}{e a:EG}(h:es[i]? =some e) (hk:a.key=e.key) (hs:a.s=e.s):kvs (es.set i a)=kvs es:=by
 rw[GL,hk,hs];exact Kc (AW h)
theorem uC {es:List EG}{e:EG}(h:es[i]? =some e):(pe es)[i]? =some (dC e.key,e.l.map pgP):=by rw[pe,Xd,h];rfl
theorem DV (es:List EG) (i:Nat) (e:EG):pe (es.set i e)=(pe es).set i (dC e.key,e.l.map pgP):=by rw[pe,pe,R9]
theorem rV (es:List EG):(pe es).map (·.1)=(kvs es).map λp=>dC p.1:=by simp[pe,kvs]
theorem vf {es:List EG}(h:iE (pe es) ts):((kvs es).map (·.1)).Nodup:=by
 have h1:=h.nodup;rw[rV,show(λp:ByteArray×Value=>dC p.1)=dC∘(·.1)from rfl,←Uo]at h1;exact CM h1
theorem Pm {es:List EG}:q∈(kvs es).map (·.1)↔dC q∈(pe es).map (·.1):=by
 rw[rV,Xt,Xt]
 constructor
 ·rintro⟨p,hp,rfl⟩;exact⟨p,hp,rfl⟩
 ·rintro⟨p,hp,he⟩;exact⟨p,hp,jy.1 he⟩
theorem Cc {dst:Option Tmp}{ty:TypeId}{pos:String}{after:Array Edge}{g:Option (Nat×Bool)}{T K E:TypeId}{x y:Operand}{d f:Nat}{es:List EG}{C:Hp→dD}(hx:evo t x=some (.map (some r))) (hy:evo t y=some (.string s)) [hT:Und P T (.map K E)] [hK:Und P K .string] [hE:Inf P E d f (.slice none 0 0)] [hf:Foc H Mv r (kvs es) C]:
 St G P ⟨dst,.lookup T x y false,ty,pos,after,g⟩ t H (λu c=>c=H∧((∃(i:Nat) (e:EG),es[i]? =some e∧e.key=s∧u=e.s.val)∨(s ∉(kvs es).map (·.1)∧u=SV.nil.val))):=
 Gb (Gc (ok:=false) hx hy) λv c ⟨h1,h2⟩=>⟨h1,by
  rcases h2 with⟨i,u,hi,a⟩|⟨hno,a⟩
  ·obtain rfl:v=u:=a;obtain⟨e,he,b⟩:∃e,es[i]? =some e∧(e.key,e.s.val)=(s,v):=by
    rw[kvs,Xd]at hi;cases he:es[i]? with
    |none=>rw[he]at hi;cases hi
    |some e=>rw[he]at hi;exact⟨e,rfl,Xk hi⟩
   cases b;exact .inl ⟨i,e,he,rfl,rfl⟩
  ·exact .inr ⟨hno,a⟩⟩
theorem FG {l:List PG}{n:Nat}{p:PG}{x:Nat}(s:SV) (h:l[n]? =some p) (hn:n+1=l.length):fI (l.map pgP) p.d x=(l.set n ⟨p.d,s,p.pos++ [x]⟩).map pgP:=by
 obtain⟨a,rfl⟩:∃a,l=a++ [p]:=by
  rcases X4 l with rfl|⟨a,q,b⟩
  ·cases h
  ·obtain rfl:l=a++ [q]:=by simpa using b
   have:n=a.length:=by simp at hn;omega
   subst this;simp at h;subst h;exact⟨a,rfl⟩
 have:n=a.length:=by simp at hn;omega
 subst this;simp[fI,pgP]
theorem Af {l:List Po}{x:Nat}(h:∀q,l.getLast? =some q→q.1≠d):fI l d x=l++ [(d, [x])]:=by
 unfold fI
 split
 ·rename_i q a;rw[if_neg (h q a)]
 ·rename_i hn;rw[List.getLast?_eq_none_iff]at hn;subst hn;rfl
theorem rK (ts:List (Nat×Nat)):ec (jI ts)=ts.length∧(jI ts).length≤ts.length:=by
 have b:∀(r:List (Nat×Nat)),ec (jI r.reverse)=r.length∧(jI r.reverse).length≤r.length:=by
  intro r
  induction r with
  |nil=>simp[jI,ec]
  |cons t r ih=>
   obtain⟨h1,h2⟩:=ih;rw[List.reverse_cons,show [t]= [(t.1,t.2)]from rfl,mT];generalize jI r.reverse=l at*;rcases X4 l with rfl|⟨a,q,c⟩
   ·have h3:r.length=0:=by simpa [ec] using h1.symm
    simp[fI,ec,h3]
   ·obtain rfl:l=a++ [q]:=by simpa using c
    by_cases he:q.1=t.1
    ·rw[show fI (a++ [q]) t.1 t.2=a++ [(t.1,q.2++ [t.2])]from by simp[fI,he]];simp[ec]at*;omega
    ·rw[show fI (a++ [q]) t.1 t.2=a++ [q]++ [(t.1, [t.2])]from by simp[fI,he]];simp[ec]at*;omega
 have:=b ts.reverse;rw[S0,List.length_reverse]at this;exact this
theorem AN (ts:List Tri) (k:List Nat):(ofK ts k).length≤ts.length:=by rw[ofK,Yh];exact List.length_filter_le _ _
theorem HN {es:List EG}(h:iE (pe es) ts){e:EG}(he:es[i]? =some e):e.l.length≤ts.length∧∀p∈e.l,p.pos.length≤ts.length:=by
 have h1:=h.vals _ (Yj (uC he));simp only at h1;obtain⟨h2,h3⟩:=rK (ofK ts (dC e.key));have h4:=AN ts (dC e.key);rw[←h1]at h2 h3;rw[Yh]at h3;refine⟨a8,λp hp=>?_⟩;have:p.pos.length≤ec (e.l.map pgP):=by
  generalize e.l=l at hp
  induction l with
  |nil=>simp at hp
  |cons q l ih=>
   simp only[ec,Xs,Vv]at ih⊢;rcases Xo.1 hp with rfl|hp
   ·show p.pos.length≤p.pos.length+_;omega
   ·have:=ih hp;omega
 omega
def tZ (f:Nat) (s:ByteArray):ByteArray:=eG [f%256]++s
theorem rR (f:Nat) (s:ByteArray):dC (tZ f s)=f%256::dC s:=by
 rw[tZ,fG,fD aQ];rfl
theorem Wc {f:Nat}(hs:s.size≤1000000000):SC G prog 88 [iN f,.string s] H (λv a=>v=.string (tZ f s)∧a=H):=by
 refine sWk func88 ?_;refine ws_ (wr_ (e_ asn (on_ (qn_ (ws_ (wr_ (e_ mv ?_)))))));refine e_ (ez 256 rfl rfl rfl f rfl) ?_;refine fS eB (k:=λs7=>?_);refine e_ (fx rfl) ?_;refine e_ mv ?_;refine e_ (jn rfl rfl (by rw[j9];simp;omega)) ?_;exact gZ
theorem Bj {es:List EG}{e:EG}(h:es[i]? =some e):dH (Cl egH es::H) (Row e.s ePo (e.l.map pgV)::Cl pgH e.l::Cl egH (es.take i)::Cl egH (es.drop (i+1))::H):=lY (f:=egH) h
theorem rD {l:List PG}{p:PG}(h:l[i]? =some p):dH (Cl pgH l::H) (Row p.s eI (dT p.pos)::Cl pgH (l.take i)::Cl pgH (l.drop (i+1))::H):=lY (f:=pgH) h
theorem Dm {es:List EG}(e:EG) (hi:i<es.length):dH (Row e.s ePo (e.l.map pgV)::Cl pgH e.l::Cl egH (es.take i)::Cl egH (es.drop (i+1))::H) (Cl egH (es.set i e)::H):=ur (f:=egH) e hi
theorem KP {l:List PG}(p:PG) (hi:i<l.length):dH (Row p.s eI (dT p.pos)::Cl pgH (l.take i)::Cl pgH (l.drop (i+1))::H) (Cl pgH (l.set i p)::H):=ur (f:=pgH) p hi
theorem wj {l:List PG}(p:PG):dH (Row p.s eI (dT p.pos)::Cl pgH l::H) (Cl pgH (l++ [p])::H):=o4 (f:=pgH) p
theorem PW {l:List EG}(e:EG):dH (Row e.s ePo (e.l.map pgV)::Cl pgH e.l::Cl egH l::H) (Cl egH (l++ [e])::H):=o4 (f:=egH) e
theorem KI {n:Nat}{es:List EG}{e:EG}{lp:PG}(a:iE (pe es) ts) (he:es[i]? =some e) (hp:e.l[n]? =some lp) (hn:n+1=e.l.length) (hd:lp.d=d):
 dH (Row e.s ePo ((e.l.map pgV).set n (lp.d,s'))::Row s' eI (dT (lp.pos++ [p]))::Cl pgH (e.l.take n)::Cl pgH (e.l.drop (n+1))::Cl egH (es.take i)::Cl egH (es.drop (i+1))::Mv r (kvs es)::R) (kl r (ts++ [(dC e.key,d,p)])::R):=by
 subst hd;have h1:(e.l.map pgV).set n (lp.d,s')=(e.l.set n ⟨lp.d,s',lp.pos++ [p]⟩).map pgV:=by rw[R9];rfl
 have h2:kvs (es.set i ⟨e.key,e.s,e.l.set n ⟨lp.d,s',lp.pos++ [p]⟩⟩)=kvs es:=Lw he rfl rfl;rw[h1,←h2];refine(dH.keep (KP ⟨lp.d,s',lp.pos++ [p]⟩ (Yk.1 hp).1)).trans ((Dm ⟨e.key,e.s,e.l.set n ⟨lp.d,s',lp.pos++ [p]⟩⟩ (Yk.1 he).1).trans (tu ?_));rw[DV];have:=a.old (d:=lp.d) (p:=p) (uC he)
 rwa [FG s' hp hn]at this
theorem Cz {es:List EG}{e:EG}{u:SV}(b:iE (pe es) ts) (he:es[i]? =some e) (hd:∀q,e.l.getLast? =some q→q.d≠d):
 dH (Row s' ePo (e.l.map pgV++ [(d,u)])::Row u eI (dT [p])::Cl pgH e.l::Cl egH (es.take i)::Cl egH (es.drop (i+1))::Mv r ((kvs es).set i (e.key,s'.val))::R) (kl r (ts++ [(dC e.key,d,p)])::R):=by
 have h1:e.l.map pgV++ [(d,u)]=(e.l++ [(⟨d,u, [p]⟩:PG)]).map pgV:=by simp[pgV]
 have h2:kvs (es.set i ⟨e.key,s',e.l++ [⟨d,u, [p]⟩]⟩)=(kvs es).set i (e.key,s'.val):=GL _ _ _;rw[h1,←h2];refine(dH.keep (wj ⟨d,u, [p]⟩)).trans ((Dm ⟨e.key,s',e.l++ [⟨d,u, [p]⟩]⟩ (Yk.1 he).1).trans (tu ?_));rw[DV];have:=b.old (d:=d) (p:=p) (uC he);rw[Af (λq a=>by
  rw[List.getLast?_map]at a;cases hl:e.l.getLast? with
  |none=>rw[hl]at a;cases a
  |some x=>rw[hl]at a;obtain rfl:=Xk a;exact hd x hl)]at this
 simpa [pgP] using this
theorem Ib {es:List EG}{u:SV}(a:iE (pe es) ts) (hno:q ∉(kvs es).map (·.1)):
 dH (Row s' ePo [(d,u)]::Row u eI (dT [p])::Cl egH es::Mv r (kvs es++ [(q,s'.val)])::R) (kl r (ts++ [(dC q,d,p)])::R):=by
 have h2:kvs (es++ [⟨q,s', [⟨d,u, [p]⟩]⟩])=kvs es++ [(q,s'.val)]:=by simp[kvs]
 rw[←h2];refine(dH.keep ((ga dH.refl).trans (dH.trans (H':=Row u eI (dT [p])::Cl pgH []::Cl egH es::Mv r (kvs (es++ [⟨q,s', [⟨d,u, [p]⟩]⟩]))::R) hsb (wj ⟨d,u, [p]⟩)))).trans ((PW ⟨q,s', [⟨d,u, [p]⟩]⟩).trans (tu ?_));have:=a.new (d:=d) (p:=p) (λh=>hno (Pm.2 h))
 simpa [pe,pgP] using this
theorem Z8 {g:Nat}{w t s:Value} [hv:dQ R g [w,t,s,.map (some r)]] [hr:Rem H kl r ts R] (hn:ts.length≤1000000000):SC G prog 160 [pA g,.string q,iN d,iN p] H (λv B=>v=.tuple #[]∧B=kl r (ts++ [(dC q,d,p)])::R):=by
 refine sWk func160 ?_;refine go ?_;refine Gz hr λes c=>?_;refine go ?_;refine s_ (Cc rfl rfl) ?_;rintro _ _ ⟨rfl,(⟨i,e,he,rfl,rfl⟩|⟨hno,rfl⟩)⟩
 ·obtain⟨hel,hpl⟩:=HN c he;have h:(e.l.map pgV).length=e.l.length:=Yh ..;refine eu (Bj he) ?_;refine e_ asn (on_ (qn_ (ws_ (ws_ (wr_ (e_ mv (e_ lnn (e_ asn (on_ (qn_ (ws_ (wr_ (e_ mv ?_)))))))))))));refine e_ igt (sp_ mv (k:=λh1=>?_) (m:=λh1=>?_))
  ·obtain⟨lp,l⟩:=gE e.l (e.l.length-1);have A:(e.l.map pgV)[(e.l.map pgV).length-1]? =some (lp.d,lp.s):=by rw[Xd,h,l];rfl
   have hlpl:=hpl lp (Yj l);have f:∀q,e.l.getLast? =some q→q=lp:=λq x=>by rw[List.getLast?_eq_getElem?,l]at x;exact(Xk x).symm
   have hil:=eJ lp.pos;refine gW (λh2=>?_) λh2=>?_
   ·refine go ?_;refine eu (dH.keep (rD l)) ?_;refine gk (k:=fS eI (k:=λs40=>?_));refine app (k:=λz=>?_);rw[show dT lp.pos++ [(p:Int)]=dT (lp.pos++ [p])from by simp[dT]];refine go ?_;rw[h];refine s_ (nT (i:=e.l.length-1) (o:=1) rfl rfl rfl (lp.d,lp.s) (h ▸ A) ae (a:=(lp.d,z)) rfl) ?_;rintro _ _ ⟨rfl,rfl⟩;refine gR ?_;exact⟨_,dH.trans hsb (KI (d:=d) c he l a8 a8),rfl,rfl⟩
   have n:∀q,e.l.getLast? =some q→q.d≠d:=λq x=>by rw[f q x];omega
   refine go ?_;refine wD [8,10,11,12] (λk H=>(k=2→dQ H g [w,t,s,.map (some r)])∧(k=3→dQ H g [w,t,s,.map (some r)])) (aF 0 (k:=aF 1 (k:=?_)));refine aN 2 rfl (λH hH=>bM) ?_;refine aN 3 rfl (λH hH=>aM) (go ?_);refine aS 8 rfl (fK eI rfl rfl) ?_;rintro _ _ ⟨b,rfl,rfl⟩;rw[show Row b eI [(p:Int)]=Row b eI (dT [p])from rfl];refine af_ 9 (q:=ea λH hH=>bld [(0,_),(1,_)]) (k:=?_);refine aS 10 rfl (fK ePo rfl rfl) ?_;rintro _ _ ⟨y,rfl,rfl⟩;refine aS 11 rfl (gf rfl rfl rfl rfl ab ab) ?_;rintro _ _ ⟨j,rfl,rfl⟩;refine aS 12 rfl (Ca rfl rfl rfl (AW he) (vf c)) ?_;rintro _ _ ⟨rfl,rfl⟩;refine aZ (rT (k:=?_));exact⟨_,dH.trans hsb (Cz (s':=j) (u:=b) c he n),rfl,rfl⟩
  have f:∀q,e.l.getLast? =some q→q.d≠d:=λq x=>by
   have:=Q0 x;have:=List.length_pos_of_mem this;omega
  refine gk (k:=fM (k:=go ?_));refine wD [8,10,11,12] (λk H=>(k=2→dQ H g [w,t,s,.map (some r)])∧(k=3→dQ H g [w,t,s,.map (some r)])) (aF 0 (k:=aF 1 (k:=?_)));refine aN 2 rfl (λH hH=>bM) ?_;refine aN 3 rfl (λH hH=>aM) (go ?_);refine aS 8 rfl (fK eI rfl rfl) ?_;rintro _ _ ⟨b,rfl,rfl⟩;rw[show Row b eI [(p:Int)]=Row b eI (dT [p])from rfl];refine af_ 9 (q:=ea λH hH=>bld [(0,_),(1,_)]) (k:=?_);refine aS 10 rfl (fK ePo rfl rfl) ?_;rintro _ _ ⟨y,rfl,rfl⟩;refine aS 11 rfl (gf rfl rfl rfl rfl ab ab) ?_;rintro _ _ ⟨j,rfl,rfl⟩;refine aS 12 rfl (Ca rfl rfl rfl (AW he) (vf c)) ?_;rintro _ _ ⟨rfl,rfl⟩;refine aZ (rT (k:=?_));exact⟨_,dH.trans hsb (Cz (s':=j) (u:=b) c he f),rfl,rfl⟩
 refine eu (dH.nilRow (e:=ePo) dH.refl) ?_;have h:([]:List (Nat×SV)).length=0:=rfl;refine e_ asn (on_ (qn_ (ws_ (ws_ (wr_ (e_ mv (e_ lnn (e_ asn (on_ (qn_ (ws_ (wr_ (e_ mv ?_)))))))))))));refine e_ igt (sp_ mv (k:=λh3=>?_) (m:=λh3=>?_))
 ·exact absurd h3 a8
 refine gk (k:=fM (k:=go ?_));refine wD [8,10,11,12] (λk H=>(k=2→dQ H g [w,t,s,.map (some r)])∧(k=3→dQ H g [w,t,s,.map (some r)])) (aF 0 (k:=aF 1 (k:=?_)));refine aN 2 rfl (λH hH=>bM) ?_;refine aN 3 rfl (λH hH=>aM) (go ?_);refine aS 8 rfl (fK eI rfl rfl) ?_;rintro _ _ ⟨b,rfl,rfl⟩;rw[show Row b eI [(p:Int)]=Row b eI (dT [p])from rfl];refine af_ 9 (q:=ea λH hH=>bld [(0,_),(1,_)]) (k:=?_);refine aS 10 rfl (fK ePo rfl rfl) ?_;rintro _ _ ⟨y,rfl,rfl⟩;refine aS 11 rfl (gf rfl rfl rfl rfl ab ab) ?_;rintro _ _ ⟨j,rfl,rfl⟩;refine aS 12 rfl (Cb rfl rfl rfl hno) ?_;rintro _ _ ⟨rfl,rfl⟩;refine aZ (rT (k:=?_));exact⟨_,dH.trans hsb (Ib (s':=j) (u:=b) c hno),rfl,rfl⟩
end
section
variable {H:dD}{fs:List FV}{i:Nat}{l:List (SV×List Nat)}{t:Tok}
abbrev Val:=ByteArray×ByteArray
abbrev Doc:=Int×List Val
def eD:Enc (Int×SV):=⟨λp=>[.int .i64 p.1,p.2.val],2,true,λ_=>rfl,λp v h=>by simp at h;rcases h with rfl|rfl <;> rfl,ae,λh=>aK,ae⟩
instance {p:Int×SV}:kV eD p (.agg [.int .i64 p.1,p.2.val].toArray):=⟨rfl⟩
instance {d:Int}{s:SV}:gP eD (.agg [.int .i64 d,s.val].toArray) (d,s):=⟨rfl⟩
def gK (H:dD) (l:List (Int×SV)) (ds:List Doc):Prop:=l.length=ds.length∧∀(i:Nat) (p:Int×SV) (q:Doc),l[i]? =some p→ds[i]? =some q→p.1=q.1∧Sl H p.2 eVl q.2
theorem gK.get {l:List (Int×SV)}{ds:List Doc}(h:gK H l ds) (hi:i<l.length):∃d s a,l[i]? =some (d,s)∧ds[i]? =some (d,a)∧Sl H s eVl a:=by
 obtain⟨p,hp⟩:∃p,l[i]? =some p:=⟨_,Yi hi⟩;obtain⟨q,b⟩:∃q,ds[i]? =some q:=⟨_,Yi (by rw[←h.1];exact hi)⟩;obtain⟨h1,h2⟩:=h.2 i p q hp b;exact⟨p.1,p.2,q.2,hp,by rw[b,h1],h2⟩
theorem gK.tail {A:Hp}{l:List (Int×SV)}{ds:List Doc}(h:gK H l ds):gK (A::H) l ds:=⟨h.1,λi p q hp a=>by
 obtain⟨h1,h2⟩:=h.2 i p q hp a;exact⟨h1,Sl.tail⟩⟩
def dsz (ds:List Doc):Nat:=(ds.map λd=>vsz d.2).sum
theorem Fx (ds:List Doc) (i:Nat):dsz (ds.take i)≤dsz ds:=by
 rw[dsz,dsz,List.map_take];exact qH _ _
theorem rP {ds:List Doc}{d:Doc}(h:d∈ds):vsz d.2≤dsz ds:=by
 induction ds with
 |nil=>simp at h
 |cons e ds ih=>
  simp only[dsz,Xs,Vv]at ih⊢;rcases Xo.1 h with rfl|h
  ·omega
  ·have:=ih h;omega
theorem oU (fs:List FV) (k:Nat) (vs:List Val):(eZ fs k vs).length≤vsz vs:=by
 unfold eZ
 split
 ·rename_i p hp;have:=B7 p vs vs.length _ _ rfl;rw[Xn]at this;exact this.2
 ·simp
def od (fs:List FV) (f k:Nat) (vs:List Val):List Tri:=(eZ fs f vs).map λt=>(dC (tZ f (eG t.text)),k,t.pos)
def gN (fs:List FV) (f:Nat):Nat→List Doc→List Tri
 |_, []=>[]
 |k,d::r=>od fs f k d.2++gN fs f (k+1) r
theorem yo (fs:List FV) (f:Nat):∀(l:List Doc) (k:Nat) (d:Doc),gN fs f k (l++ [d])=gN fs f k l++od fs f (k+l.length) d.2
 | [],k,d=>by simp[gN]
 |e::l,k,d=>by
  rw[Yd,gN,yo fs f l (k+1) d,gN,Yf,Yb,show k+1+l.length=k+(l.length+1)from a8]
theorem Fy {f:Nat}{ds:List Doc}{d:Doc}(h:ds[i]? =some d):gN fs f 0 (ds.take (i+1))=gN fs f 0 (ds.take i)++od fs f i d.2:=by
 have hi:=(Yk.1 h).1;rw[dK h,yo,Yg,Ug a8,Vw]
theorem vx (fs:List FV) (f:Nat):∀(l:List Doc) (k:Nat),(gN fs f k l).length≤dsz l
 | [],_=>by simp[gN]
 |d::l,k=>by
  have h1:=vx fs f l (k+1);have h2:=oU fs f d.2;simp only[gN,dsz,od,Ya,Yh,Xs,Vv]at*;omega
def fU (fs:List FV) (ds:List Doc):List Tri:=(List.range fs.length).flatMap λf=>gN fs f 0 ds
def pL (fs:List FV) (ds:List Doc) (f:Nat):List Tri:=(List.range f).flatMap λf=>gN fs f 0 ds
theorem uU (fs:List FV) (ds:List Doc) (f:Nat):pL fs ds (f+1)=pL fs ds f++gN fs f 0 ds:=by simp[pL,X9]
theorem CC (fs:List FV) (ds:List Doc):∀f,(pL fs ds f).length≤f*dsz ds
 | 0=>by simp[pL]
 |f+1=>by
  have h1:=CC fs ds f;have h2:=vx fs f ds 0;rw[uU,Ya,Vy,Nat.one_mul];omega
def eL (fs:List FV) (ds:List Doc) (f:Nat):List Nat:=ds.map λd=>(eZ fs f d.2).length
theorem Ec {p:FV}{w:List Nat}(h:t∈fF p w):t.text.length≤64:=by
 rw[fF]at h
 split at h
 ·obtain⟨t0,h0,hk⟩:=List.mem_filterMap.1 h;rw[me]at hk
  split at hk
  ·split at hk
   ·obtain rfl:=Xk hk;assumption
   ·cases hk
  ·cases hk
 ·split at h
  ·split at h
   ·simp at h;subst h;assumption
   ·simp at h
  ·split at h
   ·split at h
    ·simp at h;subst h;rw[oH];decide
    ·simp at h
   ·simp at h
theorem rL (p:FV) (vs:List Val):∀i,∀t∈(gM p vs i).2,t.text.length≤64
 | 0,t,h=>by simp[gM]at h
 |i+1,t,h=>by
  rw[gM]at h
  split at h
  ·exact rL p vs i t h
  ·split at h
   ·rcases Xm.1 h with h|h
    ·exact rL p vs i t h
    ·obtain⟨a,h0,rfl⟩:=Xt.1 h;exact Ec (t:=a) h0
   ·exact rL p vs i t h
theorem vY {k:Nat}{vs:List Val}(h:t∈eZ fs k vs):t.text.length≤64:=by
 unfold eZ at h
 split at h
 ·exact rL _ _ _ t h
 ·simp at h
def lnH (z:SV×List Nat):dD:= [Row z.1 eI (dT z.2)]
theorem GI {z:SV×List Nat}(h:l[i]? =some z):dH (Cl lnH l::H) (Row z.1 eI (dT z.2)::Cl lnH (l.take i)::Cl lnH (l.drop (i+1))::H):=lY (f:=lnH) h
theorem Lq (z:SV×List Nat) (hi:i<l.length):dH (Row z.1 eI (dT z.2)::Cl lnH (l.take i)::Cl lnH (l.drop (i+1))::H) (Cl lnH (l.set i z)::H):=ur (f:=lnH) z hi
theorem AS (z:SV×List Nat):dH (Row z.1 eI (dT z.2)::Cl lnH l::H) (Cl lnH (l++ [z])::H):=o4 (f:=lnH) z
theorem Lp:∀n,dH H (Cl lnH (List.replicate n (SV.nil, []))::H)
 | 0=>ga dH.refl
 |n+1=>by
  rw[List.replicate_succ'];exact((Lp n).trans (dH.nilRow (e:=eI) dH.refl)).trans (AS (SV.nil, []))
theorem HM {r:Nat}{R:dD}:dH (Mv r []::R) (kl r []::R):=(ga dH.refl).trans (tu (es:= []) iE.nil)
theorem Lr {zs:List (SV×List Nat)}{A:List (List Nat)}{n:Nat}(s:SV) (x:List Nat) (h:zs.map (·.2)=A++List.replicate (n+1) []):(zs.set A.length (s,x)).map (·.2)=A++ [x]++List.replicate n []:=by
 rw[R9,h,V6,Ux _ _ (Xl _),Ui];simp
theorem G5 {G:dJ}{fv dv:SV}{l:List (Int×SV)}{ds:List Doc} [hf:Sl H fv eF fs] [hd:Sl H dv eD l] [Spc H] (Z:kh G) (L:gK H l ds) (hfl:fs.length≤16) (hn:ds.length≤100000) (Y:∀d∈ds,d.2.length≤100000000∧∀v∈d.2,v.2.size≤3000000) (V:dsz ds≤30000000):
 SC G prog 114 [.agg #[fv.val],dv.val] H (λv H'=>∃(g:Nat) (b:SV) (r:Nat) (zs:List (SV×List Nat)),v=pA g∧zs.map (·.2)=(List.range fs.length).map (eL fs ds)∧H'=Vr g [fv.val,dv.val,b.val,.map (some r)]::Row b eSV (zs.map (·.1))::Cl lnH zs::kl r (fU fs ds)::H):=by
 have K:=L.1;refine sWk func114 ?_;refine gk (k:=bxx (k:=λM=>?_));refine e_ asn (on_ (qn_ (ru (Nat×SV×Nat) (λy=>True) (λy=>[(5,pA y.1)]) [5,12,13,14,15,16,17,18,19,20] (λy=>[Vr y.1 [fv.val,dv.val,y.2.1.val,.map (some y.2.2)],Row y.2.1 eSV (List.replicate fs.length SV.nil),Mv y.2.2 []]) (Vr M [fv.val]::H) ?_ ?_)))
 ·refine wD [5,6,8] (λk H=>(k=0→dQ H M [fv.val])∧(k=3→dQ H M [fv.val])∧(k=4→Sl H fv eF fs)) (?_);refine aN 0 rfl (λH hH=>aX) (?_);refine aF 1 (k:=aF 2 (k:=?_));refine aN 3 rfl (λH hH=>ar) (?_);refine go ?_;refine Bw 5 6 rfl rfl (aa) rfl rfl (λk hk=>⟨λhi=>bm,λhi=>bm,λhi=>bm⟩) (gn eSV SV.nil rfl rfl _ _ rfl rfl rfl (a8) (a8) (a8)) (x8) ?_ ?_
  ·rintro _ _ ⟨h,rfl,p,u,rfl⟩;refine aS 6 rfl (x8) ?_;rintro _ _ ⟨n,rfl,rfl⟩;refine af_ 7 (q:=ea λH hH=>bld [(0,_),(1,_),(2,_),(3,_)]) (k:=?_);refine aS 8 rfl (x9 rfl) ?_;rintro _ _ ⟨x,rfl,rfl⟩;refine gk (k:=aZ (jnE ((x,h,n)) (q:=?_)));trivial
  rintro _ _ ⟨n,rfl,rfl⟩;refine aS 5 rfl (gn eSV SV.nil rfl rfl _ _ rfl rfl rfl (a8) (a8) (a8)) ?_;rintro _ _ ⟨h,rfl,p,u,rfl⟩;refine af_ 7 (q:=ea λH hH=>bld [(0,_),(1,_),(2,_),(3,_)]) (k:=?_);refine aS 8 rfl (x9 rfl) ?_;rintro _ _ ⟨x,rfl,rfl⟩;refine gk (k:=aZ (jnE ((x,h,n)) (q:=?_)));trivial
 rintro⟨g,b,r⟩ -
 try dsimp only[Yd,Ye]at*
 refine ws_ (ws_ (wr_ (?_)));refine eu (dH.keep (dH.keep HM)) ?_;refine eu (Lp fs.length) ?_;rw[show List.replicate fs.length SV.nil=(List.replicate fs.length ((SV.nil, []):SV×List Nat)).map (·.1)from aq,show kl r []=kl r (pL fs ds 0)from rfl];refine gk (k:=e8 (Nat×(List (SV×List Nat))) (λy=>y.1≤fs.length∧y.2.map (·.2)=(List.range y.1).map (eL fs ds)++List.replicate (fs.length-y.1) []) (λy=>[(24,iN y.1)]) [(1,_),(2,_),(5,_),(23,_)] (λy=>[Row b eSV (y.2.map (·.1)),Cl lnH y.2,kl r (pL fs ds y.1)]) _ (λy=>fs.length-y.1) ((0,List.replicate fs.length (SV.nil, []))) (h0:=?_) (k:=?_))
 ·try dsimp only
  exact⟨Yl _,aq⟩
 rintro⟨f,zs⟩ ⟨hf1,hzs⟩
 try dsimp only[Yd,Ye]at*
 refine gW (λh1=>?_) (λh1=>?_)
 ·have hzl:zs.length=fs.length:=by have:=congrArg List.length hzs;simp at this;omega
  obtain⟨z,V⟩:=gE zs f;have hml:(zs.map (·.1)).length=zs.length:=Yh ..;have J:(dT (eL fs ds f)).length=l.length:=by rw[eJ,eL,Yh,K]
  obtain⟨N,T⟩:∃N,fs.length-f=N+1:=⟨fs.length-f-1,a8⟩;have E:=λs=>Lr (A:=(List.range f).map (eL fs ds)) s (eL fs ds f) (by rw[←T];exact hzs);rw[Yh,List.length_range]at E;refine go ?_;refine wD [7,9] (λk H=>(k=2→dQ H g [fv.val,dv.val,b.val,.map (some r)])∧(k=3→dQ H g [fv.val,dv.val,b.val,.map (some r)])∧(k=6→Sl H dv eD l)∧(k=8→Sl H b eSV (zs.map (·.1)))) (aF 0 (k:=aF 1 (k:=?_)));refine aN 2 rfl (λH hH=>bM) (?_);refine aN 3 rfl (λH hH=>ar) (?_);refine aF 4 (k:=aF 5 (k:=?_));refine go ?_;refine aS 7 rfl (gn eI 0 rfl rfl _ _ rfl rfl rfl (a8) (a8) (a8)) ?_;rintro _ _ ⟨a,rfl,hs34n,hs34c,rfl⟩;refine go ?_;refine aS 9 rfl (et (i:=f) rfl rfl rfl (a8)) ?_;rintro _ _ ⟨rfl,rfl⟩;refine aZ (qn_ (ws_ (wr_ (?_))));rw[show(zs.map (·.1)).set f a=(zs.set f (a,eL fs ds f)).map (·.1)from by rw[R9],show Row a eI (List.replicate l.length (0:Int))=Row a eI (gx (dT (eL fs ds f)) 0 0)from by rw[mW,J],show kl r (pL fs ds f)=kl r (pL fs ds f++gN fs f 0 (ds.take 0))from by simp[gN]];refine eu (gJ (A:=Cl lnH zs) inferInstance ((GI V).trans (dH.drop dH.refl))) ?_;have F:((zs.set f (a,eL fs ds f)).map (·.1))[f]? =some a:=by rw[Xd,Ue (a8)];rfl
  have hlvl:((zs.set f (a,eL fs ds f)).map (·.1)).length=fs.length:=by rw[Yh,Ub,hzl]
  refine gk (k:=e8 (Nat) (λy=>y≤l.length) (λy=>[(38,iN y)]) [(1,_),(2,_),(5,_),(6,_),(23,_),(24,_),(36,_),(37,_)] (λy=>[Row a eI (gx (dT (eL fs ds f)) 0 y),kl r (pL fs ds f++gN fs f 0 (ds.take y))]) _ (λy=>l.length-y) (0) (h0:=?_) (k:=?_))
  ·try dsimp only
   exact Yl _
  rintro j hj
  try dsimp only[Yd,Ye]at*
  refine gW (λh2=>?_) (λh2=>?_)
  ·obtain⟨d,s,vs,hlj,w,hsl⟩:=L.get (i:=j) (a8);have e:=Yj w;obtain⟨C,B⟩:=Y _ e;have R:=rP e;have hfl2:=oU fs f vs;have hp1:=CC fs ds f;have hp2:=vx fs f (ds.take j) 0;have hp3:=Fx ds j;have hp4:f*dsz ds≤16*dsz ds:=Vu _ (a8);have hg1:(dT (eL fs ds f))[j]? =some (((eZ fs f vs).length:Nat):Int):=gh (by rw[eL,Xd,w];rfl);have hfll:=kG (full:=dT (eL fs ds f)) (z:=(0:Int)) (i:=j) (a8);simp only at C B R;refine gk (k:=alc (k:=λb8=>?_));refine go ?_;refine c3_ rfl (Sf Z (a8) (a8) C B (a8)) ?_;rintro _ _ ⟨s47,rfl,rfl⟩;refine e_ asn (on_ (qn_ (ws_ (wr_ (e_ mv (e_ nck (e_ fla (e_ ldv (e_ mv (e_ ixa (e_ (lel (hy:=F)) (go ?_))))))))))));refine go ?_;refine s_ (et (i:=j) rfl rfl rfl (a8)) ?_;rintro _ _ ⟨rfl,rfl⟩;rw[oT hg1];refine on_ (qn_ (ws_ (wr_ (?_))));rw[show kl r (pL fs ds f++gN fs f 0 (ds.take j))=kl r (pL fs ds f++gN fs f 0 (ds.take j)++(od fs f j vs).take 0)from aq];refine gk (k:=e8 (Nat) (λy=>y≤(eZ fs f vs).length) (λy=>[(61,iN y)]) [(1,_),(2,_),(5,_),(6,_),(7,_),(23,_),(24,_),(36,_),(37,_),(38,_),(59,_),(60,_)] (λy=>[kl r (pL fs ds f++gN fs f 0 (ds.take j)++(od fs f j vs).take y)]) _ (λy=>(eZ fs f vs).length-y) (0) (h0:=?_) (k:=?_))
   ·try dsimp only
    exact Yl _
   rintro m hm
   try dsimp only[Yd,Ye]at*
   refine gW (λh3=>?_) (λh3=>?_)
   ·obtain⟨t,X⟩:=gE (eZ fs f vs) m;have htl:=vY (Yj X);have S:(od fs f j vs).take (m+1)=(od fs f j vs).take m++ [(dC (tZ f (eG t.text)),j,t.pos)]:=by simp only[od,←List.map_take];exact tS X
    have htl3:((od fs f j vs).take m).length≤(eZ fs f vs).length:=by rw[Yg,od,Yh];omega
    have U:(pL fs ds f++gN fs f 0 (ds.take j)++(od fs f j vs).take m).length≤1000000000:=aj;have hsz:=j9 t.text;refine gk (k:=alc (k:=λc=>?_));refine go ?_;refine wD [8] (λk H=>(k=2→dQ H c [.string (eG t.text),iN t.value,iN t.pos,iN t.st,iN t.en])∧(k=3→dQ H c [.string (eG t.text),iN t.value,iN t.pos,iN t.st,iN t.en])∧(k=6→dQ H c [.string (eG t.text),iN t.value,iN t.pos,iN t.st,iN t.en])∧(k=7→dQ H c [.string (eG t.text),iN t.value,iN t.pos,iN t.st,iN t.en])) (aF 0 (k:=aF 1 (k:=?_)));refine aN 2 rfl (λH hH=>bM) (?_);refine aN 3 rfl (λH hH=>ar) (?_);refine dS 4 rfl rfl (aa) rfl (λH _=>iR (vs:= [_,_]) rfl (Wc (a8)) H rfl) (?_);refine aF 5 (k:=?_);refine aN 6 rfl (λH hH=>by have hN:=hH.2.2.1 rfl;exact fla) (?_);refine go ?_;refine aS 8 rfl (lU (vs:= [_,_,_,_]) rfl (Z8 (r:=r) U)) ?_;rintro _ _ ⟨rfl,rfl⟩;rw[Yf,←S];refine aZ (go ?_);refine lN (m+1) ?_
    try dsimp only
    omega
   obtain rfl:m=(eZ fs f vs).length:=a8;rw[Yf,show gN fs f 0 (ds.take j)++(od fs f j vs).take (eZ fs f vs).length=gN fs f 0 (ds.take (j+1))from by rw[Fy w,show(od fs f j vs).take (eZ fs f vs).length=od fs f j vs from Xr (by simp[od])]];refine go ?_;refine lN (j+1) ?_
   try dsimp only
   omega
  obtain rfl:j=l.length:=a8;rw[show gx (dT (eL fs ds f)) 0 l.length=dT (eL fs ds f)from by rw[←J,nu],show ds.take l.length=ds from by rw[K,Xn],←uU];refine we_ (qe_ (le_ (bh_ (bn_ (qn_ (wr_ (?_)))))));refine eu (dH.trans (H':=Row a eI (dT (eL fs ds f))::Cl lnH (zs.take f)::Cl lnH (zs.drop (f+1))::Row b eSV ((zs.set f (a,eL fs ds f)).map (·.1))::kl r (pL fs ds (f+1))::Vr g [fv.val,dv.val,b.val,.map (some r)]::Vr M [fv.val]::H) (hsb) (Lq (a,eL fs ds f) (a8))) ?_;refine go ?_;refine lN ((f+1,zs.set f (a,eL fs ds f))) ?_
  try dsimp only
  exact⟨a8,by rw[E a,X9,Xp,show fs.length-(f+1)=N from a8];rfl⟩
 obtain rfl:f=fs.length:=a8;rw[Ui,List.replicate_zero,Ym]at hzs;rw[show pL fs ds fs.length=fU fs ds from rfl];refine gR ?_;exact⟨_,hsb,g,b,r,zs,rfl,hzs,rfl⟩
end
section
variable {k:List Nat}{ts:List Tri}
abbrev nQ:=List Nat×List Po
def j8:Nat→List nQ→List En
 |_, []=>[]
 |n,p::r=>⟨eG p.1,p.2.length,ec p.2,n,(eO p.2).length⟩::j8 (n+(eO p.2).length) r
def eV (rs:List nQ):List Nat:=rs.flatMap λp=>eO p.2
theorem ka:∀(rs:List nQ) (n:Nat),(j8 n rs).length=rs.length
 | [],_=>rfl
 |p::r,n=>by simp[j8,ka r]
theorem qR {rs:List nQ}{i:Nat}{p:nQ}(h:rs[i]? =some p):eV (rs.take (i+1))=eV (rs.take i)++eO p.2:=by rw[dK h];simp[eV]
theorem oV:∀{rs:List nQ}{n i:Nat}{p:nQ},rs[i]? =some p→(j8 n rs)[i]? =some ⟨eG p.1,p.2.length,ec p.2,n+(eV (rs.take i)).length,(eO p.2).length⟩
 | [],_,_,_,h=>aK
 |q::r,n,0,p,h=>by simp at h;subst h;simp[j8,eV]
 |q::r,n,i+1,p,h=>by
  rw[Xc]at h;rw[j8,Xc,oV h,Vq];simp only[eV,Vx,Ya,V0]
def gD (fs:List FV) (v:Val):List Nat:=uv ((ig fs (dC v.1)).getD 0)++(uv v.2.size++dC v.2)
def tx (fs:List FV) (d:Doc):List Nat:=uv d.2.length++d.2.flatMap (gD fs)
def gm (fs:List FV) (ds:List Doc):List Nat:=ds.flatMap (tx fs)
def nX (fs:List FV) (ds:List Doc) (n:Nat):List Nat:=(List.range n).flatMap λf=>ff (eL fs ds f)
def pU (ds:List Doc):List Nat:=uv ds.length++iQ (-1) (ds.map (·.1))
def oC (fs:List FV) (ds:List Doc):List (Nat×List Nat):= [(1,Bh fs),(2,pU ds),(3,nX fs ds fs.length),(4,iC (j8 0 (eE (fU fs ds)))),(5,eV (eE (fU fs ds))),(6,gm fs ds)]
def Ck (fs:List FV) (ds:List Doc):List Nat:=nN 83 (oC fs ds)
structure yF (ts:List Tri):Prop where
 up:UpT ts
 few:ts.length≤100000000
 small:∀t∈ts,t.1.length≤65∧1≤t.1.length∧(∀x∈t.1,x<256)∧t.2.1≤99999∧t.2.2<1099511627776
theorem wk {x:Nat×Nat}(h:x∈ofK ts k):(k,x)∈ts:=by
 obtain⟨t,a,rfl⟩:=Xt.1 h;obtain⟨h1,h2⟩:=List.mem_filter.1 a;have:=Yt h2;rw[←this];exact h1
theorem CH:∀{l:List Po}{nb m:Nat},j5 nb l→(∀p∈l,p.1≤m)→l.length+nb≤m+1∨l= []
 | [],_,_,_,_=>.inr rfl
 |p::r,nb,m,h,hm=>by
  have h1:=hm p aq;rcases CH (m:=m) h.2.2.2 (λq a=>hm q (Xa _ a))with h2|rfl
  ·left;have:=h.1;simp only[Yb];omega
  ·left;have:=h.1;simp only[Yb,Yc];omega
theorem oP (h:yF ts):j5 0 (jI (ofK ts k))∧fL (jI (ofK ts k))∧ec (jI (ofK ts k))≤ts.length:=by
 obtain⟨h1,h2⟩:=Pw (h.up k);obtain⟨h3,h4⟩:=rK (ofK ts k);have h5:=AN ts k;have hd:∀p∈jI (ofK ts k),p.1≤99999:=λp hp=>by
  obtain⟨i,hi⟩:=Vo hp;have a:=(jP h1 hi).2.1;obtain⟨x,hx⟩:=List.exists_mem_of_ne_nil _ a;have:=(h.small _ (wk (h2 p hp x hx))).2.2.2.1
  simpa using this
 refine⟨h1,⟨?_,λp hp=>⟨by have:=hd p hp;omega,?_,λx hx=>(h.small _ (wk (h2 p hp x hx))).2.2.2.2⟩⟩,a8⟩
 ·rcases CH h1 hd with h9|h9
  ·omega
  ·rw[h9];simp
 ·have:∀(l:List Po),p∈l→p.2.length≤ec l:=by
   intro l
   induction l with
   |nil=>intro hh;simp at hh
   |cons q l ih=>
    intro hh;simp only[ec,Xs,Vv]at ih⊢;rcases Xo.1 hh with rfl|hh
    ·omega
    ·have:=ih hh;omega
  have:=this _ hp;have:=h.few;omega
end
section
variable {G:dJ}{H:dD}{i:Nat}{l:List SV}{x:List Nat}{xs:List (List Nat)}
def By (H:dD) (l:List SV) (xs:List (List Nat)):Prop:=l.length=xs.length∧∀(i:Nat) (s:SV) (x:List Nat),l[i]? =some s→xs[i]? =some x→Sl H s eB x
theorem By.get (h:By H l xs) (hi:i<l.length):∃s x,l[i]? =some s∧xs[i]? =some x∧Sl H s eB x:=by
 obtain⟨p,hp⟩:∃p,l[i]? =some p:=⟨_,Yi hi⟩;obtain⟨q,a⟩:∃q,xs[i]? =some q:=⟨_,Yi (by rw[←h.1];exact hi)⟩;exact⟨p,q,hp,a,h.2 i p q hp a⟩
theorem By.two {s u:SV}{y:List Nat} [h1:Sl H s eB x] [h2:Sl H u eB y]:By H [s,u] [x,y]:=⟨rfl,λi p q hp a=>by
 match i,hp,a with
 | 0,hp,a=>simp at hp a;subst hp;subst a;exact h1
 | 1,hp,a=>simp at hp a;subst hp;subst a;exact h2⟩
theorem BQ {α:Type}(l:List α) (a b:Nat):(l.take (min b l.length)).drop a=(l.take b).drop a:=by
 rw[←List.take_eq_take_min]
theorem Gy:∀{l:List Po}{nb:Nat},j5 nb l→∀p∈l,nb≤p.1
 | [],_,_,p,hp=>by simp at hp
 |q::r,nb,h,p,hp=>by
  rcases Xo.1 hp with rfl|hp
  ·exact h.1
  ·have:=Gy h.2.2.2 p hp;have:=h.1;omega
theorem By.tail {A:Hp}(h:By H l xs):By (A::H) l xs:=⟨h.1,λi s x h1 h2=>by have:=h.2 i s x h1 h2;exact Sl.tail⟩
theorem vl (h:xs[i]? =some x):(xs.take (i+1)).flatten=(xs.take i).flatten++x:=by
 rw[dK h];simp
theorem B8 (xs:List (List Nat)) (i:Nat):(xs.take i).flatten.length≤xs.flatten.length:=by
 conv=>rhs;rw[←Vd i xs,List.flatten_append,Ya]
 omega
theorem II (h:xs[i]? =some x):(gx xs.flatten 0 (xs.take i).flatten.length).take (xs.take i).flatten.length++x.take x.length++(gx xs.flatten 0 (xs.take i).flatten.length).drop ((xs.take i).flatten.length+x.length)=gx xs.flatten 0 (xs.take (i+1)).flatten.length:=by
 have b:=B8 xs (i+1);have a:=vl h;rw[a,Ya]at b;have e:xs.flatten=(xs.take i).flatten++(x++(xs.drop (i+1)).flatten):=by
  rw[←Yf,←a,←List.flatten_append,Vd]
 have h1:xs.flatten.take (xs.take i).flatten.length=(xs.take i).flatten:=by
  conv=>lhs;rw[e]
  exact T9 ..
 have h2:xs.flatten.take (xs.take (i+1)).flatten.length=(xs.take i).flatten++x:=by
  conv=>lhs;rw[e,←Yf,←a]
  rw[T9,a]
 rw[gx,gx,h1,h2,a,Ya,T9,Xn,List.drop_append,Vn a8,List.drop_replicate];simp only[Ye,Q4];rw[show xs.flatten.length-(xs.take i).flatten.length-x.length=xs.flatten.length-((xs.take i).flatten.length+x.length)from a8]
theorem Qf {p:SV} [hs:Sl H p eSV l] (hl:By H l xs) (hm:xs.length≤1000000000) (hn:xs.flatten.length≤1000000000000):SC G prog 136 [p.val] H (λv r=>∃q:SV,v=q.val∧r=Row q eB xs.flatten::H):=by
 have g:=hl.1;refine sWk func136 ?_;refine go ?_;refine gk (k:=e8 Nat (λy=>y≤l.length) (λy=>[(3,iN ((xs.take y).flatten.length)),(12,iN y)]) [(0,_),(10,_),(11,_)] (λy=>[]) _ (λy=>l.length-y) (0) (h0:=?_) (k:=?_))
 ·exact Yl _
 rintro i hi
 try dsimp only[Yd,Ye]at*
 refine gW (λh1=>?_) λh1=>?_
 ·obtain⟨s,x,j,e,h⟩:=hl.get (i:=i) a8;have c:=vl e;have f:=B8 xs (i+1);rw[c,Ya]at f;refine wk_ (qn_ (ws_ (wb_ (ws_ (wr_ (e_ ixa (e_ lel (e_ asn (on_ (qn_ (wr_ (e_ mv (e_ mv ?_)))))))))))));refine e_ lnn (e_ iad (e_ asn (on_ (bn_ (qn_ (wr_ ?_))))));rw[show(((xs.take i).flatten.length:Nat):Int)+(x.length:Int)=(((xs.take (i+1)).flatten.length:Nat):Int)from by rw[c,Ya];omega];refine go ?_;refine lN (i+1) ?_
  try dsimp only
  omega
 obtain rfl:i=l.length:=a8;rw[show xs.take l.length=xs from by rw[g,Xn]];refine go ?_;refine s_ (gn eB 0 rfl rfl _ _ rfl rfl rfl a8 a8 a8) ?_;rintro _ _ ⟨d,rfl,hs22n,hs22c,rfl⟩;refine e_ asn (on_ (qn_ (ws_ (wr_ ?_))));rw[show Row d eB (List.replicate xs.flatten.length 0)=Row d eB (gx xs.flatten 0 (xs.take 0).flatten.length)from by simp[gx]];refine gk (k:=e8 Nat (λy=>y≤l.length) (λy=>[(7,iN ((xs.take y).flatten.length)),(25,iN y)]) [(6,_),(23,_),(24,_)] (λy=>[Row d eB (gx xs.flatten 0 (xs.take y).flatten.length)]) _ (λy=>l.length-y) (0) (h0:=?_) (k:=?_))
 ·exact Yl _
 rintro i hi
 try dsimp only[Yd,Ye]at*
 refine gW (λh2=>?_) λh2=>?_
 ·obtain⟨s,x,j,e,h⟩:=hl.get (i:=i) a8;have c:=vl e;have f:=B8 xs (i+1);have n:=II e;rw[c,Ya]at f;have m:=kG (full:=xs.flatten) (z:=0) (i:=(xs.take i).flatten.length) a8;refine wk_ (qn_ (ws_ (wb_ (ws_ (wr_ (e_ ixa (e_ lel (e_ asn (on_ (qn_ (wr_ (e_ mv (e_ mv ?_)))))))))))));refine e_ mv ?_;refine e_ (fV rfl bH (xs.take i).flatten.length xs.flatten.length ⟨_,_,rfl,rfl⟩ (by rw[m]) a8 a8) (go ?_);refine s_ (Gd (a:=(xs.take i).flatten.length) (b:=xs.flatten.length) rfl rfl bH a8 a8 x.length a8) ?_;rintro _ _ ⟨rfl,rfl⟩;rw[n];refine e_ iad (e_ asn (on_ (bn_ (qn_ (wr_ ?_)))));rw[show(((xs.take i).flatten.length:Nat):Int)+(x.length:Int)=(((xs.take (i+1)).flatten.length:Nat):Int)from by rw[c,Ya];omega];refine go ?_;refine lN (i+1) ?_
  try dsimp only
  omega
 obtain rfl:i=l.length:=a8;rw[show xs.take l.length=xs from by rw[g,Xn],nu];refine gR ?_;exact⟨_,hsb,d,rfl,rfl⟩
theorem Sg {s:SV}{l:List (Nat×SV)}{ps:List Po} [hg:Glb G H] [hs:Sl H s ePo l] (hp:su H l ps) (f:j5 0 ps) (hsm:fL ps) (ht:ec ps≤1000000000):SC G prog 216 [s.val] H (λv V=>∃S:SV,v=.tuple #[S.val,.nilIface]∧V=Row S eB (eO ps)::H):=by
 have hpl:=hp.1;have hT:∀i,ec (ps.take i)≤ec ps:=λi=>by
  conv=>rhs;rw[←Vd i ps,m6]
  omega
 have hpn:=hsm.1;refine sWk func216 ?_;refine go ?_;refine gk (k:=e8 Nat (λy=>y≤l.length) (λy=>[(4,.int .i64 (((fB 0 (ps.take y):Nat):Int)-1)),(5,iN (ec (ps.take y))),(18,iN y)]) [(0,_),(16,_),(17,_)] (λy=>[]) _ (λy=>l.length-y) (0) (h0:=?_) (k:=?_))
 ·exact Yl _
 rintro i hi
 try dsimp only[Yd,Ye]at*
 refine gW (λh1=>?_) λh1=>?_
 ·obtain⟨sp,pos,J,e,hsl⟩:=hp.get (i:=i) a8;generalize (ps.getD i (0, [])).1=d at J e;obtain⟨A,z,j⟩:=jP f e;have b:=hsm.2 _ (Yj e);simp only at A b z j;have hposl:=eJ pos;have u:=ry e;have hTi:=hT (i+1);simp only at u;refine gk (k:=alc (k:=λb7=>?_));refine go ?_;refine d2_ rfl (NN b.1 A z j b.2.1) (e_ asn (on_ (qn_ (ws_ (wr_ (e_ mv ?_))))));refine e_ (dL rfl) ?_;refine on_ (qn_ (fM (k:=wk_ (qn_ (ws_ (wr_ (e_ fla (e_ ldv (e_ asn (on_ (qn_ (wr_ (e_ mv ?_)))))))))))));refine e_ fla (e_ ldv (e_ lnn (e_ iad (e_ asn (on_ (bn_ (qn_ (wr_ ?_))))))));have m:fB 0 (ps.take (i+1))=d+1:=sV e;rw[show(d:Int)=((fB 0 (ps.take (i+1)):Nat):Int)-1 from by rw[m];omega,show((ec (ps.take i):Nat):Int)+(((dT pos).length:Nat):Int)=((ec (ps.take (i+1)):Nat):Int)from a8];refine go ?_;refine lN (i+1) ?_
  try dsimp only
  omega
 obtain rfl:i=l.length:=a8;rw[show ps.take l.length=ps from by rw[hpl,Xn]];refine go ?_;refine c0_ rfl iM ?_;rintro _ _ ⟨N,rfl,rfl⟩;refine c0_ rfl iM ?_;rintro _ _ ⟨R,rfl,rfl⟩;refine e_ asn (e_ asn (on_ (qn_ (ws_ (wr_ (e_ mv (e_ mv (e_ lnn ?_))))))));refine e_ ((ad)) ?_;refine d2_ rfl (gl l.length a8 aq) (on_ (qn_ (ws_ (wr_ (e_ mv (e_ mv ?_))))));refine e_ ((ad)) ?_;refine d2_ rfl (gl _ a8 (by have:=gb (n:=l.length) (k:=6) a8 a8;simp only[Ya,Yc];omega)) (on_ (qn_ (ws_ (wr_ ?_))));obtain⟨hd,r⟩:=ex ([]++uv l.length++uv (ec ps));have hhl:hd.length≤12:=by
  have h1:=gb (n:=l.length) (k:=6) a8 a8;have h2:=gb (n:=ec ps) (k:=6) a8 a8;rw[r];simp only[Ya,Yc];omega
 rw[←r,show Wr N hd=Wr N (hd++(dP ps 0).2.1)from by simp[dP],show Wr R []=Wr R (dP ps 0).2.2 from rfl];have B:=kO hsm;have hbk:16*eC ps≤ps.length+15:=cR;refine gk (k:=e8 Nat (λy=>y≤eC ps) (λy=>[(11,.int .i64 ((((dP ps y).1:Nat):Int)-1)),(12,iN (16*y))]) [(0,_),(9,_),(10,_)] (λy=>[Wr N (hd++(dP ps y).2.1),Wr R (dP ps y).2.2]) _ (λy=>eC ps-y) (0) (h0:=?_) (k:=?_))
 ·exact Yl _
 rintro k hk
 try dsimp only[Yd,Ye]at*
 refine gW (λh2=>?_) λh2=>?_
 ·have hlt:16*k<ps.length:=by omega
  have hkb:k<eC ps:=cR;obtain⟨M,C,L⟩:=B k;have u:=hT (16*k);have hlk:(ps.take (16*k)).length≤ps.length:=az;have g:=pb ps k;have t:=p9 hsm k;have hbT:ec (ei ps k)≤ec ps:=by
   have:=hT (16*(k+1));rw[←lQ,m6]at this;omega
  have hbl:=uy (nb:=(dP ps k).1) t;have a:=hp.cut (16*k) (16*k+16);rw[show(ps.take (16*k+16)).drop (16*k)=ei ps k from rfl]at a;have K:=a.1;obtain⟨q,E⟩:∃q,(ei ps k).getLast? =some q:=by
   rcases X4 (ei ps k)with h|⟨c,q,h⟩
   ·rw[h]at g;simp at g;omega
   ·exact⟨q,by rw[h];simp⟩
  have hql:fB (dP ps k).1 (ei ps k)=q.1+1:=by rw[fB,E]
  have w:(ei ps k)[(ei ps k).length-1]? =some q:=by rw[←List.getLast?_eq_getElem?];exact E
  obtain⟨T,x⟩:∃p,((l.take (16*k+16)).drop (16*k))[((l.take (16*k+16)).drop (16*k)).length-1]? =some p:=⟨_,Yi a8⟩;have hpq:=(a.2 _ _ _ x (by rw[K];exact w)).1;have hqs:=(t.2 q (Q0 E)).1;have hqge:(dP ps k).1≤q.1:=by
   have:=(jP (nF f k) w).1;have h0:=jP (nF f k) (i:=0) (Yi a8);exact Gy (nF f k) q (Q0 E)
  refine wk_ (qn_ (ws_ (wb_ (ws_ (wr_ (e_ mv (e_ mv (e_ mv (e_ iad (e_ mv (e_ lnn ?_)))))))))));refine e_ (oh rfl rfl) ?_;refine kJ H rfl (16*k) (min (16*k+16) l.length) ⟨_,_,rfl,(aT)⟩ ⟨_,_,rfl,(aT)⟩ a8 aP rfl (λsb U=>?_);rw[BQ]at U;refine go ?_;refine c2_ rfl (NJ a.tail.tail (nF f k) t a8 a8) ?_;rintro _ _ ⟨s63,rfl,rfl⟩;refine e_ asn (on_ (qn_ (ws_ (wr_ (e_ mv (e_ mv (e_ lnn (e_ isb (e_ (ixa (i:=((l.take (16*k+16)).drop (16*k)).length-1)) (e_ fle (e_ lfl (e_ asn (on_ ?_)))))))))))));refine qn_ (ws_ (wr_ (e_ mv (e_ mv (e_ mv (e_ isb ?_))))));refine e_ (evq isb (congrArg (Value.int .i64) (show _=((fB (dP ps k).1 (ei ps k)-1-(dP ps k).1:Nat):Int)from a8))) ?_;refine e_ ((ad)) ?_;refine d2_ rfl (gl _ a8 aj) ?_;have hu1:=gb (n:=fB (dP ps k).1 (ei ps k)-1-(dP ps k).1) (k:=6) a8 a8;refine on_ (qn_ (ws_ (wr_ (e_ mv (e_ mv (e_ lnn ?_))))));refine e_ ((ad)) ?_;refine d2_ rfl (gl _ a8 aj) (go ?_);refine d2_ rfl (Eb a8 a8) (on_ (qn_ (wr_ (e_ mv (e_ asn (on_ (bn_ (qn_ (wr_ ?_)))))))));rw[show hd++(dP ps k).2.1++uv (fB (dP ps k).1 (ei ps k)-1-(dP ps k).1)++uv (my (dP ps k).1 (ei ps k)).length=hd++(dP ps (k+1)).2.1 from by simp[dP],show(dP ps k).2.2++my (dP ps k).1 (ei ps k)=(dP ps (k+1)).2.2 from rfl];rw[show(T.1:Int)=(((dP ps (k+1)).1:Nat):Int)-1 from by rw[show(dP ps (k+1)).1=fB (dP ps k).1 (ei ps k)from rfl];omega,show((16*k:Nat):Int)+16=((16*(k+1):Nat):Int)from a8];refine go ?_;refine lN (k+1) ?_
  try dsimp only
  omega
 obtain rfl:k=eC ps:=by unfold eC at*;omega
 obtain⟨M,C,L⟩:=B (eC ps);rw[qi]at C;refine go ?_;refine c1_ rfl (kK aj) ?_;rintro _ _ ⟨s88,rfl,rfl⟩;refine go ?_;refine c1_ rfl (kK a8) ?_;rintro _ _ ⟨s90,rfl,rfl⟩;refine s_ (HY eSV rfl rfl rfl) ?_;rintro _ _ ⟨s91,rfl,rfl⟩;refine c1_ rfl (Qf (xs:= [hd++(dP ps (eC ps)).2.1,(dP ps (eC ps)).2.2]) By.two aq aQ) ?_;rintro _ _ ⟨F,rfl,rfl⟩;rw[show [hd++(dP ps (eC ps)).2.1,(dP ps (eC ps)).2.2].flatten=eO ps from by rw[r,hpl];simp[eO]];refine gR ?_;exact⟨_,hsb,F,rfl,rfl⟩
end
def eSk:Enc (Nat×Nat×Nat×Nat):=⟨λp=>[.int .i64 ((p.1:Nat):Int),.int .i64 ((p.2.1:Nat):Int),.int .i64 ((p.2.2.1:Nat):Int),.int .i64 ((p.2.2.2:Nat):Int)],4,true,λ_=>rfl,λp v h=>by simp at h;rcases h with rfl|rfl|rfl|rfl <;> rfl,ae,λh=>aK,ae⟩
instance {p:Nat×Nat×Nat×Nat}:kV eSk p (.agg [.int .i64 ((p.1:Nat):Int),.int .i64 ((p.2.1:Nat):Int),.int .i64 ((p.2.2.1:Nat):Int),.int .i64 ((p.2.2.2:Nat):Int)].toArray):=⟨rfl⟩
end Go.Sx
