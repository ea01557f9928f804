import Derived.Test.YtefgpomabdplbaaGreatDoorQ14
set_option linter.unusedVariables false
set_option linter.unusedSimpArgs false
set_option linter.unusedSectionVars false
set_option linter.unnecessarySimpa false
set_option maxHeartbeats 0
namespace Go.Sx
open Go Go.Proofs
set_option maxRecDepth 100000
def l9 (l:List Int):Bool:=l.any fun x=> decide (x<0)
def rise:List Int→Bool
 |x::y::r=> decide (x<y) && rise (y::r)
 |_=> true
def fP (last:Int):List Int→List Nat
 | []=> []
 |x::xs=> uv (x - last - 1).toNat++fP x xs
theorem pU:∀l:List Int,rise l=true↔∀(i:Nat) (x y:Int),l[i]? =some x→l[i+1]? =some y→x<y
 | []=> by simp[rise]
 | [x]=> by simp[rise]
 |x::y::r=> by
  simp only[rise,Bool.and_eq_true,decide_eq_true_eq,pU (y::r)]
  constructor
  ·rintro⟨h1,h2⟩ i a b ha hb
   cases i with
   |zero=> simp at ha hb;subst ha;subst hb;exact h1
   |succ i=> simp only[Xc]at ha hb;exact h2 i a b ha (by simpa using hb)
  ·intro h
   exact⟨h 0 x y (an) (an),fun i a b ha hb=> h (i+1) a b (by simpa using ha) (by simpa using hb)⟩
theorem kf (l:List Int):l9 l=false↔∀(i:Nat) (x:Int),l[i]? =some x→0≤x:=by
 simp only[l9,List.any_eq_false,decide_eq_true_eq,Int.not_lt]
 exact⟨fun h i x hx=> h x (Yj hx),fun h x hx=> let ⟨i,hi⟩:=List.mem_iff_getElem?.1 hx;h i x hi⟩
theorem uB {l:List Int}{i:Nat}{x:Int}(h:l[i]? =some x) (hx:x<0):l9 l=true:=by
 simp only[l9,List.any_eq_true,decide_eq_true_eq]
 exact⟨x,Yj h,hx⟩
theorem dF {α:Type}{l:List α}{i:Nat}{x:α}(h:l[i]? =some x):l.drop i=x::l.drop (i+1):=by
 have hlt:=(Yk.1 h).1
 rw[List.drop_eq_getElem_cons hlt]
 congr 1
 exact(Yk.1 h).2
theorem oK:∀(l:List Int) (last:Int), -1≤last→(∀x∈l,x≤9223372036854775807)→(fP last l).length≤10*l.length∨∃x∈l,x<0
 | [],_,_,_=> by simp[fP]
 |x::l,last,h,hl=> by
  by_cases hx:x<0
  ·exact .inr ⟨x,an,hx⟩
  ·have h1:=hl x (an)
   rcases oK l x (aa) (fun y hy=> hl y (by simp[hy]))with h2|⟨y,hy,h3⟩
   ·left
    have:=fq (n:=(x - last - 1).toNat) (aa)
    rw[fP]
    simp only[Ya,Yb]
    omega
   ·exact .inr ⟨y,by simp[hy],h3⟩
theorem ob {l:List Int}(hb:l9 l=false) (hl:∀x∈l,x≤9223372036854775807):(fP (-1) l).length≤10*l.length:=by
 rcases oK l (-1) (aa) hl with h|⟨x,hx,h⟩
 ·exact h
 ·obtain⟨i,hi⟩:=List.mem_iff_getElem?.1 hx
  rw[uB hi h]at hb;cases hb
theorem zy {G:cK}{H:cG}{s:SV}{l:List Int} [Sl H s eI l] (hn:l.length≤1000000000000):SC G Tryz.prog 178 [s.val] H (fun v H'=> v= .bool (l9 l)∧H'=H):=by
 refine sWk Tryz.func178 Tryz.ntmps178 ?_
 refine go ?_
 refine wl_ (Nat) (fun i=> i≤l.length∧∀j x,j<i→l[j]? =some x→0≤x) (fun i=> [(5,s.val),(6, .int .i64 ((l.length:Nat):Int)),(7, .int .i64 ((i:Nat):Int))]) (fun _=> H) (fun i=> l.length - i) (0) (h0:=?_) (k:=?_)
 ·try dsimp only
  exact⟨Yl _,fun j x h=> absurd h (Nat.not_lt_zero _)⟩
 rintro i ⟨hi,hall⟩
 try dsimp only at*
 refine gk (k:=wi_ (k:=fun h1=>?_) (m:=fun h1=>?_))
 ·obtain⟨x,hx⟩:∃x,l[i]? =some x:=⟨_,Yi (aa)⟩
  refine go ?_
  refine gk (k:=wi_ (k:=fun h2=>?_) (m:=fun h2=>?_))
  ·refine gk (k:=rt_ Tryz.results178 (k:=?_))
   exact⟨_,cJ.refl,by rw[uB hx h2];all_goals rfl,rfl⟩
  refine go ?_
  refine ln_ (i+1) (k:=?_)
  try dsimp only
  refine⟨aa,fun j y hj hy=> ?_⟩
  rcases Nat.lt_or_eq_of_le (Nat.le_of_lt_succ hj)with h|rfl
  ·exact hall j y h hy
  ·rw[hx]at hy;cases hy;omega
 refine gk (k:=rt_ Tryz.results178 (k:=?_))
 exact⟨_,cJ.refl,by rw[(kf l).2 fun j x hx=> hall j x (by have:=(Yk.1 hx).1;omega) hx];all_goals rfl,rfl⟩
theorem I8 {G:cK}{H R:cG}{b:Nat}{s:SV}{xs:List Nat}{l:List Int} [hg:Glb G R] [hr:Rem H Wr b xs R] [Sl R s eI l] (hn:xs.length≤100000000000) (hm:l.length≤10000000000) (hl:∀x∈l,x≤9223372036854775807):SC G Tryz.prog 144 [.pointer (some ⟨b,0,none⟩),s.val] H (fun v H'=>
 (l9 l=true∧v=G.err 1∧H'=Wr b xs::R)∨(l9 l=false∧rise l=false∧v=G.err 5∧H'=Wr b xs::R)∨(l9 l=false∧rise l=true∧v= .nilIface∧H'=Wr b (xs++(uv l.length++fP (-1) l))::R)):=by
 refine SC.rem (h:=hr) ?_
 refine sWk Tryz.func144 Tryz.ntmps144 ?_
 refine go ?_
 refine d1_ rfl (zy (aa)) (k:=gk (k:=wi_ (k:=fun h1=>?_) (m:=fun h1=>?_)))
 ·refine gk (k:=rt_ Tryz.results144 (k:=?_))
  exact⟨_,cJ.refl, .inl ⟨h1,rfl,rfl⟩⟩
 have hb:=(kf l).1 h1
 refine gk (k:=wl_ (Nat) (fun i=> 1≤i∧(1<i→i≤l.length)∧∀j x y,j+1<i→l[j]? =some x→l[j+1]? =some y→x<y) (fun i=> [(0, .pointer (some ⟨b,0,none⟩)),(1,s.val),(5, .int .i64 ((i:Nat):Int))]) (fun _=> Wr b xs::R) (fun i=> l.length - i) (1) (h0:=?_) (k:=?_))
 ·try dsimp only
  exact⟨Nat.le_refl _,fun h=> absurd h (Nat.lt_irrefl _),fun j x y h=> aa⟩
 rintro i ⟨hi1,hi2,hall⟩
 try dsimp only at*
 refine gk (k:=wi_ (k:=fun h2=>?_) (m:=fun h2=>?_))
 ·obtain⟨x,hx⟩:∃x,l[i - 1]? =some x:=⟨_,Yi (aa)⟩
  obtain⟨y,hy⟩:∃y,l[i]? =some y:=⟨_,Yi (aa)⟩
  refine go ?_
  refine cX cI (as_ 0 (q:=mv) (k:=as_ 1 (q:=mv) (k:=as_ 2 (q:=ixa) (k:=as_ 3 (q:=lel) (k:=as_ 4 (q:=mv) (k:=as_ 5 (q:=mv) (k:=as_ 6 (q:=isb) (k:=?_))))))))
  refine cE 7 rfl rfl (a8) rfl (dz (di rfl rfl (i - 1) (aa) (aa))) (?_)
  refine as_ 8 (q:=lel) (k:=as_ 9 (q:=ile) (k:=az_ (k:=gk (k:=wi_ (k:=fun h3=>?_) (m:=fun h3=>?_)))))
  ·refine gk (k:=rt_ Tryz.results144 (k:=?_))
   refine⟨Wr b xs::R,by exact cJ.refl, .inr (.inl ⟨h1,?_,rfl,rfl⟩)⟩
   rw[←Bool.not_eq_true,pU]
   intro hall
   have:=hall (i - 1) x y hx (by rw[Nat.sub_add_cancel hi1];exact hy)
   omega
  refine go ?_
  refine ln_ (i+1) (k:=?_)
  try dsimp only
  refine⟨aa,fun _=> aa,fun j a c hj ha hc=> ?_⟩
  rcases Nat.lt_or_eq_of_le (Nat.le_of_lt_succ hj)with h|h
  ·exact hall j a c h ha hc
  ·obtain rfl:j=i - 1:=by omega
   rw[hx]at ha
   rw[Nat.sub_add_cancel hi1,hy]at hc
   cases ha;cases hc;omega
 have hri:rise l=true:=(pU l).2 fun j x y hx hy=> hall j x y (by have:=(Yk.1 hy).1;omega) hx hy
 have hul:=fq (n:=l.length) (aa)
 refine we_ (qe_ (le_ (bh_ (qn_ (ws_ (wr_ (e_ mv (k:=e_ mv (k:=e_ lnn (k:=?_))))))))))
 refine e_ ((ae)) (k:=?_)
 refine d2_ rfl (ek l.length (aa) (aa)) (k:=go ?_)
 refine gk (k:=wl_ (Nat×Int×List Nat) (fun y=> y.1≤l.length∧y.2.2++fP y.2.1 (l.drop y.1)=xs++(uv l.length++fP (-1) l)∧y.2.2.length≤xs.length+10+10*y.1∧ -1≤y.2.1∧(y.1=0→y.2.1= -1)∧∀x,0<y.1→l[y.1 - 1]? =some x→x=y.2.1) (fun y=> [(0, .pointer (some ⟨b,0,none⟩)),(6, .int .i64 y.2.1),(34,s.val),(35, .int .i64 ((l.length:Nat):Int)),(36, .int .i64 ((y.1:Nat):Int))]) (fun y=> Wr b y.2.2::R) (fun y=> l.length - y.1) ((0, -1,xs++uv l.length)) (h0:=?_) (k:=?_))
 ·try dsimp only
  refine⟨Yl _,an,aM,Int.le_refl _,fun _=> rfl,fun x h=> absurd h (Nat.lt_irrefl _)⟩
 rintro⟨k,last,zs⟩ ⟨hk,hI,hlen,hlast,hz,hprev⟩
 try dsimp only at*
 refine gk (k:=wi_ (k:=fun h4=>?_) (m:=fun h4=>?_))
 ·obtain⟨x,hx⟩:∃x,l[k]? =some x:=⟨_,Yi (aa)⟩
  have hx0:=hb k x hx
  have hxm:=hl x (Yj hx)
  have hgt:last<x:=by
   rcases Nat.eq_zero_or_pos k with h0|h0
   ·have:=hz h0;omega
   ·obtain⟨w,hw⟩:∃w,l[k - 1]? =some w:=⟨_,Yi (aa)⟩
    have h3:=hprev w h0 hw
    have h4:=(pU l).1 hri (k - 1) w x hw (by rw[Nat.sub_add_cancel h0];exact hx)
    omega
  refine wk_ (qn_ (ws_ (wb_ (ws_ (wr_ (e_ ixa (k:=e_ lel (k:=e_ asn (k:=on_ (qn_ (ws_ (wr_ (e_ mv (k:=?_))))))))))))))
  refine e_ mv (k:=e_ mv (k:=?_))
  refine e_ (Ci rfl rfl _ rfl) (k:=?_)
  refine e_ (Ci rfl rfl (x - last - 1) (cr)) (k:=?_)
  refine e_ (cU 18446744073709551616 rfl rfl rfl (x - last - 1).toNat (aa) (aa)) (k:=?_)
  refine d2_ rfl (ek (x - last - 1).toNat (aa) (aa)) (k:=go ?_)
  refine ln_ ((k+1,x,zs++uv (x - last - 1).toNat)) (k:=?_)
  try dsimp only
  have hul2:=fq (n:=(x - last - 1).toNat) (aa)
  refine⟨aa,?_,ai,aa,fun h=> aa,fun w _ hw=> ?_⟩
  ·rw[←hI,dF hx,fP,Yf]
  ·rw[Nat.add_sub_cancel]at hw
   rw[hx]at hw;cases hw;rfl
 obtain rfl:k=l.length:=aa
 have e:zs=xs++(uv l.length++fP (-1) l):=by rw[←hI];simp[fP]
 refine gk (k:=rt_ Tryz.results144 (k:=?_))
 exact⟨_,cJ.refl, .inr (.inr ⟨h1,hri,rfl,by rw[e]⟩)⟩
def gP:Nat→List Nat→Except Nat (Nat×Nat)
 |_, []=> .error 2
 |i,x::r=> if i=9∧1<x then .error 3 else if 128≤x then
  (match gP (i+1) r with
  | .ok (v,n)=> .ok (x % 128+128*v,n+1)
  | .error e=> .error e)
  else if x=0∧0<i then .error 3 else .ok (x,1)
theorem tB:∀i:Fin 9,2 ^ (64 - 7*i.val)=128*2 ^ (64 - 7*(i.val+1)):=ag
theorem j5:∀(l:List Nat) (i v n:Nat),(∀x∈l,x<256)→i≤9→gP i l= .ok (v,n)→
 v<2 ^ (64 - 7*i)∧1≤n∧n+i≤10∧n≤l.length∧l.take n=uv v∧(0<i→0<v)
 | [],i,v,n,_,_,h=> aW
 |x::r,i,v,n,hb,hi,h=> by
  have hx:=hb x (an)
  rw[gP]at h
  split at h
  ·cases h
  ·rename_i h9
   split at h
   ·rename_i hx2
    have hi9:i≤8:=aa
    split at h
    ·rename_i v' n' hr
     obtain⟨h1,h2,h3,h4,h5,h6⟩:=j5 r (i+1) v' n' (fun y hy=> hb y (by simp[hy])) (aa) hr
     have h7:=h6 (aa)
     have h8:=tB ⟨i,aa⟩
     simp only at h8
     simp only[Except.ok.injEq,Prod.mk.injEq]at h
     obtain⟨rfl,rfl⟩:=h
     refine⟨aa,aa,aa,aM,?_,fun _=> aa⟩
     rw[qE (n:=x % 128+128*v') (aa),List.take_succ_cons,h5]
     congr 1
     ·omega
     ·congr 1;omega
    ·cases h
   ·split at h
    ·cases h
    ·rename_i hx2 hx0
     simp only[Except.ok.injEq,Prod.mk.injEq]at h
     obtain⟨rfl,rfl⟩:=h
     refine⟨?_,aa,aa,an,?_,fun _=> aa⟩
     ·rcases Nat.lt_or_eq_of_le hi with h8|rfl
      ·have h8:=tB ⟨i,aa⟩
       simp only at h8
       have:0<2 ^ (64 - 7*(i+1)):=Nat.two_pow_pos _
       omega
      ·simp;omega
     ·rw[lE (aa)];simp
theorem BN:∀(v i:Nat) (r:List Nat),i≤9→v<2 ^ (64 - 7*i)→(0<i→0<v)→gP i (uv v++r)= .ok (v,(uv v).length):=by
 intro v
 induction v using Nat.strongRecOn with
 |_ v ih=>
  intro i r hi hv h0
  by_cases h:v<128
  ·rw[lE h]
   rw[List.singleton_append,gP,if_neg (by rintro⟨rfl,h1⟩;simp at hv;omega),if_neg (aa),if_neg (by rintro⟨rfl,h2⟩;exact absurd (h0 h2) (Nat.lt_irrefl 0))]
   all_goals rfl
  ·have hi8:i≤8:=by
    rcases Nat.lt_or_eq_of_le hi with h8|rfl
    ·omega
    ·simp at hv;omega
   have h8:=tB ⟨i,aa⟩
   simp only at h8
   rw[qE h,Yd,gP,if_neg (by rintro⟨rfl,_⟩;omega),if_pos (aa)]
   rw[ih (v / 128) (aa) (i+1) r (aa) (aa) (fun _=> aa)]
   simp only[Yb,Except.ok.injEq,Prod.mk.injEq,and_true]
   omega
theorem left {G:cK}{H:cG}{b:Nat}{k n:Int}{r:List Value} [cQ H b (.int .i64 k:: .int .i64 n::r)] (h: -9223372036854775808≤n - k∧n - k≤9223372036854775807):SC G Tryz.prog 39 [.pointer (some ⟨b,0,none⟩)] H (fun v H'=> v= .int .i64 (n - k)∧H'=H):=by
 refine sWk Tryz.func39 Tryz.ntmps39 ?_
 refine go ?_
 refine cX cI (as_ 0 (q:=mv) (k:=as_ 1 (q:=nck) (k:=as_ 2 (q:=fla) (k:=as_ 3 (q:=ldv) (k:=as_ 4 (q:=mv) (k:=as_ 5 (q:=nck) (k:=as_ 6 (q:=fla) (k:=as_ 7 (q:=ldv) (k:=as_ 8 (q:=isb) (k:=as_ 9 (q:=asn) (k:=az_ (k:=go ?_))))))))))))
 refine rt_ Tryz.results39 (k:=?_)
 exact⟨_,cJ.refl,rfl,rfl⟩
theorem tl {G:cK}{H R:cG}{b k:Nat}{xs:List Nat} [hr:Rem H Rd b (xs,k) R]:SC G Tryz.prog 151 [.pointer (some ⟨b,0,none⟩)] H (fun v H'=> v= .int .i64 ((k:Nat):Int)∧H'=Rd b (xs,k)::R):=by
 refine ya hr fun s=> ?_
 refine sWk Tryz.func151 Tryz.ntmps151 ?_
 refine go ?_
 refine gk (k:=rt_ Tryz.results151 (k:=?_))
 exact⟨_,hsb,rfl,rfl⟩
theorem pO {G:cK}{H R:cG}{b k:Nat}{xs:List Nat} [hg:Glb G R] [hr:Rem H Rd b (xs,k) R] (hk:k≤xs.length):SC G Tryz.prog 154 [.pointer (some ⟨b,0,none⟩)] H (fun v H'=> H'=Rd b (xs,k)::R∧((k<xs.length∧v=G.err 6)∨(k=xs.length∧v= .nilIface))):=by
 refine ya hr fun s=> ?_
 refine sWk Tryz.func154 Tryz.ntmps154 ?_
 refine go ?_
 refine cX cI (as_ 0 (q:=mv) (k:=as_ 1 (q:=nck) (k:=as_ 2 (q:=fla) (k:=as_ 3 (q:=ldv) (k:=as_ 4 (q:=mv) (k:=as_ 5 (q:=nck) (k:=as_ 6 (q:=fla) (k:=as_ 7 (q:=ldv) (k:=as_ 8 (q:=ilt) (k:=az_ (k:=gk (k:=wi_ (k:=fun h1=>?_) (m:=fun h1=>?_)))))))))))))
 ·refine gk (k:=rt_ Tryz.results154 (k:=?_))
  exact⟨_,hsb,rfl, .inl ⟨aa,rfl⟩⟩
 refine gk (k:=rt_ Tryz.results154 (k:=?_))
 exact⟨_,hsb,rfl, .inr ⟨aa,rfl⟩⟩
theorem Ov {G:cK}{H R:cG}{b k:Nat}{xs:List Nat} [hg:Glb G R] [hr:Rem H Rd b (xs,k) R] (hk:k≤xs.length) (hn:xs.length≤1000000000000):SC G Tryz.prog 40 [.pointer (some ⟨b,0,none⟩)] H (fun v H'=>
 (k=xs.length∧v= .tuple #[.int .u8 0,G.err 2]∧H'=Rd b (xs,k)::R)∨(∃x,xs[k]? =some x∧v= .tuple #[.int .u8 ((x:Nat):Int), .nilIface]∧H'=Rd b (xs,k+1)::R)):=by
 refine ya hr fun s=> ?_
 refine sWk Tryz.func40 Tryz.ntmps40 ?_
 refine go ?_
 refine d1_ rfl (left (aa)) (k:=gk (k:=wi_ (k:=fun h1=>?_) (m:=fun h1=>?_)))
 ·refine go ?_
  refine cX cI (as_ 0 (q:=ldv) (k:=as_ 1 (q:=asn) (k:=as_ 2 (q:=asn) (k:=az_ (k:=gk (k:=rt_ Tryz.results40 (k:=?_)))))))
  exact⟨_,hsb, .inl ⟨aa,rfl,rfl⟩⟩
 obtain⟨x,hx⟩:∃x,xs[k]? =some x:=⟨_,Yi (aa)⟩
 refine go ?_
 refine go ?_
 refine cX cI (as_ 0 (q:=mv) (k:=as_ 1 (q:=nck) (k:=as_ 2 (q:=fla) (k:=as_ 3 (q:=ldv) (k:=as_ 4 (q:=mv) (k:=as_ 5 (q:=nck) (k:=as_ 6 (q:=fla) (k:=as_ 7 (q:=fla) (k:=as_ 8 (q:=ldv) (k:=as_ 9 (q:=isb) (k:=?_)))))))))))
 refine cE 10 rfl rfl (a8) rfl (dz (di rfl rfl k (aa) (aa))) (?_)
 refine as_ 11 (q:=lel) (k:=as_ 12 (q:=asn) (k:=as_ 13 (q:=asn) (k:=az_ (k:=gk (k:=rt_ Tryz.results40 (k:=?_))))))
 exact⟨_,hsb, .inr ⟨x,hx,rfl,rfl⟩⟩
theorem HL {v a i:Nat}(hv:v<2 ^ (7*i)) (ha:a*2 ^ (7*i)<18446744073709551616):v |||(a*2 ^ (7*i))=v+a*2 ^ (7*i):=by
 rw[Nat.or_comm,←Nat.shiftLeft_eq,←Nat.shiftLeft_add_eq_or_of_lt hv,Nat.shiftLeft_eq];omega
theorem ju (x:Nat):x &&& 127=x % 128:=Nat.and_two_pow_sub_one_eq_mod x 7
theorem Of:∀i:Fin 10,(if i.val=9 then 1 else 127)*2 ^ (7*i.val)<18446744073709551616:=ag
theorem xY {x i:Nat}(hi:i≤9) (h9:i=9→x≤1):(x &&& 127)*2 ^ (7*i)<18446744073709551616:=by
 have h:=Of ⟨i,aa⟩
 simp only at h
 rw[ju]
 refine Nat.lt_of_le_of_lt (Nat.mul_le_mul_right _ ?_) h
 split
 ·have:=h9 (aH);omega
 ·omega
theorem MB:∀i:Fin 10,2 ^ (7*i.val)≤9223372036854775808:=ag
theorem p7 {i:Nat}(h:i≤9):2 ^ (7*i)≤9223372036854775808:=MB ⟨i,aa⟩
def JT (v i:Nat):Except Nat (Nat×Nat)→Except Nat (Nat×Nat)
 | .ok (w,n)=> .ok (v+w*2 ^ (7*i),i+n)
 | .error e=> .error e
theorem lN {G:cK}{H R:cG}{b k:Nat}{xs:List Nat} [hg:Glb G R] [hr:Rem H Rd b (xs,k) R] (hk:k≤xs.length) (hn:xs.length≤1000000000000) (hb:∀x∈xs,x<256):SC G Tryz.prog 42 [.pointer (some ⟨b,0,none⟩)] H (fun v H'=>
 (∃e,gP 0 (xs.drop k)= .error e∧v= .tuple #[.int .u64 0,G.err e]∧H'=Rd b (xs,k)::R)∨(∃n m,gP 0 (xs.drop k)= .ok (n,m)∧v= .tuple #[.int .u64 ((n:Nat):Int), .nilIface]∧H'=Rd b (xs,k+m)::R)):=by
 refine ya hr fun s=> ?_
 refine sWk Tryz.func42 Tryz.ntmps42 ?_
 refine go ?_
 refine gk (k:=wl_ (Nat×Nat) (fun y=> y.1≤9∧k+y.1≤xs.length∧y.2<2 ^ (7*y.1)∧gP 0 (xs.drop k)=JT y.2 y.1 (gP y.1 (xs.drop (k+y.1)))) (fun y=> [(0, .pointer (some ⟨b,0,none⟩)),(4, .int .u64 ((y.2:Nat):Int)),(5, .int .i64 ((y.1:Nat):Int))]) (fun _=> Vr b [.int .i64 ((k:Nat):Int), .int .i64 ((xs.length:Nat):Int),s.val]::Row s eB xs::R) (fun y=> xs.length - y.1) ((0,0)) (h0:=?_) (k:=?_))
 ·try dsimp only
  refine⟨Yl _,hk,ag,?_⟩
  rw[Nat.add_zero]
  cases gP 0 (xs.drop k)with
  |ok p=> simp[JT]
  |error e=> rfl
 rintro⟨i,v⟩ ⟨hi,hki,hv,hI⟩
 try dsimp only at*
 refine go ?_
 refine d1_ rfl (left (aa)) (k:=gk (k:=wi_ (k:=fun h1=>?_) (m:=fun h1=>?_)))
 ·have e2:gP 0 (xs.drop k)= .error 2:=by rw[hI,List.drop_of_length_le (aa)];all_goals rfl
  refine go ?_
  refine cX cI (as_ 0 (q:=ldv) (k:=as_ 1 (q:=asn) (k:=as_ 2 (q:=asn) (k:=az_ (k:=gk (k:=rt_ Tryz.results42 (k:=?_)))))))
  exact⟨_,hsb, .inl ⟨2,e2,rfl,rfl⟩⟩
 obtain⟨x,hx⟩:∃x,xs[k+i]? =some x:=⟨_,Yi (aa)⟩
 have hxb:=hb x (Yj hx)
 have hd:xs.drop (k+i)=x::xs.drop (k+(i+1)):=dF hx
 rw[hd,gP]at hI
 refine go ?_
 refine cX cI (as_ 0 (q:=mv) (k:=as_ 1 (q:=nck) (k:=as_ 2 (q:=fla) (k:=as_ 3 (q:=ldv) (k:=as_ 4 (q:=mv) (k:=as_ 5 (q:=nck) (k:=as_ 6 (q:=fla) (k:=as_ 7 (q:=fla) (k:=as_ 8 (q:=ldv) (k:=as_ 9 (q:=mv) (k:=as_ 10 (q:=iad) (k:=?_))))))))))))
 refine cE 11 rfl rfl (a8) rfl (dz (di rfl rfl (k+i) (aa) (aa))) (?_)
 refine as_ 12 (q:=lel) (k:=as_ 13 (q:=asn) (k:=az_ (k:=qn_ (ws_ (ws_ (wr_ (e_ mv (k:=e_ ieq (k:=sp_ (mv) (k:=fun h2=>?_) (m:=fun h2=>?_))))))))))
 ·refine gk (k:=wi_ (k:=fun h3=>?_) (m:=fun h3=>?_))
  ·rw[if_pos (aa)]at hI
   refine go ?_
   refine cX cI (as_ 0 (q:=ldv) (k:=as_ 1 (q:=asn) (k:=as_ 2 (q:=asn) (k:=az_ (k:=gk (k:=rt_ Tryz.results42 (k:=?_)))))))
   exact⟨_,hsb, .inl ⟨3,hI,rfl,rfl⟩⟩
  refine wk_ (qn_ (ws_ (wr_ (?_))))
  rw[if_neg (aa)]at hI
  have hsh:(x &&& 127)*2 ^ (7*i)<18446744073709551616:=xY hi (aa)
  have hand:x &&& 127≤127:=by rw[ju];omega
  have hor:=HL hv hsh
  have hp7:=p7 hi
  rw[ju]at hor
  refine e_ mv (k:=e_ mv (k:=?_))
  refine e_ (mR 256 rfl rfl rfl rfl _ 127 rfl rfl (aj) (aj)) (k:=?_)
  refine e_ ((ae)) (k:=?_)
  refine e_ mv (k:=e_ iml (k:=?_))
  refine e_ (wR (k:= .u64) 18446744073709551616 rfl rfl rfl rfl (x &&& 127) (7*i) rfl (aa) hsh) (k:=?_)
  refine e_ (iE 18446744073709551616 rfl rfl rfl rfl _ _ rfl rfl (aj) (aj)) (k:=?_)
  refine gk (k:=wi_ (k:=fun h4=>?_) (m:=fun h4=>?_))
  ·rw[if_pos (aa)]at hI
   refine go ?_
   refine ln_ ((i+1,v |||(x &&& 127)*2 ^ (7*i))) (k:=?_)
   try dsimp only
   have hP:2 ^ (7*(i+1))=128*2 ^ (7*i):=by rw[Nat.mul_add,Nat.pow_add];omega
   have hm:x % 128*2 ^ (7*i)≤127*2 ^ (7*i):=Nat.mul_le_mul_right _ (aa)
   refine⟨aa,aa,by rw[ju,hor];omega,?_⟩
   rw[hI,ju,hor]
   cases gP (i+1) (xs.drop (k+(i+1)))with
   |error e=> rfl
   |ok p=>
    obtain⟨w,n⟩:=p
    simp only[JT,Except.ok.injEq,Prod.mk.injEq]
    refine⟨?_,aa⟩
    rw[hP,Nat.add_mul,Nat.mul_comm 128 w,Nat.mul_assoc];omega
  rw[if_neg (aa)]at hI
  refine wk_ (qn_ (ws_ (ws_ (wr_ (e_ mv (k:=e_ ieq (k:=sp_ (mv) (k:=fun h5=>?_) (m:=fun h5=>?_))))))))
  ·refine gk (k:=wi_ (k:=fun h6=>?_) (m:=fun h6=>?_))
   ·rw[if_pos (aa)]at hI
    refine go ?_
    refine cX cI (as_ 0 (q:=ldv) (k:=as_ 1 (q:=asn) (k:=as_ 2 (q:=asn) (k:=az_ (k:=gk (k:=rt_ Tryz.results42 (k:=?_)))))))
    exact⟨_,hsb, .inl ⟨3,hI,rfl,rfl⟩⟩
   refine wk_ (qn_ (ws_ (wr_ (?_))))
   rw[if_neg (aa)]at hI
   refine go ?_
   refine gk (k:=rt_ Tryz.results42 (k:=?_))
   have hI':gP 0 (xs.drop k)= .ok (v |||(x &&& 127)*2 ^ (7*i),i+1):=aX
   exact⟨_,hsb, .inr ⟨_,_,hI',rfl,rfl⟩⟩
  refine of_ (k:=of_ (k:=e_ pkf (k:=on_ (qn_ (eg (k:=wk_ (qn_ (ws_ (wr_ (?_))))))))))
  rw[if_neg (aa)]at hI
  refine go ?_
  refine gk (k:=rt_ Tryz.results42 (k:=?_))
  have hI':gP 0 (xs.drop k)= .ok (v |||(x &&& 127)*2 ^ (7*i),i+1):=aX
  exact⟨_,hsb, .inr ⟨_,_,hI',rfl,rfl⟩⟩
 refine of_ (k:=of_ (k:=e_ pkf (k:=on_ (qn_ (eg (k:=wk_ (qn_ (ws_ (wr_ (?_))))))))))
 rw[if_neg (aa)]at hI
 have hsh:(x &&& 127)*2 ^ (7*i)<18446744073709551616:=xY hi (aa)
 have hand:x &&& 127≤127:=by rw[ju];omega
 have hor:=HL hv hsh
 have hp7:=p7 hi
 rw[ju]at hor
 refine e_ mv (k:=e_ mv (k:=?_))
 refine e_ (mR 256 rfl rfl rfl rfl _ 127 rfl rfl (aj) (aj)) (k:=?_)
 refine e_ ((ae)) (k:=?_)
 refine e_ mv (k:=e_ iml (k:=?_))
 refine e_ (wR (k:= .u64) 18446744073709551616 rfl rfl rfl rfl (x &&& 127) (7*i) rfl (aa) hsh) (k:=?_)
 refine e_ (iE 18446744073709551616 rfl rfl rfl rfl _ _ rfl rfl (aj) (aj)) (k:=?_)
 refine gk (k:=wi_ (k:=fun h7=>?_) (m:=fun h7=>?_))
 ·rw[if_pos (aa)]at hI
  refine go ?_
  refine ln_ ((i+1,v |||(x &&& 127)*2 ^ (7*i))) (k:=?_)
  try dsimp only
  have hP:2 ^ (7*(i+1))=128*2 ^ (7*i):=by rw[Nat.mul_add,Nat.pow_add];omega
  have hm:x % 128*2 ^ (7*i)≤127*2 ^ (7*i):=Nat.mul_le_mul_right _ (aa)
  refine⟨aa,aa,by rw[ju,hor];omega,?_⟩
  rw[hI,ju,hor]
  cases gP (i+1) (xs.drop (k+(i+1)))with
  |error e=> rfl
  |ok p=>
   obtain⟨w,n⟩:=p
   simp only[JT,Except.ok.injEq,Prod.mk.injEq]
   refine⟨?_,aa⟩
   rw[hP,Nat.add_mul,Nat.mul_comm 128 w,Nat.mul_assoc];omega
 rw[if_neg (aa)]at hI
 refine wk_ (qn_ (ws_ (ws_ (wr_ (e_ mv (k:=e_ ieq (k:=sp_ (mv) (k:=fun h8=>?_) (m:=fun h8=>?_))))))))
 ·refine gk (k:=wi_ (k:=fun h9=>?_) (m:=fun h9=>?_))
  ·rw[if_pos (aa)]at hI
   refine go ?_
   refine cX cI (as_ 0 (q:=ldv) (k:=as_ 1 (q:=asn) (k:=as_ 2 (q:=asn) (k:=az_ (k:=gk (k:=rt_ Tryz.results42 (k:=?_)))))))
   exact⟨_,hsb, .inl ⟨3,hI,rfl,rfl⟩⟩
  refine wk_ (qn_ (ws_ (wr_ (?_))))
  rw[if_neg (aa)]at hI
  refine go ?_
  refine gk (k:=rt_ Tryz.results42 (k:=?_))
  have hI':gP 0 (xs.drop k)= .ok (v |||(x &&& 127)*2 ^ (7*i),i+1):=aX
  exact⟨_,hsb, .inr ⟨_,_,hI',rfl,rfl⟩⟩
 refine of_ (k:=of_ (k:=e_ pkf (k:=on_ (qn_ (eg (k:=wk_ (qn_ (ws_ (wr_ (?_))))))))))
 rw[if_neg (aa)]at hI
 refine go ?_
 refine gk (k:=rt_ Tryz.results42 (k:=?_))
 have hI':gP 0 (xs.drop k)= .ok (v |||(x &&& 127)*2 ^ (7*i),i+1):=aX
 exact⟨_,hsb, .inr ⟨_,_,hI',rfl,rfl⟩⟩
def fG (most:Nat) (l:List Nat):Except Nat (Nat×Nat):=
 match gP 0 l with
 | .error e=> .error e
 | .ok (v,n)=> if most<v then .error 4 else .ok (v,n)
theorem jm {most:Nat}{l:List Nat}{v n:Nat}(hb:∀x∈l,x<256) (h:fG most l= .ok (v,n)):v≤most∧n≤l.length∧l.take n=uv v∧1≤n:=by
 unfold fG at h
 split at h
 ·cases h
 ·rename_i v' n' hr
  split at h
  ·cases h
  ·simp only[Except.ok.injEq,Prod.mk.injEq]at h
   obtain⟨rfl,rfl⟩:=h
   obtain⟨h1,h2,h3,h4,h5,h6⟩:=j5 l 0 v' n' hb (aa) hr
   exact⟨aa,h4,h5,h2⟩
theorem ye {G:cK}{H R:cG}{b k most:Nat}{xs:List Nat} [hg:Glb G R] [hr:Rem H Rd b (xs,k) R] (hk:k≤xs.length) (hn:xs.length≤1000000000000) (hb:∀x∈xs,x<256) (hm:most≤4611686018427387904):SC G Tryz.prog 155 [.pointer (some ⟨b,0,none⟩), .int .i64 ((most:Nat):Int)] H (fun v H'=>
 (∃e,fG most (xs.drop k)= .error e∧v= .tuple #[.int .i64 0,G.err e]∧H'=Rd b (xs,k)::R)∨(∃n m,fG most (xs.drop k)= .ok (n,m)∧v= .tuple #[.int .i64 ((n:Nat):Int), .nilIface]∧H'=Rd b (xs,k+m)::R)):=by
 refine SC.rem (h:=hr) ?_
 refine sWk Tryz.func155 Tryz.ntmps155 ?_
 refine go ?_
 refine mC b fun s=> ?_
 refine go ?_
 refine du (H':=Rd b (xs,k)::R) (hsb) ?_
 refine go ?_
 refine c1_ rfl (lN hk hn hb) (k:=?_)
 rintro v1 H1 hK
 rcases hK with⟨e,he,rfl,rfl⟩|⟨n,m,he,rfl,rfl⟩
 ·refine e_ mv (k:=e_ exr (k:=e_ exr (k:=e_ asn (k:=e_ asn (k:=on_ (qn_ (ws_ (ws_ (wr_ (e_ mv (k:=?_)))))))))))
  refine e_ (cZ rfl) (k:=?_)
  refine gk (k:=ift (k:=gk (k:=rt_ Tryz.results155 (k:=?_))))
  exact⟨_,hsb, .inl ⟨e,by rw[fG,he],rfl,rfl⟩⟩
 obtain⟨q1,q2,q3,q4,q5,q6⟩:=j5 _ 0 n m (fun x hx=> hb x (Yp hx)) (aa) he
 rw[Yo]at q4
 refine e_ mv (k:=e_ exr (k:=e_ exr (k:=e_ asn (k:=e_ asn (k:=on_ (qn_ (ws_ (ws_ (wr_ (e_ mv (k:=?_)))))))))))
 refine e_ (cM rfl) (k:=?_)
 refine gk (k:=eg (k:=wk_ (qn_ (ws_ (ws_ (wr_ (e_ mv (k:=e_ ilt (k:=sp_ (mv) (k:=fun h1=>?_) (m:=fun h1=>?_))))))))))
 ·exfalso;omega
 refine eg_ mv (k:=eg_ mv (k:=?_))
 refine eg_ ((ae)) (k:=?_)
 refine gk (k:=wi_ (k:=fun h2=>?_) (m:=fun h2=>?_))
 ·refine go ?_
  refine mC b fun s=> ?_
  refine go ?_
  refine cX cI (as_ 0 (q:=ldv) (k:=as_ 1 (q:=asn) (k:=as_ 2 (q:=asn) (k:=az_ (k:=gk (k:=rt_ Tryz.results155 (k:=?_)))))))
  exact⟨_,hsb, .inl ⟨4,by rw[fG,he];simp only[];rw[if_pos (aa)],rfl,rfl⟩⟩
 refine wk_ (qn_ (ws_ (wr_ (e_ mv (k:=?_)))))
 refine e_ (dy rfl (aa)) (k:=?_)
 refine gk (k:=rt_ Tryz.results155 (k:=?_))
 exact⟨_,hsb, .inr ⟨n,m,by rw[fG,he];simp only[];rw[if_neg (aa)],rfl,rfl⟩⟩
def jK (most:Nat) (l:List Nat):Except Nat (List Nat×Nat):=
 match fG most l with
 | .error e=> .error e
 | .ok (n,m)=> if l.length - m<n then .error 2 else .ok ((l.drop m).take n,m+n)
theorem L0 {G:cK}{H R:cG}{b k most:Nat}{xs:List Nat} [hg:Glb G R] [hr:Rem H Rd b (xs,k) R] (hk:k≤xs.length) (hn:xs.length≤1000000000000) (hb:∀x∈xs,x<256) (hm:most≤4611686018427387904):SC G Tryz.prog 156 [.pointer (some ⟨b,0,none⟩), .int .i64 ((most:Nat):Int)] H (fun v H'=>
 (∃e,jK most (xs.drop k)= .error e∧v= .tuple #[.string ByteArray.empty,G.err e]∧H'=Rd b (xs,k)::R)∨(∃q m,jK most (xs.drop k)= .ok (q,m)∧v= .tuple #[.string (dL q), .nilIface]∧H'=Rd b (xs,k+m)::R)):=by
 refine SC.rem (h:=hr) ?_
 refine sWk Tryz.func156 Tryz.ntmps156 ?_
 refine go ?_
 refine mC b fun s=> ?_
 refine go ?_
 refine du (H':=Rd b (xs,k)::R) (hsb) ?_
 refine go ?_
 refine c2_ rfl (ye hk hn hb hm) (k:=?_)
 rintro v1 H1 hK
 rcases hK with⟨e,he,rfl,rfl⟩|⟨n,m,he,rfl,rfl⟩
 ·refine e_ mv (k:=e_ exr (k:=e_ exr (k:=e_ asn (k:=e_ asn (k:=on_ (qn_ (ws_ (ws_ (wr_ (e_ mv (k:=?_)))))))))))
  refine e_ (cZ rfl) (k:=?_)
  refine gk (k:=ift (k:=gk (k:=rt_ Tryz.results156 (k:=?_))))
  exact⟨_,hsb, .inl ⟨e,by rw[jK,he],rfl,rfl⟩⟩
 obtain⟨q1,q2,q3,q4⟩:=jm (fun x hx=> hb x (Yp hx)) he
 rw[Yo]at q2
 refine e_ mv (k:=e_ exr (k:=e_ exr (k:=e_ asn (k:=e_ asn (k:=on_ (qn_ (ws_ (ws_ (wr_ (e_ mv (k:=?_)))))))))))
 refine e_ (cM rfl) (k:=?_)
 refine gk (k:=eg (k:=go ?_))
 refine mC b fun s=> ?_
 refine go ?_
 refine d1_ rfl (left (aa)) (k:=gk (k:=wi_ (k:=fun h1=>?_) (m:=fun h1=>?_)))
 ·refine go ?_
  refine cX cI (as_ 0 (q:=ldv) (k:=as_ 1 (q:=asn) (k:=as_ 2 (q:=asn) (k:=az_ (k:=gk (k:=rt_ Tryz.results156 (k:=?_)))))))
  exact⟨_,hsb, .inl ⟨2,by rw[jK,he];simp only[];rw[if_pos (aK)],rfl,rfl⟩⟩
 refine go ?_
 refine go ?_
 refine cX cI (?_)
 have hcut:Sl (Vr b [.int .i64 (((k+m:Nat):Int)+((n:Nat):Int)), .int .i64 ((xs.length:Nat):Int),s.val]::Row s eB xs::R) (s.cut 1 (k+m) (k+m+n)) eB ((xs.take (k+m+n)).drop (k+m)):=Sl.cut (e:=eB) inferInstance (aa) (aa)
 have hq:(xs.take (k+m+n)).drop (k+m)=((xs.drop k).drop m).take n:=by rw[List.drop_drop,List.drop_take,show k+m+n - (k+m)=n from aa]
 refine as_ 0 (q:=mv) (k:=as_ 1 (q:=nck) (k:=as_ 2 (q:=fla) (k:=as_ 3 (q:=ldv) (k:=as_ 4 (q:=mv) (k:=as_ 5 (q:=nck) (k:=as_ 6 (q:=fla) (k:=as_ 7 (q:=fla) (k:=as_ 8 (q:=ldv) (k:=as_ 9 (q:=mv) (k:=as_ 10 (q:=isb) (k:=as_ 11 (q:=mv) (k:=as_ 12 (q:=nck) (k:=as_ 13 (q:=fla) (k:=?_))))))))))))))
 refine as_ 14 (q:=fla) (k:=as_ 15 (q:=ldv) (k:=?_))
 refine cE 16 rfl rfl (a8) rfl (dz (eL rfl (bQ) (k+m) (k+m+n) ⟨_,_,rfl,aa⟩ ⟨_,_,rfl,aa⟩ (aa) (aa))) (?_)
 refine cE 17 rfl rfl (a8) rfl (dz (eN rfl)) (?_)
 refine as_ 18 (q:=asn) (k:=as_ 19 (q:=asn) (k:=az_ (k:=gk (k:=rt_ Tryz.results156 (k:=?_)))))
 exact⟨Rd b (xs,k+(m+n))::R,by rw[←Nat.add_assoc];exact hsb, .inr ⟨((xs.drop k).drop m).take n,m+n,by rw[jK,he];simp only[];rw[if_neg (aK)],by rw[hq];all_goals rfl,rfl⟩⟩
def lM:Nat→Int→List Nat→Except Nat (List Int×Nat)
 | 0,_,_=> .ok ([],0)
 |n+1,last,l=>
  match gP 0 l with
  | .error e=> .error e
  | .ok (v,m)=> if 9223372036854775806 - last<(v:Int)then .error 4 else
   match lM n (last+v+1) (l.drop m)with
   | .error e=> .error e
   | .ok (r,m')=> .ok ((last+v+1)::r,m+m')
def eH (most:Nat) (l:List Nat):Except Nat (List Int×Nat):=
 match fG most l with
 | .error e=> .error e
 | .ok (n,m)=>
  match lM n (-1) (l.drop m)with
  | .error e=> .error e
  | .ok (r,m')=> .ok (r,m+m')
def Cc (zs:List Int) (a:Nat):Except Nat (List Int×Nat)→Except Nat (List Int×Nat)
 | .ok (r,m)=> .ok (zs++r,a+m)
 | .error e=> .error e
theorem Qa {G:cK}{H R:cG}{b k most:Nat}{xs:List Nat} [hg:Glb G R] [hr:Rem H Rd b (xs,k) R] (hk:k≤xs.length) (hn:xs.length≤1000000000000) (hb:∀x∈xs,x<256) (hm:most≤1000000000000):SC G Tryz.prog 185 [.pointer (some ⟨b,0,none⟩), .int .i64 ((most:Nat):Int)] H (fun v H'=>
 (∃e k',eH most (xs.drop k)= .error e∧v= .tuple #[.slice none 0 0,G.err e]∧H'=Rd b (xs,k')::R)∨(∃l m,∃s':SV,eH most (xs.drop k)= .ok (l,m)∧v= .tuple #[s'.val, .nilIface]∧H'=Row s' eI l::Rd b (xs,k+m)::R)):=by
 refine SC.rem (h:=hr) ?_
 refine sWk Tryz.func185 Tryz.ntmps185 ?_
 refine go ?_
 refine c2_ rfl (ye hk hn hb (aa)) (k:=?_)
 rintro v1 H1 hK
 rcases hK with⟨e,he,rfl,rfl⟩|⟨n,m,he,rfl,rfl⟩
 ·refine e_ mv (k:=e_ exr (k:=e_ exr (k:=e_ asn (k:=e_ asn (k:=on_ (qn_ (ws_ (ws_ (wr_ (e_ mv (k:=?_)))))))))))
  refine e_ (cZ rfl) (k:=?_)
  refine gk (k:=ift (k:=gk (k:=rt_ Tryz.results185 (k:=?_))))
  exact⟨_,hsb, .inl ⟨e,_,by rw[eH,he],rfl,rfl⟩⟩
 obtain⟨q1,q2,q3,q4⟩:=jm (fun x hx=> hb x (Yp hx)) he
 rw[Yo]at q2
 refine e_ mv (k:=e_ exr (k:=e_ exr (k:=e_ asn (k:=e_ asn (k:=on_ (qn_ (ws_ (ws_ (wr_ (e_ mv (k:=?_)))))))))))
 refine e_ (cM rfl) (k:=?_)
 refine gk (k:=eg (k:=go ?_))
 refine gk (k:=wl_ (SV×Nat×Int×List Int×Nat) (fun y=> y.2.1≤n∧ -1≤y.2.2.1∧y.2.2.1≤9223372036854775807∧k+m+y.2.2.2.2≤xs.length∧y.2.2.2.1.length=y.2.1∧lM n (-1) (xs.drop (k+m))=Cc y.2.2.2.1 y.2.2.2.2 (lM (n - y.2.1) y.2.2.1 (xs.drop (k+m+y.2.2.2.2)))) (fun y=> [(0, .pointer (some ⟨b,0,none⟩)),(8,y.1.val),(9, .int .i64 y.2.2.1),(21, .int .i64 ((n:Nat):Int)),(22, .int .i64 ((y.2.1:Nat):Int))]) (fun y=> Row y.1 eI y.2.2.2.1::Rd b (xs,k+m+y.2.2.2.2)::R) (fun y=> n - y.2.1) ((SV.nil,0, -1, [],0)) (h0:=?_) (k:=?_))
 ·try dsimp only
  refine⟨Yl _,aa,aa,aa,rfl,?_⟩
  simp only[Nat.add_zero,Nat.sub_zero]
  cases lM n (-1) (xs.drop (k+m))with
  |ok p=> simp[Cc]
  |error e=> rfl
 rintro⟨s,j,last,zs,a⟩ ⟨hj,hl1,hl2,ha,hz,hI⟩
 try dsimp only at*
 refine gk (k:=wi_ (k:=fun h1=>?_) (m:=fun h1=>?_))
 ·obtain⟨d,hd⟩:∃d,n - j=d+1:=⟨n - j - 1,aa⟩
  rw[hd,lM]at hI
  refine go ?_
  refine c1_ rfl (lN ha hn hb) (k:=?_)
  rintro v1 H1 hK
  rcases hK with⟨e,he2,rfl,rfl⟩|⟨v,c,he2,rfl,rfl⟩
  all_goals rw[he2]at hI
  all_goals simp only[]at hI
  ·refine e_ mv (k:=e_ exr (k:=e_ exr (k:=e_ asn (k:=e_ asn (k:=on_ (qn_ (ws_ (ws_ (wr_ (e_ mv (k:=?_)))))))))))
   refine e_ (cZ rfl) (k:=?_)
   refine gk (k:=ift (k:=go ?_))
   refine gk (k:=rt_ Tryz.results185 (k:=?_))
   exact⟨_,hsb, .inl ⟨e,_,bI,rfl,rfl⟩⟩
  obtain⟨p1,p2,p3,p4,p5,p6⟩:=j5 _ 0 v c (fun x hx=> hb x (Yp hx)) (aa) he2
  rw[Yo]at p4
  refine e_ mv (k:=e_ exr (k:=e_ exr (k:=e_ asn (k:=e_ asn (k:=on_ (qn_ (ws_ (ws_ (wr_ (e_ mv (k:=?_)))))))))))
  refine e_ (cM rfl) (k:=?_)
  refine gk (k:=eg (k:=wk_ (qn_ (ws_ (ws_ (wr_ (e_ mv (k:=e_ ieq (k:=sp_ (mv) (k:=fun h2=>?_) (m:=fun h2=>?_))))))))))
  ·rw[if_pos (aa)]at hI
   refine gk (k:=ift (k:=go ?_))
   refine cX cI (as_ 0 (q:=ldv) (k:=as_ 1 (q:=asn) (k:=as_ 2 (q:=asn) (k:=az_ (k:=gk (k:=rt_ Tryz.results185 (k:=?_)))))))
   exact⟨_,hsb, .inl ⟨4,_,bI,rfl,rfl⟩⟩
  refine eg_ mv (k:=eg_ mv (k:=eg_ isb (k:=?_)))
  refine eg_ (cU 18446744073709551616 rfl rfl rfl (9223372036854775806 - last).toNat (aa) (aa)) (k:=?_)
  refine gk (k:=wi_ (k:=fun h3=>?_) (m:=fun h3=>?_))
  ·rw[if_pos (aa)]at hI
   refine go ?_
   refine cX cI (as_ 0 (q:=ldv) (k:=as_ 1 (q:=asn) (k:=as_ 2 (q:=asn) (k:=az_ (k:=gk (k:=rt_ Tryz.results185 (k:=?_)))))))
   exact⟨_,hsb, .inl ⟨4,_,bI,rfl,rfl⟩⟩
  rw[if_neg (aa)]at hI
  simp only[List.drop_drop]at hI
  refine wk_ (qn_ (ws_ (wr_ (e_ mv (k:=e_ mv (k:=?_))))))
  refine e_ (dy rfl (aa)) (k:=?_)
  refine e_ (sE rfl rfl _ rfl) (k:=?_)
  refine e_ (sE rfl rfl (last+v+1) (cr)) (k:=?_)
  refine gk (k:=gz eI (k:=fun s1=>?_))
  refine app (k:=fun s2=>?_)
  refine go ?_
  refine ln_ ((s2,j+1,last+v+1,zs++ [last+v+1],a+c)) (h4:=?_) (k:=?_)
  ·try dsimp only
   rw[show k+m+(a+c)=k+m+a+c from aa]
   exact hsb
  try dsimp only
  refine⟨aa,aa,aa,aa,aM,?_⟩
  rw[hI,show n - (j+1)=d from aa,show k+m+(a+c)=k+m+a+c from aa]
  cases lM d (last+v+1) (xs.drop (k+m+a+c))with
  |error e=> rfl
  |ok p=>
   obtain⟨r,c'⟩:=p
   simp only[Cc,Except.ok.injEq,Prod.mk.injEq,Yf,Yd,Ye]
   exact⟨trivial,aa⟩
 obtain rfl:j=n:=aa
 rw[Nat.sub_self,lM]at hI
 have hR:eH most (xs.drop k)= .ok (zs,m+a):=by
  rw[eH,he];simp only[List.drop_drop];rw[hI];simp[Cc]
 refine gk (k:=rt_ Tryz.results185 (k:=?_))
 exact⟨_,hsb, .inr ⟨zs,m+a,s,hR,rfl,by rw[←Nat.add_assoc]⟩⟩
theorem Jk {G:cK}{H R:cG}{b k most:Nat}{xs:List Nat} [hg:Glb G R] [hr:Rem H Rd b (xs,k) R] (hk:k≤xs.length) (hn:xs.length≤1000000000000) (hb:∀x∈xs,x<256) (hm:most≤1000000000000):SC G Tryz.prog 153 [.pointer (some ⟨b,0,none⟩), .int .i64 ((most:Nat):Int)] H (fun v H'=>
 (∃e,eH most (xs.drop k)= .error e∧v= .tuple #[.slice none 0 0,G.err e]∧H'=Rd b (xs,k)::R)∨(∃l m,∃s':SV,eH most (xs.drop k)= .ok (l,m)∧v= .tuple #[s'.val, .nilIface]∧H'=Row s' eI l::Rd b (xs,k+m)::R)):=by
 refine SC.rem (h:=hr) ?_
 refine sWk Tryz.func153 Tryz.ntmps153 ?_
 refine go ?_
 refine mC b fun s=> ?_
 refine go ?_
 refine du (H':=Rd b (xs,k)::R) (hsb) ?_
 refine go ?_
 refine c2_ rfl (Qa hk hn hb hm) (k:=?_)
 rintro v1 H1 hK
 rcases hK with⟨e,k',he,rfl,rfl⟩|⟨l,m,s',he,rfl,rfl⟩
 ·refine e_ mv (k:=e_ exr (k:=e_ exr (k:=e_ asn (k:=e_ asn (k:=on_ (qn_ (ws_ (ws_ (wr_ (e_ mv (k:=?_)))))))))))
  refine e_ (cZ rfl) (k:=?_)
  refine gk (k:=ift (k:=go ?_))
  refine mC b fun s=> ?_
  refine go ?_
  refine gk (k:=rt_ Tryz.results153 (k:=?_))
  exact⟨_,hsb, .inl ⟨e,he,rfl,rfl⟩⟩
 refine e_ mv (k:=e_ exr (k:=e_ exr (k:=e_ asn (k:=e_ asn (k:=on_ (qn_ (ws_ (ws_ (wr_ (e_ mv (k:=?_)))))))))))
 refine e_ (cM rfl) (k:=?_)
 refine gk (k:=eg (k:=gk (k:=rt_ Tryz.results153 (k:=?_))))
 exact⟨_,hsb, .inr ⟨l,m,s',he,rfl,rfl⟩⟩
end Go.Sx
