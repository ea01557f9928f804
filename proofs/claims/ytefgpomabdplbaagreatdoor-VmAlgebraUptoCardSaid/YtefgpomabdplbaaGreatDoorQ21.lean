import Derived.Test.YtefgpomabdplbaaGreatDoorQ20
set_option linter.unusedVariables false
set_option linter.unusedSimpArgs false
set_option linter.unusedSectionVars false
set_option linter.unnecessarySimpa false
set_option maxHeartbeats 0
namespace Go.Sx
open Go Go.Proofs
set_option maxRecDepth 100000
section
variable {G:cK}{P:Program}{t:Tm}{H:cG}{dst:Option Tmp}{ty:TypeId}{pos:String}{after:Array Edge}{g:Option (Nat×Bool)}
theorem xS {T K E:TypeId}{x y v:Operand}{r:Nat}{u:Value}{kv:List (ByteArray×Value)}{s:ByteArray}{C:Hp→cG}(hx:evo t x=some (.map (some r))) (hy:evo t y=some (.string s)) (hv:evo t v=some u) (hno:s ∉ kv.map (·.1)) [hT:Und P T (.map K E)] [hK:Und P K .string] [hf:Foc H Mv r kv C]:
 St G P ⟨dst, .mapUpdate T x y v,ty,pos,after,g⟩ t H (fun u' H'=> u'=undef∧H'=C (Mv r (kv++ [(s,u)]))):=
 fun ρ hρ w hw=> by
  obtain⟨hS,L,hL,hl⟩:=hw
  obtain⟨L1,M,L2,rfl,⟨es,clock,rfl,hk⟩,hB⟩:=hf.foc _ hL
  have hb:w.heap[r]? =some (.map es.toArray clock):=hl.at_ (r, .map es.toArray clock) (an)
  have hg:=MapKept.run_getObj_map (P:=P) hb
  have hck:=MapKept.run_checkKey (P:=P) (w:=w) hK.out (lS s)
  rcases mJ s kv es 0 hk.keys hk.vals with⟨j,v',h1,_⟩|⟨h1,h2⟩
  ·exact absurd (List.mem_map.2 ⟨_,Yj h1,rfl⟩) hno
  ·have h3:=MapKept.run_findKey (P:=P) (w:=w) hK.out h2
   have hso:=MapKept.run_setObj_map (P:=P) (.map (es.toArray.push {key:= .string s,val:=u,born:=clock}) (clock+1)) hb
   have hr:(execOp ρ ⟨dst, .mapUpdate T x y v,ty,pos,after,g⟩).run P w= .ok .skip (ec w r (.map (es.toArray.push {key:= .string s,val:=u,born:=clock}) (clock+1))):=by
    simp only[execOp,hρ _ _ hx,hρ _ _ hy,hρ _ _ hv,Instr.mapUpdate,Sem.run_bind,da (T:=T),Result.andThen_ok,hg,hck,h3,hso,Sem.run_pure]
    rfl
   have hst:MapKept.Stamped (es++ [({key:= .string s,val:=u,born:=clock}:MapEntry)]).toArray (clock+1):=by
    have:=MapKept.stamped_push (key:= .string s) (val:=u) hk.stamped (fun e he=> by
     intro heq
     apply hno
     have h5:e.key∈es.map (·.key):=List.mem_map_of_mem (by simpa using he)
     rw[hk.keys,heq]at h5
     obtain⟨p,hp,hps⟩:=List.mem_map.1 h5
     cases hps
     exact List.mem_map_of_mem hp)
    simpa using this
   rw[hr]
   refine⟨C (Mv r (kv++ [(s,u)])),⟨⟨hS.os,hS.tape,hS.output⟩,_,hB _ [(r, .map (es.toArray.push {key:= .string s,val:=u,born:=clock}) (clock+1))] ⟨es++ [{key:= .string s,val:=u,born:=clock}],clock+1,an,⟨hst,by simp[hk.keys],by simp[hk.vals]⟩⟩,?_⟩,rfl,rfl⟩
   have:=jc.change (w':=ec w r (.map (es.toArray.push {key:= .string s,val:=u,born:=clock}) (clock+1))) (L1:=L1) (L2:=L2) (b:=r) (o:= .map es.toArray clock) (o':= .map (es.toArray.push {key:= .string s,val:=u,born:=clock}) (clock+1)) (bx) (fS hb) (fun i hi _=> fh hi)
   simpa using this
end
def rJ (fs:List FV) (v:ByteArray×ByteArray):Nat:=match fk fs (cF v.1)with
 |none=> 12
 |some i=> if 4096<v.2.size then 3 else match fs[i]? with
  |some p=> bif iw p.kind (cF v.2)then 0 else 13
  |none=> 0
def jq (fs:List FV):List (ByteArray×ByteArray)→Nat
 | []=> 0
 |v::l=> if rJ fs v=0 then jq fs l else rJ fs v
def gy (fs:List FV) (vs:List (ByteArray×ByteArray)):Nat:=if fI fs=false then 11 else if 64<vs.length then 3 else jq fs vs
theorem tY {fs:List FV}{vs:List (ByteArray×ByteArray)}{i:Nat}{v:ByteArray×ByteArray}(h:vs[i]? =some v):jq fs (vs.drop i)=if rJ fs v=0 then jq fs (vs.drop (i+1))else rJ fs v:=by
 have hi:=(Yk.1 h).1
 have e:vs[i]=v:=(Yk.1 h).2
 rw[List.drop_eq_getElem_cons hi,jq,e]
theorem ot {fs:List FV}{w:List Nat}{i:Nat}(h:fk fs w=some i):∃p,fs[i]? =some p∧cF p.name=w:=by
 rw[fk,List.findIdx?_eq_some_iff_getElem]at h
 obtain⟨hi,h1,_⟩:=h
 exact⟨fs[i],Yi hi,by simpa using h1⟩
theorem vk {G:cK}{H:cG}{s:SV}{fs:List FV} [hs:Sl H s eF fs] (hn:fs.length≤1000000000) (hf:∀f∈fs,f.name.size≤1000000000000):SC G Tryz.prog 49 [.agg [s.val].toArray] H (fun v H'=> ∃c:Int,v= .int .i64 c∧((fI fs=false∧c=11)∨(fI fs=true∧c=0))∧H'=H):=
 (Fy hn hf).mono fun v H' h=> by
   obtain⟨h1,⟨h2,h3⟩|⟨h2,h3⟩⟩:=h
   ·exact⟨11,h3, .inl ⟨h2,rfl⟩,h1⟩
   ·exact⟨0,h3, .inr ⟨h2,rfl⟩,h1⟩
theorem Ot {G:cK}{H:cG}{s vv:SV}{fs:List FV}{vs:List (ByteArray×ByteArray)} [hf:Sl H s eF fs] [hv:Sl H vv eVl vs] (hn:fs.length≤1000000) (hfn:∀f∈fs,f.name.size≤1000000000) (hvn:vs.length≤1000000000) (hq:∀v∈vs,v.2.size≤1000000000):SC G Tryz.prog 103 [.agg [s.val].toArray,vv.val] H (fun v H'=> v= .int .i64 ((gy fs vs:Nat):Int)∧H'=H):=by
 refine sWk Tryz.func103 Tryz.ntmps103 ?_
 refine gk (k:=bxx (k:=fun b2=>?_))
 refine go ?_
 refine c1_ rfl (vk (aa) (fun f hf=> by have:=hfn f hf;omega)) (k:=?_)
 rintro _ _ ⟨c,rfl,hK,rfl⟩
 refine gk (k:=wi_ (k:=fun h1=>?_) (m:=fun h1=>?_))
 ·obtain⟨hc,rfl⟩:fI fs=false∧c=11:=by
   rcases hK with hK|⟨_,h⟩
   ·exact hK
   ·exact absurd h h1
  have hT:gy fs vs=11:=by rw[gy,if_pos hc]
  refine gk (k:=rt_ Tryz.results103 (k:=?_))
  exact⟨_,hsb,by rw[hT];all_goals rfl,rfl⟩
 have hc:fI fs=true:=by
  rcases hK with⟨_,h⟩|⟨h,_⟩
  ·have h2:=h1;rw[h]at h2;exact absurd h2 (ag)
  ·exact h
 have hc2:¬fI fs=false:=by rw[hc];decide
 refine gk (k:=wi_ (k:=fun h2=>?_) (m:=fun h2=>?_))
 ·have hT:gy fs vs=3:=by rw[gy,if_neg hc2,if_pos (aa)]
  refine gk (k:=rt_ Tryz.results103 (k:=?_))
  exact⟨_,hsb,by rw[hT];all_goals rfl,rfl⟩
 have hT:gy fs vs=jq fs vs:=by rw[gy,if_neg hc2,if_neg (aa)]
 refine gk (k:=dt (Nat) (fun y=> y≤vs.length∧jq fs vs=jq fs (vs.drop y)) (fun y=> [(23, .int .i64 ((y:Nat):Int))]) [(2,_),(21,_),(22,_)] (fun y=> []) _ (fun y=> vs.length - y) (0) (h0:=?_) (k:=?_))
 ·try dsimp only
  exact⟨Yl _,rfl⟩
 rintro i ⟨hi,hth⟩
 try dsimp only[Yd,Ye]at*
 refine gk (k:=wi_ (k:=fun h3=>?_) (m:=fun h3=>?_))
 ·obtain⟨v,hvi⟩:∃v,vs[i]? =some v:=⟨_,Yi (aa)⟩
  have hvq:=hq v (Yj hvi)
  have hvl:=cL v.2
  rw[tY hvi]at hth
  have hG:rJ fs v=match fk fs (cF v.1)with
   |none=> 12
   |some i=> if 4096<v.2.size then 3 else match fs[i]? with
    |some p=> bif iw p.kind (cF v.2)then 0 else 13
    |none=> 0:=rfl
  refine gk (k:=alc (k:=fun b7=>?_))
  refine go ?_
  refine c2_ rfl (Ou (aa)) (k:=?_)
  rintro _ _ ⟨k,b,rfl,hkb,rfl⟩
  refine go ?_
  refine wi_ (k:=fun h4=>?_) (m:=fun h4=>?_)
  ·obtain⟨hb,hF⟩:b=false∧fk fs (cF v.1)=none:=by
    rcases hkb with⟨h1,_⟩|h1
    ·rw[h1]at h4;exact absurd h4 (ag)
    ·exact h1
   rw[hF]at hG
   dsimp only at hG
   rw[hG,if_neg (ag)]at hth
   refine gk (k:=rt_ Tryz.results103 (k:=?_))
   exact⟨_,hsb,bD,rfl⟩
  obtain⟨hb,hF⟩:b=true∧fk fs (cF v.1)=some k:=by
   rcases hkb with h1|⟨h1,_⟩
   ·exact h1
   ·rw[h1]at h4;exact absurd h4 (ag)
  obtain⟨p,hp,_⟩:=ot hF
  have hkl:=(Yk.1 hp).1
  rw[hF]at hG
  dsimp only at hG
  rw[hp]at hG
  dsimp only at hG
  refine gk (k:=wi_ (k:=fun h5=>?_) (m:=fun h5=>?_))
  ·rw[if_pos (aa)]at hG
   rw[hG,if_neg (ag)]at hth
   refine gk (k:=rt_ Tryz.results103 (k:=?_))
   exact⟨_,hsb,bD,rfl⟩
  rw[if_neg (aa)]at hG
  refine go ?_
  refine gk (k:=dh 11 59 (k:=fun h6=>gk (k:=dN 5 58 (k:=fun h7=>gk (k:=edq)) (q:=gk (k:=edq)))) (q:=gk (k:=wi_ (k:=fun h8=>?_) (m:=fun h8=>?_))))
  ·have hbad:iw p.kind (cF v.2)=false:=by
    obtain⟨c1,c2⟩:=h8
    rw[iw,if_pos c1]
    rcases c2 with c2|c2
    ·simp[List.eq_nil_of_length_eq_zero (show(cF v.2).length=0 from aa)]
    ·rw[Yr (show ¬(cF v.2).length≤64 from aa)];simp
   rw[hbad]at hG
   rw[hG]at hth
   refine gk (k:=rt_ Tryz.results103 (k:=?_))
   exact⟨_,hsb,bD,rfl⟩
  have h2:=h8
  refine go ?_
  refine c1_ rfl (Jl (aa)) (k:=?_)
  rintro _ _ ⟨n,b2,rfl,hnb,rfl⟩
  refine gk (k:=dh 3 71 (k:=fun h9=>gk (k:=edq)) (q:=go ?_))
  refine gk (k:=wi_ (k:=fun h10=>?_) (m:=fun h10=>?_))
  ·obtain⟨c1,c2⟩:=h10
   have hbad:iw p.kind (cF v.2)=false:=by
    rw[iw,if_neg (aa),if_pos c1]
    rcases hnb with⟨h1,_⟩|⟨_,h1⟩
    ·rw[h1]at c2;exact absurd c2 (ag)
    ·rw[h1];all_goals rfl
   rw[hbad]at hG
   rw[hG]at hth
   refine gk (k:=rt_ Tryz.results103 (k:=?_))
   exact⟨_,hsb,bD,rfl⟩
  have h3:=h10
  have hgd:iw p.kind (cF v.2)=true:=by
   rw[iw]
   by_cases k2:p.kind=2
   ·rw[if_pos k2]
    have h4:¬(v.2.size:Int)=0∧¬(64<(v.2.size:Int)):=by
     constructor
     ·intro h;apply absurd h2;simp[k2,h]
     ·intro h;apply absurd h2;simp[k2,h]
    rw[Yr (show ¬cF v.2= []from fun h=> by rw[h]at hvl;simp at hvl;omega),Ys (show(cF v.2).length≤64 from aa)];all_goals rfl
   ·rw[if_neg k2]
    by_cases k3:p.kind=3
    ·rw[if_pos k3]
     rcases hnb with⟨_,h1,_⟩|⟨h1,_⟩
     ·rw[h1];all_goals rfl
     ·exact absurd h3 (by simp[k3,h1])
    ·rw[if_neg k3]
  rw[hgd,cond_true]at hG
  rw[hG,if_pos rfl]at hth
  refine go ?_
  refine ln_ (i+1) (k:=?_)
  try dsimp only
  exact⟨aa,hth⟩
 obtain rfl:i=vs.length:=aa
 rw[List.drop_length]at hth
 refine gk (k:=rt_ Tryz.results103 (k:=?_))
 exact⟨_,hsb,bD,rfl⟩
theorem px:∀(fs:List FV) (seen:List (List Nat)),qp seen fs=true→(∀f∈fs,cF f.name ∉ seen)∧(fs.map fun f=> cF f.name).Nodup
 | [],seen,_=> ⟨an,an⟩
 |f::r,seen,h=> by
  simp only[qp,Bool.and_eq_true,Bool.not_eq_true',decide_eq_false_iff_not]at h
  obtain⟨h1,h2,h3,h4⟩:=h
  obtain⟨h5,h6⟩:=px r _ h4
  constructor
  ·intro g hg
   rcases List.mem_cons.1 hg with rfl|hg
   ·exact h1
   ·exact fun hh=> h5 g hg (Yy _ hh)
  ·rw[List.map_cons,List.nodup_cons]
   refine⟨fun hh=> ?_,h6⟩
   obtain⟨g,hg,he⟩:=List.mem_map.1 hh
   exact h5 g hg (Yx _ (by rw[he];exact List.mem_singleton_self _))
theorem yt {fs:List FV}(hc:fI fs=true) {i j:Nat}{p p':FV}(hi:fs[i]? =some p) (hj:fs[j]? =some p') (hn:cF p.name=cF p'.name):i=j:=by
 rw[fI,Bool.and_eq_true]at hc
 have h:=(px fs [] hc.2).2
 have h1:=(Yk.1 hi).1
 have h2:(fs.map fun f=> cF f.name)[i]? =(fs.map fun f=> cF f.name)[j]? :=by
  rw[Xd,Xd,hi,hj];simp[hn]
 exact(List.getElem?_inj (by simpa using h1) h).1 h2
def kvF (fs:List FV):List (ByteArray×Value):=(List.range fs.length).map fun i=> ((fs.getD i ⟨⟨#[]⟩,0,false,false,false⟩).name,Value.int .i64 (i:Int))
theorem C6 (fs:List FV):(kvF fs).length=fs.length:=by simp[kvF]
theorem sy {fs:List FV}{i:Nat}{p:FV}(h:fs[i]? =some p):(kvF fs)[i]? =some (p.name, .int .i64 (i:Int)):=by
 have hi:=(Yk.1 h).1
 rw[kvF,Xd,List.getElem?_range hi]
 simp[List.getD_eq_getElem?_getD,h]
theorem Gn {fs:List FV}{i:Nat}{p:FV}(h:fs[i]? =some p):(kvF fs).take (i+1)=(kvF fs).take i++ [(p.name, .int .i64 (i:Int))]:=by
 rw[List.take_add_one,sy h];all_goals rfl
theorem JI {fs:List FV}(hc:fI fs=true) {i:Nat}{p:FV}(h:fs[i]? =some p):p.name ∉((kvF fs).take i).map (·.1):=by
 intro hm
 obtain⟨e,he,hn⟩:=List.mem_map.1 hm
 obtain⟨j,hj⟩:=List.mem_iff_getElem?.1 he
 rw[List.getElem?_take]at hj
 split at hj
 ·rename_i hji
  have hi:=(Yk.1 h).1
  have hp':fs[j]? =some fs[j]:=Yi (aa)
  rw[sy hp']at hj
  cases hj
  have:=yt hc h hp' (by rw[←hn])
  omega
 ·cases hj
theorem JW {fs:List FV}(hc:fI fs=true) {i:Nat}{s:ByteArray}{v:Value}(h:(kvF fs)[i]? =some (s,v)):fk fs (cF s)=some i∧v= .int .i64 (i:Int):=by
 have hi:i<fs.length:=by have:=(Yk.1 h).1;rwa [C6]at this
 have hp:fs[i]? =some fs[i]:=Yi hi
 rw[sy hp]at h
 cases h
 exact⟨wP hp rfl fun j p' hj hp' he=> by have:=yt hc hp' hp he;omega,rfl⟩
theorem H5 {fs:List FV}{s:ByteArray}(h:s ∉(kvF fs).map (·.1)):fk fs (cF s)=none:=
 qX fun j p hj hp he=> h (List.mem_map.2 ⟨_,Yj (sy hp),kM.1 he⟩)
theorem lA.mono {G:cK}{P:Program}{R R':Value→cG→Prop}{r:Result Next}(h:lA G P R r) (hk:∀v H',R v H'→R' v H'):lA G P R' r:=by
 cases r with
 |ok n w'=>
  cases n <;> simp only[lA]at h⊢
  case value v=> obtain⟨H',h1,h2⟩:=h;exact⟨H',h1,hk _ _ h2⟩
  case skip=> obtain⟨H',h1,h2⟩:=h;exact⟨H',h1,hk _ _ h2⟩
  case enter f args=>
   refine h.mono fun e w'' he=> ?_
   cases e with
   |returned v=> obtain⟨H',h1,h2⟩:=he;exact⟨H',h1,hk _ _ h2⟩
   |_=> exact he.elim
 |halt x w'=> simp only[lA]at h
theorem BJ {G:cK}{P:Program}{o:Oper}{t:Tm}{H:cG}{R R':Value→cG→Prop}(h:St G P o t H R) (hk:∀v H',R v H'→R' v H'):St G P o t H R':=
 fun ρ hρ w hw=> lA.mono (h ρ hρ w hw) hk
section
variable {G:cK}{P:Program}{t:Tm}{H:cG}{dst:Option Tmp}{ty:TypeId}{pos:String}{after:Array Edge}{g:Option (Nat×Bool)}
theorem Fg {T K E:TypeId}{x y:Operand}{r sz bb:Nat}{fs:List FV}{s:ByteArray}{C:Hp→cG}(hc:fI fs=true) (hx:evo t x=some (.map (some r))) (hy:evo t y=some (.string s)) [hT:Und P T (.map K E)] [hK:Und P K .string] [hE:Inf P E sz bb (.int .i64 0)] [hf:Foc H Mv r (kvF fs) C]:
 St G P ⟨dst, .lookup T x y true,ty,pos,after,g⟩ t H (fun u H'=> ∃(k:Nat) (b:Bool),u= .tuple #[.int .i64 (k:Int), .bool b]∧((b=true∧fk fs (cF s)=some k)∨(b=false∧fk fs (cF s)=none))∧H'=H):=
 BJ (BK (ok:=true) hx hy) fun u H' h=> by
  obtain⟨h1,⟨i,v,h2,h3⟩|⟨h2,h3⟩⟩:=h
  ·obtain⟨h4,h5⟩:=JW hc h2
   exact⟨i,true,by rw[h3,h5];all_goals rfl, .inl ⟨rfl,h4⟩,h1⟩
  ·exact⟨0,false,by rw[h3];all_goals rfl, .inr ⟨rfl,H5 h2⟩,h1⟩
end
def P0 (G:cK) (n:Nat):Value:=if n=0 then .nilIface else if n=11 then G.err 0 else if n=3 then G.err 4 else if n=12 then G.err 11 else G.err 12
theorem O1 {G:cK}{H:cG}{s vv:SV}{fs:List FV}{vs:List (ByteArray×ByteArray)} [hg:Glb G H] [hf:Sl H s eF fs] [hv:Sl H vv eVl vs] (hn:fs.length≤1000000) (hfn:∀f∈fs,f.name.size≤1000000000) (hvn:vs.length≤1000000000) (hq:∀v∈vs,v.2.size≤1000000000):SC G Tryz.prog 105 [.agg [s.val].toArray,vv.val] H (fun v H'=> v=P0 G (gy fs vs)∧H'=H):=by
 refine sWk Tryz.func105 Tryz.ntmps105 ?_
 refine gk (k:=bxx (k:=fun b2=>?_))
 refine go ?_
 refine c1_ rfl (wq (aa) (fun f hf=> by have:=hfn f hf;omega)) (k:=?_)
 rintro v1 H1 ⟨rfl,hK⟩
 rcases hK with⟨hc,rfl⟩|⟨hc,rfl⟩
 ·have hT:gy fs vs=11:=by rw[gy,if_pos hc]
  refine e_ asn (k:=on_ (qn_ (ws_ (wr_ (e_ mv (k:=?_))))))
  refine e_ (cZ rfl) (k:=?_)
  refine gk (k:=ift (k:=gk (k:=rt_ Tryz.results105 (k:=?_))))
  exact⟨_,hsb,by rw[hT];all_goals rfl,rfl⟩
 have hc2:¬fI fs=false:=by rw[hc];decide
 refine e_ asn (k:=on_ (qn_ (ws_ (wr_ (e_ mv (k:=?_))))))
 refine e_ (cM rfl) (k:=?_)
 refine gk (k:=eg (k:=gk (k:=wi_ (k:=fun h1=>?_) (m:=fun h1=>?_))))
 ·have hT:gy fs vs=3:=by rw[gy,if_neg hc2,if_pos (aa)]
  refine gk (k:=rt_ Tryz.results105 (k:=?_))
  exact⟨_,hsb,by rw[hT];all_goals rfl,rfl⟩
 have hT:gy fs vs=jq fs vs:=by rw[gy,if_neg hc2,if_neg (aa)]
 refine go ?_
 refine s_ (CY rfl) (k:=?_)
 rintro _ _ ⟨r25,rfl,rfl⟩
 refine gk (k:=dt (Nat) (fun y=> y≤fs.length) (fun y=> [(29, .int .i64 ((y:Nat):Int))]) [(1,_),(2,_),(6,_),(27,_),(28,_)] (fun y=> [Mv r25 ((kvF fs).take y)]) _ (fun y=> fs.length - y) (0) (h0:=?_) (k:=?_))
 ·try dsimp only
  exact Yl _
 rintro i hi
 try dsimp only[Yd,Ye]at*
 refine gk (k:=wi_ (k:=fun h2=>?_) (m:=fun h2=>?_))
 ·obtain⟨p,hp⟩:∃p,fs[i]? =some p:=⟨_,Yi (aa)⟩
  have hnew:=JI hc hp
  have hkt:=Gn hp
  refine gk (k:=alc (k:=fun b8=>?_))
  refine go ?_
  refine s_ (xS rfl rfl rfl hnew) (k:=?_)
  rintro _ _ ⟨rfl,rfl⟩
  rw[←hkt]
  refine go ?_
  refine ln_ (i+1) (k:=?_)
  try dsimp only
  omega
 obtain rfl:i=fs.length:=aa
 have hall:(kvF fs).take fs.length=kvF fs:=List.take_of_length_le (by rw[C6];exact Nat.le_refl _)
 rw[hall]
 refine go ?_
 refine dt (Nat) (fun y=> y≤vs.length∧jq fs vs=jq fs (vs.drop y)) (fun y=> [(41, .int .i64 ((y:Nat):Int))]) [(2,_),(6,_),(39,_),(40,_)] (fun y=> []) _ (fun y=> vs.length - y) (0) (h0:=?_) (k:=?_)
 ·try dsimp only
  exact⟨Yl _,rfl⟩
 rintro i ⟨hi,hth⟩
 try dsimp only[Yd,Ye]at*
 refine gk (k:=wi_ (k:=fun h3=>?_) (m:=fun h3=>?_))
 ·obtain⟨v,hvi⟩:∃v,vs[i]? =some v:=⟨_,Yi (aa)⟩
  have hvq:=hq v (Yj hvi)
  have hvl:=cL v.2
  rw[tY hvi]at hth
  have hG:rJ fs v=match fk fs (cF v.1)with
   |none=> 12
   |some i=> if 4096<v.2.size then 3 else match fs[i]? with
    |some p=> bif iw p.kind (cF v.2)then 0 else 13
    |none=> 0:=rfl
  refine gk (k:=alc (k:=fun b10=>?_))
  refine go ?_
  refine s_ (Fg hc rfl rfl) (k:=?_)
  rintro _ _ ⟨k,b,rfl,hkb,rfl⟩
  refine go ?_
  refine wi_ (k:=fun h4=>?_) (m:=fun h4=>?_)
  ·obtain⟨hb,hF⟩:b=false∧fk fs (cF v.1)=none:=by
    rcases hkb with⟨h1,_⟩|h1
    ·rw[h1]at h4;exact absurd h4 (ag)
    ·exact h1
   rw[hF]at hG
   dsimp only at hG
   rw[hG,if_neg (ag)]at hth
   refine gk (k:=rt_ Tryz.results105 (k:=?_))
   exact⟨_,hsb,bD,rfl⟩
  obtain⟨hb,hF⟩:b=true∧fk fs (cF v.1)=some k:=by
   rcases hkb with h1|⟨h1,_⟩
   ·exact h1
   ·rw[h1]at h4;exact absurd h4 (ag)
  obtain⟨p,hp,_⟩:=ot hF
  have hkl:=(Yk.1 hp).1
  rw[hF]at hG
  dsimp only at hG
  rw[hp]at hG
  dsimp only at hG
  refine gk (k:=wi_ (k:=fun h5=>?_) (m:=fun h5=>?_))
  ·rw[if_pos (aa)]at hG
   rw[hG,if_neg (ag)]at hth
   refine gk (k:=rt_ Tryz.results105 (k:=?_))
   exact⟨_,hsb,bD,rfl⟩
  rw[if_neg (aa)]at hG
  refine go ?_
  refine cX cI (as_ 0 (q:=fla) (k:=as_ 1 (q:=ldv) (k:=as_ 2 (q:=mv) (k:=as_ 3 (q:=ixa) (k:=as_ 4 (q:=fle) (k:=as_ 5 (q:=lfl) (k:=as_ 6 (q:=fla) (k:=as_ 7 (q:=ldv) (k:=?_)))))))))
  refine cE 8 rfl rfl (a8) rfl (gQ (vs:= [_,_]) rfl (LA (aa))) (?_)
  refine as_ 9 (q:=k8) (k:=az_ (k:=gk (k:=wi_ (k:=fun h6=>?_) (m:=fun h6=>?_))))
  ·have hbad:iw p.kind (cF v.2)=false:=h6
   rw[hbad]at hG
   rw[hG]at hth
   refine gk (k:=rt_ Tryz.results105 (k:=?_))
   exact⟨_,hsb,bD,rfl⟩
  have hgd:iw p.kind (cF v.2)=true:=h6
  rw[hgd,cond_true]at hG
  rw[hG,if_pos rfl]at hth
  refine go ?_
  refine ln_ (i+1) (k:=?_)
  try dsimp only
  exact⟨aa,hth⟩
 obtain rfl:i=vs.length:=aa
 rw[List.drop_length]at hth
 refine gk (k:=rt_ Tryz.results105 (k:=?_))
 exact⟨_,hsb,bD,rfl⟩
def dX (n:Nat):Nat:=if n=0 then 0 else Nat.log2 n+1
theorem oA (n:Nat):n<2 ^ dX n:=by
 rw[dX];split
 ·omega
 ·exact Nat.lt_log2_self
theorem ri {n:Nat}(h:n≠0):2 ^ (dX n - 1)≤n:=by
 rw[dX,if_neg h,Nat.add_sub_cancel];exact Nat.log2_self_le h
theorem DV {n k:Nat}(h1:2 ^ k≤n) (h2:n<2 ^ (k+1)):dX n=k+1:=by
 have h0:n≠0:=by have:=Nat.two_pow_pos k;omega
 rw[dX,if_neg h0]
 have h3:Nat.log2 n<k+1:=(Nat.log2_lt h0).2 h2
 have h4:¬Nat.log2 n<k:=fun h=> by have:=(Nat.log2_lt h0).1 h;omega
 omega
theorem ee (n k:Nat) (h:2 ^ k≤n):dX n=dX (n / 2 ^ k)+k:=by
 have hp:=Nat.two_pow_pos k
 have h0:n / 2 ^ k≠0:=by
  have:=Nat.div_pos h hp;omega
 obtain⟨m,hm⟩:∃m,dX (n / 2 ^ k)=m+1:=⟨Nat.log2 (n / 2 ^ k),by rw[dX,if_neg h0]⟩
 have h1:=ri h0
 have h2:=oA (n / 2 ^ k)
 rw[hm]at h1 h2⊢
 rw[Nat.add_sub_cancel]at h1
 rw[show m+1+k=(m+k)+1 from aa]
 apply DV
 ·rw[Nat.pow_add];exact(Nat.le_div_iff_mul_le hp).1 h1
 ·rw[show m+k+1=(m+1)+k from aa,Nat.pow_add];exact(Nat.div_lt_iff_lt_mul hp).1 h2
def Ax:ByteArray:=⟨#[0,1,2,2,3,3,3,3,4,4,4,4,4,4,4,4,5,5,5,5,5,5,5,5,5,5,5,5,5,5,5,5,6,6,6,6,6,6,6,6,6,6,6,6,6,6,6,6,6,6,6,6,6,6,6,6,6,6,6,6,6,6,6,6,7,7,7,7,7,7,7,7,7,7,7,7,7,7,7,7,7,7,7,7,7,7,7,7,7,7,7,7,7,7,7,7,7,7,7,7,7,7,7,7,7,7,7,7,7,7,7,7,7,7,7,7,7,7,7,7,7,7,7,7,7,7,7,7,8,8,8,8,8,8,8,8,8,8,8,8,8,8,8,8,8,8,8,8,8,8,8,8,8,8,8,8,8,8,8,8,8,8,8,8,8,8,8,8,8,8,8,8,8,8,8,8,8,8,8,8,8,8,8,8,8,8,8,8,8,8,8,8,8,8,8,8,8,8,8,8,8,8,8,8,8,8,8,8,8,8,8,8,8,8,8,8,8,8,8,8,8,8,8,8,8,8,8,8,8,8,8,8,8,8,8,8,8,8,8,8,8,8,8,8,8,8,8,8,8,8,8,8,8,8,8,8]⟩
theorem Io:∀i:Fin 256,at0 (cF Ax) i.val=dX i.val:=ay
theorem nE {i:Nat}(h:i<256):at0 (cF Ax) i=dX i:=Io ⟨i,h⟩
theorem bl8 (n:Nat) (h:n<256):dX n≤8:=by
 by_cases h0:n=0
 ·subst h0;decide
 ·have h1:=ri h0
  rcases Nat.lt_or_ge 8 (dX n)with h2|h2
  ·exfalso
   have h3:2 ^ 8≤2 ^ (dX n - 1):=Nat.pow_le_pow_right (ag) (aa)
   omega
  ·exact h2
theorem yC:Ax.size=256:=rfl
theorem LS {G:cK}{H:cG}{x:Nat}(hx:x<18446744073709551616):SC G Tryz.prog 207 [.int .u64 (x:Int)] H (fun v H'=> v= .int .i64 ((dX x:Nat):Int)∧H'=H):=by
 have hsz:=yC
 refine sWk Tryz.func207 Tryz.ntmps207 ?_
 refine gk (k:=wi_ (k:=fun h1=>?_) (m:=fun h1=>?_))
 ·have hs1:=ee x 32 (aa)
  refine ws_ (wr_ (e_ mv (k:=?_)))
  refine e_ (fC rfl rfl _ 32 rfl rfl (aI)) (k:=?_)
  refine go ?_
  refine wi_ (k:=fun h2=>?_) (m:=fun h2=>?_)
  ·first|have hs2:=ee (x / 2 ^ 32) 16 (aa)|have hs2:=ee x 16 (aa)
   refine ws_ (wr_ (e_ mv (k:=?_)))
   refine e_ (fC rfl rfl _ 16 rfl rfl (aI)) (k:=?_)
   refine go ?_
   refine gk (k:=wi_ (k:=fun h3=>?_) (m:=fun h3=>?_))
   ·first|have hs3:=ee (x / 2 ^ 32 / 2 ^ 16) 8 (aa)|have hs3:=ee (x / 2 ^ 32) 8 (aa)|have hs3:=ee (x / 2 ^ 16) 8 (aa)|have hs3:=ee x 8 (aa)
    refine ws_ (wr_ (e_ mv (k:=?_)))
    refine e_ (fC rfl rfl _ 8 rfl rfl (aI)) (k:=?_)
    refine e_ asn (k:=on_ (qn_ (wr_ (e_ mv (k:=e_ iad (k:=e_ asn (k:=on_ (qn_ (ws_ (wr_ (?_)))))))))))
    first|have hb8:=bl8 (x) (aa)|have hb8:=bl8 (x / 2 ^ 8) (aa)|have hb8:=bl8 (x / 2 ^ 16) (aa)|have hb8:=bl8 (x / 2 ^ 16 / 2 ^ 8) (aa)|have hb8:=bl8 (x / 2 ^ 32) (aa)|have hb8:=bl8 (x / 2 ^ 32 / 2 ^ 8) (aa)|have hb8:=bl8 (x / 2 ^ 32 / 2 ^ 16) (aa)|have hb8:=bl8 (x / 2 ^ 32 / 2 ^ 16 / 2 ^ 8) (aa)
    refine e_ mv (k:=e_ mv (k:=?_))
    refine e_ (cU 256 rfl rfl rfl _ rfl (aa)) (k:=?_)
    refine e_ (evq ixs (congrArg (fun n:Nat=> Value.int .u8 (n:Int)) (nE (aa)))) (k:=?_)
    refine e_ (dy rfl (aa)) (k:=?_)
    refine gk (k:=rt_ Tryz.results207 (k:=?_))
    exact⟨_,hsb,congrArg (Value.int .i64) (aa),rfl⟩
   refine wk_ (qn_ (ws_ (wr_ (?_))))
   first|have hb8:=bl8 (x) (aa)|have hb8:=bl8 (x / 2 ^ 8) (aa)|have hb8:=bl8 (x / 2 ^ 16) (aa)|have hb8:=bl8 (x / 2 ^ 16 / 2 ^ 8) (aa)|have hb8:=bl8 (x / 2 ^ 32) (aa)|have hb8:=bl8 (x / 2 ^ 32 / 2 ^ 8) (aa)|have hb8:=bl8 (x / 2 ^ 32 / 2 ^ 16) (aa)|have hb8:=bl8 (x / 2 ^ 32 / 2 ^ 16 / 2 ^ 8) (aa)
   refine e_ mv (k:=e_ mv (k:=?_))
   refine e_ (cU 256 rfl rfl rfl _ rfl (aa)) (k:=?_)
   refine e_ (evq ixs (congrArg (fun n:Nat=> Value.int .u8 (n:Int)) (nE (aa)))) (k:=?_)
   refine e_ (dy rfl (aa)) (k:=?_)
   refine gk (k:=rt_ Tryz.results207 (k:=?_))
   exact⟨_,hsb,congrArg (Value.int .i64) (aa),rfl⟩
  refine gk (k:=wi_ (k:=fun h4=>?_) (m:=fun h4=>?_))
  ·first|have hs3:=ee (x / 2 ^ 32 / 2 ^ 16) 8 (aa)|have hs3:=ee (x / 2 ^ 32) 8 (aa)|have hs3:=ee (x / 2 ^ 16) 8 (aa)|have hs3:=ee x 8 (aa)
   refine ws_ (wr_ (e_ mv (k:=?_)))
   refine e_ (fC rfl rfl _ 8 rfl rfl (aI)) (k:=?_)
   refine e_ asn (k:=on_ (qn_ (wr_ (e_ mv (k:=e_ iad (k:=e_ asn (k:=on_ (qn_ (ws_ (wr_ (?_)))))))))))
   first|have hb8:=bl8 (x) (aa)|have hb8:=bl8 (x / 2 ^ 8) (aa)|have hb8:=bl8 (x / 2 ^ 16) (aa)|have hb8:=bl8 (x / 2 ^ 16 / 2 ^ 8) (aa)|have hb8:=bl8 (x / 2 ^ 32) (aa)|have hb8:=bl8 (x / 2 ^ 32 / 2 ^ 8) (aa)|have hb8:=bl8 (x / 2 ^ 32 / 2 ^ 16) (aa)|have hb8:=bl8 (x / 2 ^ 32 / 2 ^ 16 / 2 ^ 8) (aa)
   refine e_ mv (k:=e_ mv (k:=?_))
   refine e_ (cU 256 rfl rfl rfl _ rfl (aa)) (k:=?_)
   refine e_ (evq ixs (congrArg (fun n:Nat=> Value.int .u8 (n:Int)) (nE (aa)))) (k:=?_)
   refine e_ (dy rfl (aa)) (k:=?_)
   refine gk (k:=rt_ Tryz.results207 (k:=?_))
   exact⟨_,hsb,congrArg (Value.int .i64) (aa),rfl⟩
  refine wk_ (qn_ (ws_ (wr_ (?_))))
  first|have hb8:=bl8 (x) (aa)|have hb8:=bl8 (x / 2 ^ 8) (aa)|have hb8:=bl8 (x / 2 ^ 16) (aa)|have hb8:=bl8 (x / 2 ^ 16 / 2 ^ 8) (aa)|have hb8:=bl8 (x / 2 ^ 32) (aa)|have hb8:=bl8 (x / 2 ^ 32 / 2 ^ 8) (aa)|have hb8:=bl8 (x / 2 ^ 32 / 2 ^ 16) (aa)|have hb8:=bl8 (x / 2 ^ 32 / 2 ^ 16 / 2 ^ 8) (aa)
  refine e_ mv (k:=e_ mv (k:=?_))
  refine e_ (cU 256 rfl rfl rfl _ rfl (aa)) (k:=?_)
  refine e_ (evq ixs (congrArg (fun n:Nat=> Value.int .u8 (n:Int)) (nE (aa)))) (k:=?_)
  refine e_ (dy rfl (aa)) (k:=?_)
  refine gk (k:=rt_ Tryz.results207 (k:=?_))
  exact⟨_,hsb,congrArg (Value.int .i64) (aa),rfl⟩
 refine gk (k:=wi_ (k:=fun h5=>?_) (m:=fun h5=>?_))
 ·first|have hs2:=ee (x / 2 ^ 32) 16 (aa)|have hs2:=ee x 16 (aa)
  refine ws_ (wr_ (e_ mv (k:=?_)))
  refine e_ (fC rfl rfl _ 16 rfl rfl (aI)) (k:=?_)
  refine go ?_
  refine gk (k:=wi_ (k:=fun h6=>?_) (m:=fun h6=>?_))
  ·first|have hs3:=ee (x / 2 ^ 32 / 2 ^ 16) 8 (aa)|have hs3:=ee (x / 2 ^ 32) 8 (aa)|have hs3:=ee (x / 2 ^ 16) 8 (aa)|have hs3:=ee x 8 (aa)
   refine ws_ (wr_ (e_ mv (k:=?_)))
   refine e_ (fC rfl rfl _ 8 rfl rfl (aI)) (k:=?_)
   refine e_ asn (k:=on_ (qn_ (wr_ (e_ mv (k:=e_ iad (k:=e_ asn (k:=on_ (qn_ (ws_ (wr_ (?_)))))))))))
   first|have hb8:=bl8 (x) (aa)|have hb8:=bl8 (x / 2 ^ 8) (aa)|have hb8:=bl8 (x / 2 ^ 16) (aa)|have hb8:=bl8 (x / 2 ^ 16 / 2 ^ 8) (aa)|have hb8:=bl8 (x / 2 ^ 32) (aa)|have hb8:=bl8 (x / 2 ^ 32 / 2 ^ 8) (aa)|have hb8:=bl8 (x / 2 ^ 32 / 2 ^ 16) (aa)|have hb8:=bl8 (x / 2 ^ 32 / 2 ^ 16 / 2 ^ 8) (aa)
   refine e_ mv (k:=e_ mv (k:=?_))
   refine e_ (cU 256 rfl rfl rfl _ rfl (aa)) (k:=?_)
   refine e_ (evq ixs (congrArg (fun n:Nat=> Value.int .u8 (n:Int)) (nE (aa)))) (k:=?_)
   refine e_ (dy rfl (aa)) (k:=?_)
   refine gk (k:=rt_ Tryz.results207 (k:=?_))
   exact⟨_,hsb,congrArg (Value.int .i64) (aa),rfl⟩
  refine wk_ (qn_ (ws_ (wr_ (?_))))
  first|have hb8:=bl8 (x) (aa)|have hb8:=bl8 (x / 2 ^ 8) (aa)|have hb8:=bl8 (x / 2 ^ 16) (aa)|have hb8:=bl8 (x / 2 ^ 16 / 2 ^ 8) (aa)|have hb8:=bl8 (x / 2 ^ 32) (aa)|have hb8:=bl8 (x / 2 ^ 32 / 2 ^ 8) (aa)|have hb8:=bl8 (x / 2 ^ 32 / 2 ^ 16) (aa)|have hb8:=bl8 (x / 2 ^ 32 / 2 ^ 16 / 2 ^ 8) (aa)
  refine e_ mv (k:=e_ mv (k:=?_))
  refine e_ (cU 256 rfl rfl rfl _ rfl (aa)) (k:=?_)
  refine e_ (evq ixs (congrArg (fun n:Nat=> Value.int .u8 (n:Int)) (nE (aa)))) (k:=?_)
  refine e_ (dy rfl (aa)) (k:=?_)
  refine gk (k:=rt_ Tryz.results207 (k:=?_))
  exact⟨_,hsb,congrArg (Value.int .i64) (aa),rfl⟩
 refine gk (k:=wi_ (k:=fun h7=>?_) (m:=fun h7=>?_))
 ·first|have hs3:=ee (x / 2 ^ 32 / 2 ^ 16) 8 (aa)|have hs3:=ee (x / 2 ^ 32) 8 (aa)|have hs3:=ee (x / 2 ^ 16) 8 (aa)|have hs3:=ee x 8 (aa)
  refine ws_ (wr_ (e_ mv (k:=?_)))
  refine e_ (fC rfl rfl _ 8 rfl rfl (aI)) (k:=?_)
  refine e_ asn (k:=on_ (qn_ (wr_ (e_ mv (k:=e_ iad (k:=e_ asn (k:=on_ (qn_ (ws_ (wr_ (?_)))))))))))
  first|have hb8:=bl8 (x) (aa)|have hb8:=bl8 (x / 2 ^ 8) (aa)|have hb8:=bl8 (x / 2 ^ 16) (aa)|have hb8:=bl8 (x / 2 ^ 16 / 2 ^ 8) (aa)|have hb8:=bl8 (x / 2 ^ 32) (aa)|have hb8:=bl8 (x / 2 ^ 32 / 2 ^ 8) (aa)|have hb8:=bl8 (x / 2 ^ 32 / 2 ^ 16) (aa)|have hb8:=bl8 (x / 2 ^ 32 / 2 ^ 16 / 2 ^ 8) (aa)
  refine e_ mv (k:=e_ mv (k:=?_))
  refine e_ (cU 256 rfl rfl rfl _ rfl (aa)) (k:=?_)
  refine e_ (evq ixs (congrArg (fun n:Nat=> Value.int .u8 (n:Int)) (nE (aa)))) (k:=?_)
  refine e_ (dy rfl (aa)) (k:=?_)
  refine gk (k:=rt_ Tryz.results207 (k:=?_))
  exact⟨_,hsb,congrArg (Value.int .i64) (aa),rfl⟩
 refine wk_ (qn_ (ws_ (wr_ (?_))))
 first|have hb8:=bl8 (x) (aa)|have hb8:=bl8 (x / 2 ^ 8) (aa)|have hb8:=bl8 (x / 2 ^ 16) (aa)|have hb8:=bl8 (x / 2 ^ 16 / 2 ^ 8) (aa)|have hb8:=bl8 (x / 2 ^ 32) (aa)|have hb8:=bl8 (x / 2 ^ 32 / 2 ^ 8) (aa)|have hb8:=bl8 (x / 2 ^ 32 / 2 ^ 16) (aa)|have hb8:=bl8 (x / 2 ^ 32 / 2 ^ 16 / 2 ^ 8) (aa)
 refine e_ mv (k:=e_ mv (k:=?_))
 refine e_ (cU 256 rfl rfl rfl _ rfl (aa)) (k:=?_)
 refine e_ (evq ixs (congrArg (fun n:Nat=> Value.int .u8 (n:Int)) (nE (aa)))) (k:=?_)
 refine e_ (dy rfl (aa)) (k:=?_)
 refine gk (k:=rt_ Tryz.results207 (k:=?_))
 exact⟨_,hsb,congrArg (Value.int .i64) (aa),rfl⟩
theorem NY {G:cK}{H:cG}{x:Nat}(hx:x<18446744073709551616):SC G Tryz.prog 179 [.int .u64 (x:Int)] H (fun v H'=> v= .int .i64 ((dX x:Nat):Int)∧H'=H):=by
 refine sWk Tryz.func179 Tryz.ntmps179 ?_
 refine gk (k:=eg (k:=go ?_))
 refine d1_ rfl (LS hx) (k:=gk (k:=rt_ Tryz.results179 (k:=?_)))
 exact⟨_,hsb,rfl,rfl⟩
theorem fZ (n k:Nat):dX n≤k↔n<2 ^ k:=by
 constructor
 ·intro h
  exact Nat.lt_of_lt_of_le (oA n) (Nat.pow_le_pow_right (ag) h)
 ·intro h
  by_cases h0:n=0
  ·subst h0;exact Yl _
  ·have h1:=ri h0
   rcases Nat.lt_or_ge k (dX n)with h2|h2
   ·exfalso
    have h3:2 ^ k≤2 ^ (dX n - 1):=Nat.pow_le_pow_right (ag) (aa)
    omega
   ·exact h2
theorem w3 (a b:Nat):dX (a |||b)=max (dX a) (dX b):=by
 apply Nat.le_antisymm
 ·rw[fZ]
  exact Nat.or_lt_two_pow ((fZ _ _).1 (Nat.le_max_left _ _)) ((fZ _ _).1 (Nat.le_max_right _ _))
 ·rw[Nat.max_le]
  constructor
  ·rw[fZ];exact Nat.lt_of_le_of_lt Nat.left_le_or (oA _)
  ·rw[fZ];exact Nat.lt_of_le_of_lt Nat.right_le_or (oA _)
def orL (ns:List Nat):Nat:=ns.foldl (fun a b=> a |||b) 0
theorem yn {ns:List Nat}{i x:Nat}(h:ns[i]? =some x):orL (ns.take (i+1))=orL (ns.take i) |||x:=by
 rw[orL,orL,List.take_add_one,h,List.foldl_append];all_goals rfl
theorem nQ {k:Nat}:∀{ns:List Nat}{a:Nat},a<2 ^ k→(∀x∈ns,x<2 ^ k)→ns.foldl (fun a b=> a |||b) a<2 ^ k
 | [],a,ha,_=> ha
 |x::l,a,ha,h=> nQ (ns:=l) (Nat.or_lt_two_pow ha (h x List.mem_cons_self)) fun y hy=> h y (Xa _ hy)
def cV (ns:List Nat):List Int:=ns.map fun n:Nat=> (n:Int)
theorem ez {ns:List Nat}{i x:Nat}(h:ns[i]? =some x):(cV ns)[i]? =some (x:Int):=by
 rw[cV,Xd,h];all_goals rfl
theorem dO (ns:List Nat):(cV ns).length=ns.length:=by simp[cV]
section
variable {G:cK}{P:Program}{t:Tm}{H:cG}{dst:Option Tmp}{ty:TypeId}{pos:String}{after:Array Edge}{g:Option (Nat×Bool)}
theorem ud {T U:TypeId}{x y:Operand}{k':IntKind}{i j:Int}(hx:evo t x=some (.int .i64 i)) (hy:evo t y=some (.int k' j)) (a b:Nat) (ha:i=a) (hb:j=b) (hb2:b≤64) (hl:a*2 ^ b<9223372036854775808):
 Ev G P ⟨dst, .binOp .shl T x y U,ty,pos,after,g⟩ t H (.int .i64 ((a*2 ^ b:Nat):Int)):=
 fun ρ hρ w _=> by
  have e:IntKind.wrap .i64 ((a:Int)*2 ^ min b 64)=((a*2 ^ b:Nat):Int):=by
   rw[Nat.min_eq_left hb2,show((a:Int)*2 ^ b)=((a*2 ^ b:Nat):Int)from an]
   exact iq (aa)
  have hb0:¬((b:Int)<0):=aa
  simp only[execOp,hρ _ _ hx,hρ _ _ hy,eqGuard,binOp,Op.shift,ha,hb]
  have e3:IntKind.bits .i64=64:=rfl
  simp[e,hb0,e3]
end
def dJ (ns:List Nat):List Nat:=uv ns.length++(if ns= []then []else dX (orL ns)::BS (dX (orL ns)) ns)
theorem Be (ns:List Nat):∀x∈cV ns,0≤x:=by
 intro x hx
 obtain⟨n,_,rfl⟩:=List.mem_map.1 hx
 omega
theorem FM {ns:List Nat}{x:Nat}(h:x∈ns):x<2 ^ dX (orL ns):=by
 obtain⟨i,hi⟩:=List.mem_iff_getElem?.1 h
 have key:∀(l:List Nat) (a x:Nat),(x=a∨x∈l)→dX x≤dX (l.foldl (fun a b=> a |||b) a):=by
  intro l
  induction l with
  |nil=> intro a x hx;rcases hx with rfl|hx
         ·exact Nat.le_refl _
         ·cases hx
  |cons y l ih=>
   intro a x hx
   rw[List.foldl_cons]
   rcases hx with rfl|hx
   ·exact Xi (by rw[w3];exact Nat.le_max_left _ _) (ih (x |||y) (x |||y) (.inl rfl))
   ·rcases List.mem_cons.1 hx with rfl|hx
    ·exact Xi (by rw[w3];exact Nat.le_max_right _ _) (ih (a |||x) (a |||x) (.inl rfl))
    ·exact ih _ _ (.inr hx)
 exact(fZ _ _).1 (key ns 0 x (.inr h))
end Go.Sx
