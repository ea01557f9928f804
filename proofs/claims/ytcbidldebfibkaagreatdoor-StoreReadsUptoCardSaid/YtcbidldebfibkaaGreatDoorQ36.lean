import Derived.Test.YtcbidldebfibkaaGreatDoorQ35
set_option linter.unusedVariables false
set_option linter.unusedSimpArgs false
set_option linter.unusedSectionVars false
set_option linter.unnecessarySimpa false
set_option maxHeartbeats 0
namespace Go.Sx
open Go Go.Proofs
set_option maxRecDepth 100000
def inR (n:Nat) (l:List Int):Prop:=∀x∈l,0≤x∧x<((n:Nat):Int)
instance (n:Nat) (l:List Int):Decidable (inR n l):=by unfold inR;infer_instance
theorem JI {G:cM}{H:cG}{n:Nat}{s:SV}{l:List Int} [hg:Glb G H] [hs:Sl H s eI l] (hn:n≤1048576) (hm:l.length≤100000000):SC G Tryz.prog 125 [.int .i64 ((n:Nat):Int),s.val] H (fun v H'=> (¬inR n l∧v= .tuple #[.pointer none,G.err 1]∧H'=H)∨(inR n l∧∃(b c:Nat) (ws:List Nat),v= .tuple #[.pointer (some ⟨b,0,none⟩), .nilIface]∧H'=Ds b ⟨n,c,ws⟩::H∧c≤l.length∧ws.length=(n+63) / 64∧okW ws∧∀k:Nat,jJ ws k=decide (((k:Nat):Int)∈l))):=by
 refine sWk Tryz.func125 Tryz.ntmps125 ?_
 refine go ?_
 refine c1_ rfl (H6 hn) (k:=?_)
 rintro _ _ ⟨b,rfl,rfl⟩
 refine e_ mv (k:=e_ exr (k:=e_ exr (k:=e_ asn (k:=e_ asn (k:=on_ (qn_ (ws_ (ws_ (wr_ (e_ mv (k:=?_)))))))))))
 refine e_ (cN rfl) (k:=?_)
 refine gk (k:=dw (k:=go ?_))
 refine dn (Nat×Nat×(List Nat)) (fun y=> y.1≤l.length∧y.2.1≤y.1∧y.2.2.length=(n+63) / 64∧okW y.2.2∧inR n (l.take y.1)∧∀k:Nat,jJ y.2.2 k=decide (((k:Nat):Int)∈l.take y.1)) (fun y=> [(22, .int .i64 ((y.1:Nat):Int))]) [(6,_),(20,_),(21,_)] (fun y=> [Ds b ⟨n,y.2.1,y.2.2⟩]) _ (fun y=> l.length - y.1) ((0,0,List.replicate ((n+63) / 64) 0)) (h0:=?_) (k:=?_)
 ·try dsimp only
  exact⟨Yl _,Nat.le_refl _,aj,fun x hx=> by rw[List.eq_of_mem_replicate hx];decide,fun x hx=> by simp at hx,fun k=> by rw[D4];simp⟩
 rintro⟨j,c,ws⟩ ⟨hj,hc,hwl,hw,hin,hbt⟩
 try dsimp only[Yd,Ye]at*
 refine gk (k:=wi_ (k:=fun h1=>?_) (m:=fun h1=>?_))
 ·obtain⟨x,hx⟩:∃x,l[j]? =some x:=⟨_,Yi (a8)⟩
  have htk:=cP hx
  refine go ?_
  refine go ?_
  refine c2_ rfl (MP hn (a8) hwl hw) (k:=?_)
  rintro _ _ (⟨hbad,rfl,rfl⟩|⟨hx0,hxn,xb,c',ws',rfl,rfl,hc',hwl',hw',hbt'⟩)
  ·have hno:¬inR n l:=fun h=> by have:=h x (Yj hx);omega
   refine e_ mv (k:=e_ exr (k:=e_ exr (k:=e_ asn (k:=e_ asn (k:=on_ (qn_ (ws_ (wr_ (e_ mv (k:=?_))))))))))
   refine e_ (cR rfl) (k:=?_)
   refine gk (k:=ift (k:=go ?_))
   refine gk (k:=rt_ Tryz.results125 (k:=?_))
   exact⟨_,hsb, .inl ⟨hno,rfl,rfl⟩⟩
  refine e_ mv (k:=e_ exr (k:=e_ exr (k:=e_ asn (k:=e_ asn (k:=on_ (qn_ (ws_ (wr_ (e_ mv (k:=?_))))))))))
  refine e_ (cN rfl) (k:=?_)
  refine gk (k:=dw (k:=go ?_))
  refine ln_ ((j+1,c',ws')) (k:=?_)
  try dsimp only
  exact⟨a8,a8,a8,hw',fun y hy=> by
   rw[htk]at hy
   rcases List.mem_append.1 hy with hy|hy
   ·exact hin y hy
   ·simp at hy;subst hy;exact⟨hx0,hxn⟩,fun k=> by
   rw[hbt' k,hbt k,htk,←Bool.decide_or]
   exact decide_eq_decide.2 (by rw[List.mem_append,List.mem_singleton];exact Or.comm)⟩
 have hjj:j=l.length:=a8
 rw[hjj,List.take_length]at hin
 simp only[hjj,List.take_length]at hbt
 refine gk (k:=rt_ Tryz.results125 (k:=?_))
 exact⟨_,hsb, .inr ⟨hin,b,c,ws,rfl,rfl,a8,hwl,hw,hbt⟩⟩
theorem tt {G:cM}{H:cG}{b:Nat}{v0 v2 v3 v4 v5:Value}{sd:SV}{l:List (Int×SV)} [dh H b [v0,sd.val,v2,v3,v4,v5]] [Sl H sd eD l]:SC G Tryz.prog 94 [.pointer (some ⟨b,0,none⟩)] H (fun v H'=> v= .int .i64 ((l.length:Nat):Int)∧H'=H):=by
 refine sWk Tryz.func94 Tryz.ntmps94 ?_
 refine go ?_
 refine gk (k:=rt_ Tryz.results94 (k:=?_))
 exact⟨_,hsb,rfl,rfl⟩
theorem GY {G:cM}{H:cG}{b:Nat}{i:Int}{v0 v2 v3 v4 v5:Value}{sd:SV}{l:List (Int×SV)} [dh H b [v0,sd.val,v2,v3,v4,v5]] [Sl H sd eD l]:SC G Tryz.prog 126 [.pointer (some ⟨b,0,none⟩), .int .i64 i] H (fun v H'=> v= .bool (decide (0≤i) && decide (i<((l.length:Nat):Int)))∧H'=H):=by
 refine sWk Tryz.func126 Tryz.ntmps126 ?_
 refine gk (k:=cY 8 15 (k:=fun h1=>gk (k:=edq)) (q:=go ?_))
 refine gk (k:=rt_ Tryz.results126 (k:=?_))
 exact⟨_,hsb,rfl,rfl⟩
theorem zq {G:cM}{H:cG}{b i:Nat}{v0 v2 v3 v4 v5:Value}{sd:SV}{l:List (Int×SV)}{p:Int×SV} [dh H b [v0,sd.val,v2,v3,v4,v5]] [Sl H sd eD l] (hp:l[i]? =some p):SC G Tryz.prog 95 [.pointer (some ⟨b,0,none⟩), .int .i64 ((i:Nat):Int)] H (fun v H'=> v= .tuple #[.int .i64 p.1, .bool true]∧H'=H):=by
 have hil:=(Yk.1 hp).1
 refine sWk Tryz.func95 Tryz.ntmps95 ?_
 refine go ?_
 refine d2_ rfl (GY (l:=l)) (k:=gk (k:=wi_ (k:=fun h1=>?_) (m:=fun h1=>?_)))
 ·exact absurd h1 (a8)
 refine go ?_
 refine gk (k:=rt_ Tryz.results95 (k:=?_))
 exact⟨_,hsb,rfl,rfl⟩
class qO (H:cG) (b:Nat) (l:outParam (List Nat)):Prop where
 out:∀L,Sep H L→∃E fz,(b,Obj.cells (l.map fun n=> Value.int .u8 ((n:Nat):Int)).toArray E fz)∈L
instance qO.tail {A:Hp}{H:cG}{b:Nat}{l:List Nat} [h:qO H b l]:qO (A::H) b l:=
 ⟨fun L hL=> aQ⟩
instance {H:cG}{b:Nat}{l:List Nat} [h:qO H b l]:dh H b (l.map fun n=> Value.int .u8 ((n:Nat):Int)):=⟨h.out⟩
theorem IE {G:cM}{P:Program}{t:Tm}{H:cG}{dst:Option Tmp}{ty:TypeId}{pos:String}{after:Array Edge}{g:Option (Nat×Bool)}{T:TypeId}{x:Operand}{i:Int}(hx:evo t x=some (.int .u64 i)) (a:Nat) (ha:i=a) (h0:0<a) (hl:a<18446744073709551616):
 Ev G P ⟨dst, .unOp .neg T x,ty,pos,after,g⟩ t H (.int .u64 ((18446744073709551616 - a:Nat):Int)):=
 fun ρ hρ w _=> by
  have e:IntKind.wrap .u64 (-(a:Int))=((18446744073709551616 - a:Nat):Int):=by
   simp only[IntKind.wrap,IntKind.signed,IntKind.bits]
   have:(-(a:Int)) % (2 ^ 64:Int)=18446744073709551616 - (a:Int):=by
    have e2:(2 ^ 64:Int)=18446744073709551616:=ag
    rw[e2];omega
   simp[this];omega
  simp[execOp,hρ _ _ hx,Op.unary,Op.intArith,ha,e]
theorem tTz {G:cM}{H:cG}{w b:Nat} [qO H 25 tzT] (hw:w<18446744073709551616) (hb:b<64) (h1:w.testBit b=true) (h2:∀j,j<b→w.testBit j=false):SC G Tryz.prog 131 [.int .u64 ((w:Nat):Int)] H (fun v H'=> v= .int .i64 ((b:Nat):Int)∧H'=H):=by
 have h0:w≠0:=by rintro rfl;simp at h1
 have hna:=I7 hw hb h1 h2
 obtain⟨t1,t2⟩:=JC ⟨b,hb⟩
 simp only at t1 t2
 have t3:(tzT.map fun n=> Value.int .u8 ((n:Nat):Int))[0+2 ^ b*285870213051353865 % 18446744073709551616 / 2 ^ 58*1]? =some (.int .u8 ((b:Nat):Int)):=by
  rw[Nat.zero_add,Nat.mul_one,Xd,t1];all_goals rfl
 have hp:=Ew hb
 refine sWk Tryz.func131 Tryz.ntmps131 ?_
 refine gk (k:=wi_ (k:=fun h1=>?_) (m:=fun h1=>?_))
 ·exact absurd h1 (a8)
 refine wk_ (qn_ (ws_ (wr_ (e_ mv (k:=e_ mv (k:=?_))))))
 refine e_ (IE rfl w rfl (a8) hw) (k:=?_)
 refine e_ (fV 18446744073709551616 rfl rfl rfl rfl w (18446744073709551616 - w) rfl rfl hw (a8)) (k:=?_)
 rw[hna]
 refine e_ (wU 18446744073709551616 rfl rfl rfl rfl (2 ^ b) 285870213051353865 rfl rfl) (k:=?_)
 refine e_ (ei rfl rfl (2 ^ b*285870213051353865 % 18446744073709551616) 58 rfl rfl (ag)) (k:=?_)
 refine e_ (fO rfl rfl (2 ^ b*285870213051353865 % 18446744073709551616 / 2 ^ 58) rfl (a8)) (k:=?_)
 refine e_ (lB rfl t3) (k:=?_)
 refine e_ (dS rfl (a8)) (k:=?_)
 refine gk (k:=rt_ Tryz.results131 (k:=?_))
 exact⟨_,hsb,rfl,rfl⟩
theorem Hk (x k b:Nat):(x / 2 ^ k*2 ^ k).testBit b=(decide (k≤b) && x.testBit b):=by
 rw[←Nat.shiftRight_eq_div_pow,←Nat.shiftLeft_eq,Nat.testBit_shiftLeft,Nat.testBit_shiftRight]
 by_cases h:k≤b
 ·rw[Ys h,Bool.true_and,Bool.true_and];congr 1;omega
 ·rw[Yr h,Bool.false_and,Bool.false_and]
theorem JK {G:cM}{H:cG}{b n c i:Nat}{s:SV}{ws:List Nat} [qO H 25 tzT] [dh H b [.int .i64 ((n:Nat):Int), .int .i64 ((c:Nat):Int),s.val]] [hs:Sl H s eW ws] (hn:n≤1048576) (hl:ws.length=(n+63) / 64) (hw:okW ws) (hi:i≤n):SC G Tryz.prog 100 [.pointer (some ⟨b,0,none⟩), .int .i64 ((i:Nat):Int)] H (fun v H'=> ((∃k:Nat,i≤k∧jJ ws k=true∧(∀j,i≤j→j<k→jJ ws j=false)∧v= .tuple #[.int .i64 ((k:Nat):Int), .bool true])∨((∀j,i≤j→j<n→jJ ws j=false)∧v= .tuple #[.int .i64 0, .bool false]))∧H'=H):=by
 refine sWk Tryz.func100 Tryz.ntmps100 ?_
 refine ws_ (wr_ (e_ asn (k:=e_ asn (k:=on_ (qn_ (ws_ (wr_ (e_ mv (k:=?_)))))))))
 refine e_ (Ld rfl rfl) (k:=?_)
 refine e_ asn (k:=on_ (qn_ (ws_ (ws_ (wr_ (?_))))))
 rw[show max ((i:Nat):Int) 0=((i:Nat):Int)from a8]
 refine gk (k:=wi_ (k:=fun h1=>?_) (m:=fun h1=>?_))
 ·have hnone:∀j,i≤j→j<n→jJ ws j=false:=fun j h1 h2=> by omega
  refine gk (k:=rt_ Tryz.results100 (k:=?_))
  exact⟨_,hsb, .inr ⟨hnone,rfl⟩,rfl⟩
 have hi64:i / 64<ws.length:=a8
 have hwi:ws[i / 64]? =some (ws.getD (i / 64) 0):=by rw[List.getD_eq_getElem?_getD,Yi hi64];all_goals rfl
 have hx:=nR hw (i / 64)
 have hdm:ws.getD (i / 64) 0 / 2 ^ (i % 64)*2 ^ (i % 64)≤ws.getD (i / 64) 0:=Nat.div_mul_le_self ..
 refine wk_ (qn_ (ws_ (wr_ (e_ mv (k:=e_ nck (k:=e_ fla (k:=e_ ldv (k:=e_ mv (k:=?_)))))))))
 refine e_ (iF rfl rfl i 64 rfl rfl (ag) (aw)) (k:=?_)
 refine e_ ixa (k:=e_ lel (k:=e_ mv (k:=?_)))
 refine e_ (gQ rfl rfl i 64 rfl rfl (ag)) (k:=?_)
 refine e_ (ei rfl rfl (ws.getD (i / 64) 0) (i % 64) rfl rfl (bS)) (k:=?_)
 refine e_ mv (k:=?_)
 refine e_ (gQ rfl rfl i 64 rfl rfl (ag)) (k:=?_)
 refine e_ (sZ 18446744073709551616 rfl rfl rfl rfl (ws.getD (i / 64) 0 / 2 ^ (i % 64)) (i % 64) rfl rfl (a8)) (k:=?_)
 refine e_ asn (k:=on_ (qn_ (ws_ (wr_ (e_ mv (k:=?_))))))
 refine e_ (iF rfl rfl i 64 rfl rfl (ag) (aw)) (k:=?_)
 refine gk (k:=dn (Nat×Nat) (fun y=> i<64*y.2+64∧y.2<ws.length∧y.1<18446744073709551616∧(∀j,i≤j→j<64*y.2→jJ ws j=false)∧(∀b,b<64→y.1.testBit b=(decide (i≤64*y.2+b) && jJ ws (64*y.2+b)))) (fun y=> [(6, .int .u64 ((y.1:Nat):Int)),(7, .int .i64 ((y.2:Nat):Int))]) [(0,_)] (fun y=> []) _ (fun y=> ws.length - y.2) ((ws.getD (i / 64) 0 / 2 ^ (i % 64)*2 ^ (i % 64),i / 64)) (h0:=?_) (k:=?_))
 ·try dsimp only
  refine⟨a8,hi64,a8,fun j h1 h2=> a8,fun b hb=> ?_⟩
  rw[Hk,jJ,show(64*(i / 64)+b) / 64=i / 64 from a8,show(64*(i / 64)+b) % 64=b from a8]
  congr 1
  exact decide_eq_decide.2 (a8)
 rintro⟨w,a⟩ ⟨hia,ha,hwl,hlo,hbt⟩
 try dsimp only[Yd,Ye]at*
 refine gk (k:=wi_ (k:=fun h2=>?_) (m:=fun h2=>?_))
 ·obtain⟨bb,hb1,hb2,hb3⟩:=Ic (w:=w) (a8) hwl
  have hk:=hbt bb hb1
  rw[hb2]at hk
  have hk2:decide (i≤64*a+bb)=true∧jJ ws (64*a+bb)=true:=by rw[←Bool.and_eq_true];exact hk.symm
  have hk3:i≤64*a+bb:=Yt hk2.1
  have hmin:∀j,i≤j→j<64*a+bb→jJ ws j=false:=fun j h1 h2=> by
   by_cases hj:j<64*a
   ·exact hlo j h1 hj
   ·have h9:=hbt (j - 64*a) (a8)
    rw[hb3 (j - 64*a) (a8),show 64*a+(j - 64*a)=j from a8,Ys h1,Bool.true_and]at h9
    exact h9.symm
  refine go ?_
  refine d1_ rfl (tTz hwl hb1 hb2 hb3) (k:=gk (k:=rt_ Tryz.results100 (k:=?_)))
  exact⟨_,hsb, .inl ⟨64*a+bb,hk3,hk2.2,hmin,rfl⟩,rfl⟩
 have hw0:w=0:=a8
 have hz:∀j,i≤j→j<64*(a+1)→jJ ws j=false:=fun j h1 h2=> by
  by_cases hj:j<64*a
  ·exact hlo j h1 hj
  ·have h9:=hbt (j - 64*a) (a8)
   rw[hw0,Nat.zero_testBit,show 64*a+(j - 64*a)=j from a8,Ys h1,Bool.true_and]at h9
   exact h9.symm
 refine go ?_
 refine gk (k:=wi_ (k:=fun h3=>?_) (m:=fun h3=>?_))
 ·have hnone:∀j,i≤j→j<n→jJ ws j=false:=fun j h1 h2=> hz j h1 (a8)
  refine gk (k:=rt_ Tryz.results100 (k:=?_))
  exact⟨_,hsb, .inr ⟨hnone,rfl⟩,rfl⟩
 have hwa:ws[a+1]? =some (ws.getD (a+1) 0):=by rw[List.getD_eq_getElem?_getD,Yi (a8)];all_goals rfl
 have hxa:=nR hw (a+1)
 refine wk_ (qn_ (wr_ (e_ mv (k:=e_ nck (k:=e_ fla (k:=e_ ldv (k:=e_ mv (k:=e_ (ixa (i:=a+1)) (k:=go ?_)))))))))
 refine ln_ ((ws.getD (a+1) 0,a+1)) (k:=?_)
 try dsimp only
 exact⟨a8,a8,hxa,hz,fun b hb=> by
  rw[jJ,show(64*(a+1)+b) / 64=a+1 from a8,show(64*(a+1)+b) % 64=b from a8]
  by_cases h9:i≤64*(a+1)+b
  ·rw[Ys h9,Bool.true_and]
  ·exfalso;omega⟩
def lx (ds:List Doc) (la:Int):Bool:=match ds.head? with
 |some d=> decide (d.1≤la)
 |none=> false
def lr (ds:List Doc) (n:Int):Bool:=match ds.getLast? with
 |some d=> decide (n≤d.1)
 |none=> false
def jV (la:Int) (ds:List Doc):Int:=match ds.getLast? with
 |some d=> d.1
 |none=> la
def fh (fs:List FV) (la n:Int) (q:List Nat×List Int):Except Nat (List Doc):=match fM fs q.1 with
 |none=> .error 10
 |some ds=> if lx ds la=true then .error 5 else if lr ds n=true then .error 1 else if ¬inR ds.length q.2 then .error 1 else if rise q.2=false then .error 5 else .ok ds
structure HG where
 g:SG
 b:Nat
 c:Nat
 ws:List Nat
 dead:List Int
def hgH (h:HG):cG:= [Vr h.g.b (sgV h.g),Row h.g.sd eD (h.g.zs.map dgV),Cl dgH h.g.zs,Row h.g.sa eB h.g.xs,Ds h.b ⟨h.g.zs.length,h.c,h.ws⟩]
structure Da (h:HG):Prop where
 len:h.ws.length=(h.g.zs.length+63) / 64
 okw:okW h.ws
 bits:∀k:Nat,jJ h.ws k=decide (((k:Nat):Int)∈h.dead)
 inr:inR h.g.zs.length h.dead
 rise:rise h.dead=true
 cnt:h.c≤h.dead.length
 few:h.g.zs.length≤4096
 ne:h.g.xs≠ []
theorem zE {fs:List FV}{xs:List Nat}{ds:List Doc}(h:fM fs xs=some ds):k8 fs ds=0∧rb fs ds=xs:=by
 rw[fM]at h
 split at h
 ·cases h
 ·split at h
  ·split at h
   ·cases h
   ·split at h
    ·rename_i h9
     obtain rfl:=Option.some.inj h
     exact h9
    ·cases h
  ·cases h
theorem JY {fs:List FV}{xs:List Nat}{ds:List Doc}(h:fM fs xs=some ds):xs≠ []:=by
 have h1:=congrArg List.length (zE h).2
 rw[rb,kA]at h1
 rintro rfl
 simp at h1
theorem sP {fs:List FV}{xs:List Nat}{ds:List Doc}(h:fM fs xs=some ds):ds.length≤4096:=by
 rw[fM]at h
 split at h
 ·cases h
 ·split at h
  ·split at h
   ·cases h
   ·split at h
    ·rename_i h9
     obtain rfl:=Option.some.inj h
     have h1:=h9.1
     rw[k8]at h1
     split at h1
     ·cases h1
     ·split at h1
      ·cases h1
      ·omega
    ·cases h
  ·cases h
theorem IP {G:cM}{H:cG}{be:Nat}{sf s1 s2 sh sw:SV}{on:Bool}{nx la:Int}{fs:List FV}{xs:List Nat}{dl:List Int} [hg:Glb G H] [Tab H 26 ig] [Tab H 24 fF] [he:dh H be [sf.val, .int .i64 nx,sh.val,sw.val, .bool on]] [hf:Sl H sf eF fs] [hs:Sl H s1 eB xs] [hs2:Sl H s2 eI dl] [Spc H] (hT:gE G) (hS:kh) (hc:e7 fs=true) (hn:xs.length≤2000000) (hb:∀x∈xs,x<256) (hdl:dl.length≤100000000):
 SC G Tryz.prog 93 [.pointer (some ⟨be,0,none⟩), .agg [s1.val,s2.val].toArray, .int .i64 la] H (fun v H'=> (∃e,e<24∧fh fs la nx (xs,dl)= .error e∧v= .tuple #[.agg [.pointer none, .pointer none].toArray,G.err e]∧H'=H)∨(∃h:HG,fh fs la nx (xs,dl)= .ok (h.g.zs.map dgD)∧h.g.xs=xs∧h.dead=dl∧Da h∧v= .tuple #[.agg [.pointer (some ⟨h.g.b,0,none⟩), .pointer (some ⟨h.b,0,none⟩)].toArray, .nilIface]∧H'=hgH h++H)):=by
 refine sWk Tryz.func93 Tryz.ntmps93 ?_
 refine gk (k:=bxx (k:=fun b4=>?_))
 refine alc (k:=fun b6=>?_)
 refine go ?_
 refine di cL (fun i=> [6].contains i) (fun k H=> (k=3→dh H be [sf.val, .int .i64 nx,sh.val,sw.val, .bool on])∧(k=5→dh H b4 [s1.val,s2.val])) (af_ 0 (q:=cE fun H hH=>mv) (k:=af_ 1 (q:=cE fun H hH=>nck) (k:=af_ 2 (q:=cE fun H hH=>fla) (k:=?_))))
 refine cH 3 rfl rfl (aa) rfl (cE fun H hH=>aF) (?_)
 refine af_ 4 (q:=cE fun H hH=>fla) (k:=?_)
 refine cH 5 rfl rfl (aa) rfl (cE fun H hH=>aK) (?_)
 refine cQ 6 rfl (aa) rfl (fun k hk=> ⟨fun hi=> ab,fun hi=> ab⟩) (dm (vs:= [_,_]) rfl (Hm (xs:=xs) hT hS hc hn hb)) ?_
 rintro _ _ (⟨hD,rfl,rfl⟩|⟨g,hD,hgx,rfl,rfl⟩)
 ·have hP:fh fs la nx (xs,dl)= .error 10:=by rw[fh,hD]
  refine af_ 7 (q:=cE fun H hH=>mv) (k:=af_ 8 (q:=cE fun H hH=>exr) (k:=af_ 9 (q:=cE fun H hH=>exr) (k:=af_ 10 (q:=cE fun H hH=>asn) (k:=af_ 11 (q:=cE fun H hH=>asn) (k:=db (aa) (fun k hk=> ⟨fun hi=> absurd hk (ad),fun hi=> absurd hk (ad)⟩) (qn_ (ws_ (ws_ (wr_ (e_ mv (k:=?_)))))))))))
  refine e_ (cR rfl) (k:=?_)
  refine gk (k:=ift (k:=go ?_))
  refine di cL (fun i=> [2].contains i) (fun k H=> (k=1→dh H 10 [G.err 10])) (af_ 0 (q:=cE fun H hH=>bld []) (k:=?_))
  refine cH 1 rfl rfl (aa) rfl (cE fun H hH=>aq) (?_)
  refine cQ 2 rfl (aa) rfl (fun k hk=> fun hi=> ab) (dk rfl rfl rfl) ?_
  rintro _ _ ⟨rfl,rfl⟩
  refine af_ 3 (q:=cE fun H hH=>asn) (k:=db (aa) (fun k hk=> fun hi=> ab) (gk (k:=rt_ Tryz.results93 (k:=?_))))
  exact⟨_,hsb, .inl ⟨10,ag,hP,rfl,rfl⟩⟩
 simp only[sgH,sgV,Yd,Ye]
 have hfew:=sP hD
 have hP:fh fs la nx (xs,dl)=if lx (g.zs.map dgD) la=true then .error 5 else if lr (g.zs.map dgD) nx=true then .error 1 else if ¬inR (g.zs.map dgD).length dl then .error 1 else if rise dl=false then .error 5 else .ok (g.zs.map dgD):=by rw[fh,hD]
 have hzm:(g.zs.map dgV).length=g.zs.length:=Yh ..
 have hzd:(g.zs.map dgD).length=g.zs.length:=Yh ..
 rw[hzd]at hP
 rw[hzd]at hfew
 refine af_ 7 (q:=cE fun H hH=>mv) (k:=af_ 8 (q:=cE fun H hH=>exr) (k:=af_ 9 (q:=cE fun H hH=>exr) (k:=af_ 10 (q:=cE fun H hH=>asn) (k:=af_ 11 (q:=cE fun H hH=>asn) (k:=db (aa) (fun k hk=> ⟨fun hi=> absurd hk (ad),fun hi=> absurd hk (ad)⟩) (qn_ (ws_ (ws_ (wr_ (e_ mv (k:=?_)))))))))))
 refine e_ (cN rfl) (k:=?_)
 refine gk (k:=dw (k:=wk_ (qn_ (od (Nat) (fun y=> lx (g.zs.map dgD) la=false∧lr (g.zs.map dgD) nx=false) (fun y=> []) [7,10,11,12,13,14,31,32,33,34,35,36,37,38,39,40,41,42,43,44,45,46,47,48,49,50,51,52,53,54,55,56,57,58,59] (fun y=> [Vr b6 [.pointer none, .pointer none],Vr g.b [g.v0,g.sd.val,g.v2,g.v3,g.v4,g.sa.val],Row g.sd eD (g.zs.map dgV),Cl dgH g.zs,Row g.sa eB g.xs,Vr b4 [s1.val,s2.val]]) (H) ?_ ?_))))
 ·refine go ?_
  refine d1_ rfl (tt (l:=g.zs.map dgV)) (k:=gk (k:=wi_ (k:=fun h1=>?_) (m:=fun h1=>?_)))
  ·obtain⟨z0,hz0⟩:∃z,g.zs[0]? =some z:=⟨_,Yi (a8)⟩
   obtain⟨z1,hz1⟩:∃z,g.zs[g.zs.length - 1]? =some z:=⟨_,Yi (a8)⟩
   have hv0:(g.zs.map dgV)[0]? =some (z0.d,z0.s):=by rw[Xd,hz0];all_goals rfl
   have hv1:(g.zs.map dgV)[g.zs.length - 1]? =some (z1.d,z1.s):=by rw[Xd,hz1];all_goals rfl
   have hH1:lx (g.zs.map dgD) la=decide (z0.d≤la):=by rw[lx,List.head?_map,List.head?_eq_getElem?,hz0];all_goals rfl
   have hH2:lr (g.zs.map dgD) nx=decide (nx≤z1.d):=by rw[lr,List.getLast?_map,List.getLast?_eq_getElem?,hz1];all_goals rfl
   refine go ?_
   refine d2_ rfl (zq (i:=0) hv0) (k:=e_ mv (k:=e_ exr (k:=e_ exr (k:=e_ asn (k:=e_ asn (k:=on_ (qn_ (ws_ (wr_ (e_ mv (k:=e_ mv (k:=?_))))))))))))
   refine e_ (evq isb (congrArg (Value.int .i64) (by omega:(((g.zs.map dgV).length:Nat):Int) - 1=((g.zs.length - 1:Nat):Int)))) (k:=?_)
   refine d2_ rfl (zq hv1) (k:=go ?_)
   refine gk (k:=wi_ (k:=fun h2=>?_) (m:=fun h2=>?_))
   ·have hP2:fh fs la nx (xs,dl)= .error 5:=by rw[hP,if_pos (by rw[hH1];exact Ys (a8))]
    refine go ?_
    refine di cL (fun i=> [2].contains i) (fun k H=> (k=1→dh H 5 [G.err 5])) (af_ 0 (q:=cE fun H hH=>bld []) (k:=?_))
    refine cH 1 rfl rfl (aa) rfl (cE fun H hH=>aq) (?_)
    refine cQ 2 rfl (aa) rfl (fun k hk=> fun hi=> ab) (dk rfl rfl rfl) ?_
    rintro _ _ ⟨rfl,rfl⟩
    refine af_ 3 (q:=cE fun H hH=>asn) (k:=db (aa) (fun k hk=> fun hi=> ab) (gk (k:=jrE (rt_ Tryz.results93 (k:=?_)))))
    exact⟨_,hsb, .inl ⟨5,ag,hP2,rfl,rfl⟩⟩
   have hh1:lx (g.zs.map dgD) la=false:=by rw[hH1];exact Yr (a8)
   refine gk (k:=wi_ (k:=fun h3=>?_) (m:=fun h3=>?_))
   ·have hP2:fh fs la nx (xs,dl)= .error 1:=by rw[hP,if_neg (by rw[hh1];decide),if_pos (by rw[hH2];exact Ys (a8))]
    refine go ?_
    refine di cL (fun i=> [2].contains i) (fun k H=> (k=1→dh H 1 [G.err 1])) (af_ 0 (q:=cE fun H hH=>bld []) (k:=?_))
    refine cH 1 rfl rfl (aa) rfl (cE fun H hH=>aq) (?_)
    refine cQ 2 rfl (aa) rfl (fun k hk=> fun hi=> ab) (dk rfl rfl rfl) ?_
    rintro _ _ ⟨rfl,rfl⟩
    refine af_ 3 (q:=cE fun H hH=>asn) (k:=db (aa) (fun k hk=> fun hi=> ab) (gk (k:=jrE (rt_ Tryz.results93 (k:=?_)))))
    exact⟨_,hsb, .inl ⟨1,ag,hP2,rfl,rfl⟩⟩
   have hh2:lr (g.zs.map dgD) nx=false:=by rw[hH2];exact Yr (a8)
   refine gk (k:=jnE (0) (q:=?_))
   exact⟨hh1,hh2⟩
  have hz0:g.zs= []:=List.eq_nil_of_length_eq_zero (a8)
  refine gk (k:=jnE (0) (q:=?_))
  exact⟨by rw[hz0];all_goals rfl,by rw[hz0];all_goals rfl⟩
 rintro u0 ⟨hh1,hh2⟩
 try dsimp only[Yd,Ye]at*
 rw[if_neg (by rw[hh1];decide),if_neg (by rw[hh2];decide)]at hP
 refine go ?_
 refine di cL (fun i=> [1,4].contains i) (fun k H=> (k=3→dh H b4 [s1.val,s2.val])) (af_ 0 (q:=cE fun H hH=>mv) (k:=af_ 2 (q:=cE fun H hH=>fla) (k:=?_)))
 refine cH 3 rfl rfl (aa) rfl (cE fun H hH=>aq) (?_)
 refine cQ 1 rfl (aa) rfl (fun k hk=> fun hi=> ab) (dm (vs:= [_]) rfl (tt (l:=g.zs.map dgV))) ?_
 rintro _ _ ⟨rfl,rfl⟩
 rw[hzm]
 refine cQ 4 rfl (aa) rfl (fun k hk=> fun hi=> ab) (dm (vs:= [_,_]) rfl (JI (n:=g.zs.length) (l:=dl) (a8) hdl)) ?_
 rintro _ _ (⟨hno,rfl,rfl⟩|⟨hin,bs,cs,ws,rfl,rfl,hcl,hwl,hw,hbt⟩)
 ·have hP2:fh fs la nx (xs,dl)= .error 1:=by rw[hP,if_pos hno]
  refine af_ 5 (q:=cE fun H hH=>mv) (k:=af_ 6 (q:=cE fun H hH=>exr) (k:=af_ 7 (q:=cE fun H hH=>exr) (k:=af_ 8 (q:=cE fun H hH=>asn) (k:=af_ 9 (q:=cE fun H hH=>asn) (k:=db (aa) (fun k hk=> fun hi=> absurd hk (ad)) (qn_ (ws_ (ws_ (wr_ (e_ mv (k:=?_)))))))))))
  refine e_ (cR rfl) (k:=?_)
  refine gk (k:=ift (k:=go ?_))
  refine di cL (fun i=> [2].contains i) (fun k H=> (k=1→dh H 1 [G.err 1])) (af_ 0 (q:=cE fun H hH=>bld []) (k:=?_))
  refine cH 1 rfl rfl (aa) rfl (cE fun H hH=>aq) (?_)
  refine cQ 2 rfl (aa) rfl (fun k hk=> fun hi=> ab) (dk rfl rfl rfl) ?_
  rintro _ _ ⟨rfl,rfl⟩
  refine af_ 3 (q:=cE fun H hH=>asn) (k:=db (aa) (fun k hk=> fun hi=> ab) (gk (k:=rt_ Tryz.results93 (k:=?_))))
  exact⟨_,hsb, .inl ⟨1,ag,hP2,rfl,rfl⟩⟩
 rw[if_neg (fun h=> h hin)]at hP
 refine af_ 5 (q:=cE fun H hH=>mv) (k:=af_ 6 (q:=cE fun H hH=>exr) (k:=af_ 7 (q:=cE fun H hH=>exr) (k:=af_ 8 (q:=cE fun H hH=>asn) (k:=af_ 9 (q:=cE fun H hH=>asn) (k:=db (aa) (fun k hk=> fun hi=> absurd hk (ad)) (qn_ (ws_ (ws_ (wr_ (e_ mv (k:=?_)))))))))))
 refine e_ (cN rfl) (k:=?_)
 refine gk (k:=dw (k:=gk (k:=dn (Nat) (fun y=> 1≤y∧∀(j:Nat) (x z:Int),j+1<y→dl[j]? =some x→dl[j+1]? =some z→x<z) (fun y=> [(16, .int .i64 ((y:Nat):Int))]) [(4,_),(6,_),(8,_),(15,_)] (fun y=> []) _ (fun y=> dl.length - y) (1) (h0:=?_) (k:=?_))))
 ·try dsimp only
  exact⟨Nat.le_refl _,fun j x z h=> a8⟩
 rintro i ⟨hi,hri⟩
 try dsimp only[Yd,Ye]at*
 refine gk (k:=wi_ (k:=fun h4=>?_) (m:=fun h4=>?_))
 ·obtain⟨x1,hx1⟩:∃x,dl[i]? =some x:=⟨_,Yi (a8)⟩
  obtain⟨x2,hx2⟩:∃x,dl[i - 1]? =some x:=⟨_,Yi (a8)⟩
  refine go ?_
  refine di cL (fun i=> [].contains i) (fun k H=> (k=1→dh H b4 [s1.val,s2.val])∧(k=3→Sl H s2 eI dl)∧(k=4→Sl H s2 eI dl)∧(k=6→dh H b4 [s1.val,s2.val])∧(k=9→Sl H s2 eI dl)∧(k=10→Sl H s2 eI dl)) (af_ 0 (q:=cE fun H hH=>fla) (k:=?_))
  refine cH 1 rfl rfl (aa) rfl (cE fun H hH=>aD) (?_)
  refine af_ 2 (q:=cE fun H hH=>mv) (k:=?_)
  refine cH 3 rfl rfl (aa) rfl (cE fun H hH=>by have hN:=hH.2.1 rfl;exact ixa) (?_)
  refine cH 4 rfl rfl (aa) rfl (cE fun H hH=>by have hN:=hH.2.2.1 rfl;exact lel) (?_)
  refine af_ 5 (q:=cE fun H hH=>fla) (k:=?_)
  refine cH 6 rfl rfl (aa) rfl (cE fun H hH=>by have hN:=hH.2.2.2.1 rfl;exact ldv) (?_)
  refine af_ 7 (q:=cE fun H hH=>mv) (k:=af_ 8 (q:=cE fun H hH=>isb) (k:=?_))
  refine cH 9 rfl rfl (aa) rfl (cE fun H hH=>by have hN:=hH.2.2.2.2.1 rfl;exact ixa) (?_)
  refine cH 10 rfl rfl (aa) rfl (cE fun H hH=>by have hN:=hH.2.2.2.2.2 rfl;exact lel) (?_)
  refine af_ 11 (q:=cE fun H hH=>ile) (k:=db (aa) (fun k hk=> ⟨fun hi=> ab,fun hi=> ab,fun hi=> ab,fun hi=> ab,fun hi=> ab,fun hi=> ab⟩) (gk (k:=wi_ (k:=fun h5=>?_) (m:=fun h5=>?_))))
  ·have hrf:rise dl=false:=by
    cases hr9:rise dl with
    |false=> rfl
    |true=> exact absurd ((gJ dl).1 hr9 (i - 1) x2 x1 hx2 (by rw[Nat.sub_add_cancel hi];exact hx1)) (a8)
   have hP2:fh fs la nx (xs,dl)= .error 5:=by rw[hP,if_pos hrf]
   refine go ?_
   refine di cL (fun i=> [2].contains i) (fun k H=> (k=1→dh H 5 [G.err 5])) (af_ 0 (q:=cE fun H hH=>bld []) (k:=?_))
   refine cH 1 rfl rfl (aa) rfl (cE fun H hH=>aq) (?_)
   refine cQ 2 rfl (aa) rfl (fun k hk=> fun hi=> ab) (dk rfl rfl rfl) ?_
   rintro _ _ ⟨rfl,rfl⟩
   refine af_ 3 (q:=cE fun H hH=>asn) (k:=db (aa) (fun k hk=> fun hi=> ab) (gk (k:=rt_ Tryz.results93 (k:=?_))))
   exact⟨_,hsb, .inl ⟨5,ag,hP2,rfl,rfl⟩⟩
  refine go ?_
  refine ln_ (i+1) (k:=?_)
  try dsimp only
  exact⟨a8,fun j x z hj hx hz=> by
   by_cases hji:j+1<i
   ·exact hri j x z hji hx hz
   ·obtain rfl:j=i - 1:=by omega
    rw[Nat.sub_add_cancel hi]at hz
    rw[hx2]at hx;rw[hx1]at hz
    cases hx;cases hz;omega⟩
 have hrt:rise dl=true:=(gJ dl).2 fun j x z hx hz=> hri j x z (by have:=(Yk.1 hz).1;omega) hx hz
 rw[hrt,if_neg (ag)]at hP
 refine we_ (qe_ (le_ (bh_ (qn_ (ws_ (wr_ (e_ mv (k:=e_ mv (k:=e_ (bld [(0,_),(1,_)]) (k:=go ?_))))))))))
 refine gk (k:=rt_ Tryz.results93 (k:=?_))
 exact⟨Vr g.b [g.v0,g.sd.val,g.v2,g.v3,g.v4,g.sa.val]::Row g.sd eD (g.zs.map dgV)::Cl dgH g.zs::Row g.sa eB g.xs::Ds bs ⟨g.zs.length,cs,ws⟩::H,cK.trans (hsb) (cK.keep (cK.keep (cK.keep (cK.keep cK.refl)))), .inr ⟨⟨g,bs,cs,ws,dl⟩,hP,hgx,rfl,⟨hwl,hw,hbt,hin,hrt,hcl,hfew,hgx ▸ JY hD⟩,rfl,rfl⟩⟩
def goE (fs:List FV) (n:Int):Nat→Int→Pcs→Option (Nat×Nat)
 |_,_, []=> none
 |i,la,q::r=> match fh fs la n q with
  | .error e=> some (i,e)
  | .ok ds=> goE fs n (i+1) (jV la ds) r
def eH:Enc (Nat×Nat):=⟨fun p=> [.pointer (some ⟨p.1,0,none⟩), .pointer (some ⟨p.2,0,none⟩)],2,true,fun _=> rfl,fun p v h=> by simp at h;rcases h with rfl|rfl <;> rfl,ag,fun h=> aR,ag⟩
instance {p:Nat×Nat}:kK eH p (.agg [.pointer (some ⟨p.1,0,none⟩), .pointer (some ⟨p.2,0,none⟩)].toArray):=⟨rfl⟩
instance {a b:Nat}:fH eH (.agg [.pointer (some ⟨a,0,none⟩), .pointer (some ⟨b,0,none⟩)].toArray) (a,b):=⟨rfl⟩
def hgV (h:HG):Nat×Nat:=(h.g.b,h.b)
def hgQ (h:HG):List Nat×List Int:=(h.g.xs,h.dead)
theorem Io {l:List HG}(h:HG) {H:cG}:cK (Vr h.g.b (sgV h.g)::Row h.g.sd eD (h.g.zs.map dgV)::Cl dgH h.g.zs::Row h.g.sa eB h.g.xs::Ds h.b ⟨h.g.zs.length,h.c,h.ws⟩::Cl hgH l::H) (Cl hgH (l++ [h])::H):=lW (f:=hgH) h
theorem iA.at_ {H:cG}{lp:List (SV×SV)}{ps:Pcs}(h:iA H lp ps) {i:Nat}(hi:i<lp.length):∃p q,lp[i]? =some p∧ps[i]? =some q∧Sl H p.1 eB q.1∧Sl H p.2 eI q.2:=by
 obtain⟨p,hp⟩:∃p,lp[i]? =some p:=⟨_,Yi hi⟩
 obtain⟨q,hq⟩:∃q,ps[i]? =some q:=⟨_,Yi (by rw[←h.1];exact hi)⟩
 exact⟨p,q,hp,hq,h.2 i p q hp hq⟩
theorem BA {G:cM}{H:cG}{sf sp:SV}{fs:List FV}{lp:List (SV×SV)}{ps:Pcs}{n:Int} [hg:Glb G H] [Tab H 26 ig] [Tab H 24 fF] [hf:Sl H sf eF fs] [hsp:Sl H sp eP lp] [Spc H] (hT:gE G) (hS:kh) (hP:iA H lp ps) (hc:e7 fs=true) (h0:0≤n) (h1:n≤1099511627776) (hpl:ps.length≤100000000) (hq:∀q∈ps,q.1.length≤2000000∧(∀x∈q.1,x<256)∧q.2.length≤100000000):
 SC G Tryz.prog 56 [.agg [sf.val, .int .i64 n,sp.val].toArray] H (fun v H'=> (∃i e bp,goE fs n 0 (-1) ps=some (i,e)∧e<24∧v= .tuple #[.pointer none, .iface 104 (.pointer (some ⟨bp,0,none⟩))]∧H'=Vr bp [.int .i64 ((i:Nat):Int),G.err e]::H)∨(goE fs n 0 (-1) ps=none∧∃(be:Nat) (s1 sh:SV) (hs:List HG),v= .tuple #[.pointer (some ⟨be,0,none⟩), .nilIface]∧hs.map hgQ=ps∧(∀h∈hs,Da h)∧H'=Vr be [s1.val, .int .i64 n,sh.val,SV.nil.val, .bool true]::Row s1 eF fs::Row sh eH (hs.map hgV)::Cl hgH hs::H)):=by
 have hll:=hP.1
 refine sWk Tryz.func56 Tryz.ntmps56 ?_
 refine gk (k:=bxx (k:=fun b1=>?_))
 refine go ?_
 refine c1_ rfl (EV hc) (k:=?_)
 rintro _ _ ⟨be,s1,rfl,rfl⟩
 refine e_ mv (k:=e_ exr (k:=e_ exr (k:=e_ asn (k:=e_ asn (k:=on_ (qn_ (ws_ (ws_ (wr_ (e_ mv (k:=?_)))))))))))
 refine e_ (cN rfl) (k:=?_)
 refine gk (k:=dw (k:=gk (k:=dQ 4 28 (k:=fun h1=>gk (k:=edq)) (q:=go ?_))))
 refine gk (k:=wi_ (k:=fun h2=>?_) (m:=fun h2=>?_))
 ·exfalso;omega
 refine wk_ (qn_ (ws_ (wr_ (e_ mv (k:=e_ fla (k:=e_ ldv (k:=e_ nck (k:=e_ fla (k:=sto (k:=on_ (qn_ (ws_ (wr_ (?_))))))))))))))
 refine e_ asn (k:=on_ (qn_ (ws_ (ws_ (wr_ (?_))))))
 refine dE (cK.nilRow (e:=eH) (eA (f:=hgH) cK.refl)) ?_
 rw[show Row SV.nil eH ([]:List (Nat×Nat))=Row SV.nil eH (([]:List HG).map hgV)from rfl]
 refine gk (k:=dn (Nat×Int×SV×(List HG)) (fun y=> y.1≤lp.length∧y.2.2.2.length=y.1∧y.2.2.2.map hgQ=ps.take y.1∧(∀h∈y.2.2.2,Da h)∧goE fs n 0 (-1) ps=goE fs n y.1 y.2.1 (ps.drop y.1)) (fun y=> [(6, .int .i64 y.2.1),(38, .int .i64 ((y.1:Nat):Int))]) [(4,_),(36,_),(37,_)] (fun y=> [Vr be [s1.val, .int .i64 n,y.2.2.1.val,SV.nil.val, .bool true],Row y.2.2.1 eH (y.2.2.2.map hgV),Cl hgH y.2.2.2]) (Row s1 eF fs::Vr b1 [sf.val, .int .i64 n,sp.val]::H) (fun y=> lp.length - y.1) ((0, -1,SV.nil, [])) (h0:=?_) (k:=?_))
 ·try dsimp only
  exact⟨Yl _,rfl,aj,fun h hh=> by simp at hh,by rw[List.drop_zero]⟩
 rintro⟨i,la,sh,hs⟩ ⟨hi,hhl,hhq,hho,hgo⟩
 try dsimp only[Yd,Ye]at*
 refine gk (k:=wi_ (k:=fun h3=>?_) (m:=fun h3=>?_))
 ·obtain⟨p,q,hpi,hqi,hs1,hs2⟩:=hP.at_ (i:=i) (a8)
  obtain⟨hq1,hq2,hq3⟩:=hq _ (Yj hqi)
  have hdr:=dV hqi
  have hhm:(hs.map hgV).length=hs.length:=Yh ..
  refine gk (k:=alc (k:=fun b8=>?_))
  refine go ?_
  refine c3_ rfl (IP (fs:=fs) (xs:=q.1) (dl:=q.2) (nx:=n) hT hS hc hq1 hq2 hq3) (k:=?_)
  rintro _ _ (⟨e,he,hE,rfl,rfl⟩|⟨h,hE,hx,hdd,hok,rfl,rfl⟩)
  ·have hgo2:goE fs n 0 (-1) ps=some (i,e):=by rw[hgo,hdr,goE,show fh fs la n q= .error e from hE]
   refine gk (k:=alc (k:=fun b9=>?_))
   refine sto (k:=e_ asn (k:=on_ (qn_ (ws_ (ws_ (wr_ (e_ mv (k:=?_))))))))
   refine e_ (cR rfl) (k:=?_)
   refine gk (k:=ift (k:=ws_ (wr_ (e_ mv (k:=e_ mv (k:=e_ (bld [(0,_),(1,_)]) (k:=bxx (k:=fun b55=>?_))))))))
   refine e_ (mG rfl) (k:=?_)
   refine gk (k:=rt_ Tryz.results56 (k:=?_))
   exact⟨_,hsb, .inl ⟨i,e,b55,hgo2,he,rfl,rfl⟩⟩
  simp only[hgH,sgV,Yd,Ye]
  have hgo2:goE fs n 0 (-1) ps=goE fs n (i+1) (jV la (h.g.zs.map dgD)) (ps.drop (i+1)):=by rw[hgo,hdr,goE,show fh fs la n q= .ok (h.g.zs.map dgD)from hE]
  have hzm:(h.g.zs.map dgV).length=h.g.zs.length:=Yh ..
  have hfew:=hok.few
  refine gk (k:=alc (k:=fun b9=>?_))
  refine sto (k:=e_ asn (k:=on_ (qn_ (ws_ (ws_ (wr_ (e_ mv (k:=?_))))))))
  refine e_ (cN rfl) (k:=?_)
  refine gk (k:=dw (k:=wk_ (qn_ (gG (Int) (fun y=> y=jV la (h.g.zs.map dgD)) (fun y=> [(6, .int .i64 y)]) [6,11,57,58,59,60,61,62,63,64,65,66,67,68,69] ?_ ?_))))
  ·refine go ?_
   refine d1_ rfl (tt (l:=h.g.zs.map dgV)) (k:=gk (k:=wi_ (k:=fun h4=>?_) (m:=fun h4=>?_)))
   ·obtain⟨z1,hz1⟩:∃z,h.g.zs[h.g.zs.length - 1]? =some z:=⟨_,Yi (a8)⟩
    have hv1:(h.g.zs.map dgV)[h.g.zs.length - 1]? =some (z1.d,z1.s):=by rw[Xd,hz1];all_goals rfl
    have hL:jV la (h.g.zs.map dgD)=z1.d:=by rw[jV,List.getLast?_map,List.getLast?_eq_getElem?,hz1];all_goals rfl
    refine wr_ (e_ fla (k:=e_ ldv (k:=e_ mv (k:=?_))))
    refine e_ (evq isb (congrArg (Value.int .i64) (by omega:(((h.g.zs.map dgV).length:Nat):Int) - 1=((h.g.zs.length - 1:Nat):Int)))) (k:=?_)
    refine d2_ rfl (zq hv1) (k:=gk (k:=jnE (z1.d) (q:=?_)))
    exact hL.symm
   have hz0:h.g.zs= []:=List.eq_nil_of_length_eq_zero (a8)
   refine gk (k:=jnE (la) (q:=?_))
   rw[hz0];all_goals rfl
  rintro la2 hla2
  try dsimp only[Yd,Ye]at*
  refine di cL (fun i=> [6,7,10].contains i) (fun k H=> (k=4→dh H be [s1.val, .int .i64 n,sh.val,SV.nil.val, .bool true])∧(k=5→dh H b9 [.pointer (some ⟨h.g.b,0,none⟩), .pointer (some ⟨h.b,0,none⟩)])) (af_ 0 (q:=cE fun H hH=>mv) (k:=af_ 1 (q:=cE fun H hH=>mv) (k:=af_ 2 (q:=cE fun H hH=>nck) (k:=af_ 3 (q:=cE fun H hH=>fla) (k:=?_)))))
  refine cH 4 rfl rfl (aa) rfl (cE fun H hH=>aD) (?_)
  refine cH 5 rfl rfl (aa) rfl (cE fun H hH=>cj) (?_)
  refine cQ 6 rfl (aa) rfl (fun k hk=> ⟨fun hi=> ab,fun hi=> ab⟩) (dW eH rfl rfl) ?_
  rintro _ _ ⟨s76,rfl,rfl⟩
  refine cQ 7 rfl (aa) rfl (fun k hk=> ⟨fun hi=> ab,fun hi=> absurd hk (ad)⟩) (ek rfl rfl rfl rfl (af) (af)) ?_
  rintro _ _ ⟨s77,rfl,rfl⟩
  refine af_ 8 (q:=cE fun H hH=>nck) (k:=af_ 9 (q:=cE fun H hH=>fla) (k:=?_))
  refine cQ 10 rfl (aa) rfl (fun k hk=> ⟨fun hi=> absurd hk (ad),fun hi=> absurd hk (ad)⟩) (dk rfl rfl rfl) ?_
  rintro _ _ ⟨rfl,rfl⟩
  rw[show hs.map hgV++ [(h.g.b,h.b)]=(hs++ [h]).map hgV from by simp[hgV]]
  refine db (aa) (fun k hk=> ⟨fun hi=> absurd hk (ad),fun hi=> absurd hk (ad)⟩) (bn_ (qn_ (wr_ (?_))))
  refine dE (cK.trans (H':=Vr h.g.b (sgV h.g)::Row h.g.sd eD (h.g.zs.map dgV)::Cl dgH h.g.zs::Row h.g.sa eB h.g.xs::Ds h.b ⟨h.g.zs.length,h.c,h.ws⟩::Cl hgH hs::Vr be [s1.val, .int .i64 n,s77.val,SV.nil.val, .bool true]::Row s77 eH ((hs++ [h]).map hgV)::Row s1 eF fs::Vr b1 [sf.val, .int .i64 n,sp.val]::H) (hsb) (Io h)) ?_
  refine go ?_
  refine ln_ ((i+1,la2,s77,hs++ [h])) (k:=?_)
  try dsimp only
  exact⟨a8,au,by rw[List.map_append,hhq,cP hqi];simp[hgQ,hx,hdd],fun x hx2=> by
   rcases List.mem_append.1 hx2 with hx2|hx2
   ·exact hho x hx2
   ·simp at hx2;subst hx2;exact hok,by rw[hgo2,hla2]⟩
 have hii:i=ps.length:=a8
 rw[hii,List.drop_length,goE]at hgo
 rw[hii,List.take_length]at hhq
 refine gk (k:=rt_ Tryz.results56 (k:=?_))
 exact⟨_,hsb, .inr ⟨hgo,be,s1,sh,hs,rfl,hhq,hho,rfl⟩⟩
end Go.Sx
