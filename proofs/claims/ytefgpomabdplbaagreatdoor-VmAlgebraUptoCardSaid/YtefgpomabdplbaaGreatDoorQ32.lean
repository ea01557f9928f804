import Derived.Test.YtefgpomabdplbaaGreatDoorQ30
set_option linter.unusedVariables false
set_option linter.unusedSimpArgs false
set_option linter.unusedSectionVars false
set_option linter.unnecessarySimpa false
set_option maxHeartbeats 0
namespace Go.Sx
open Go Go.Proofs
set_option maxRecDepth 100000
theorem Hg {G:cK}{P:Program}{t:Tm}{H:cG}{dst:Option Tmp}{ty:TypeId}{pos:String}{after:Array Edge}{g:Option (Nat×Bool)}{T U:TypeId}{x y:Operand}{i j:Int}(hx:evo t x=some (.int .i64 i)) (hy:evo t y=some (.int .i64 j)) (a b:Nat) (ha:i=a) (hb:j=b) (hla:a<9223372036854775808) (hlb:b<9223372036854775808):
 Ev G P ⟨dst, .binOp .and T x y U,ty,pos,after,g⟩ t H (.int .i64 ((a &&& b:Nat):Int)):=
 fun ρ hρ w _=> by
  have h2:a &&& b≤a:=Nat.and_le_left
  have e:(BitVec.ofInt 64 (a:Int) &&& BitVec.ofInt 64 (b:Int)).toNat=a &&& b:=by
   rw[fL,fL,BitVec.toNat_and,BitVec.toNat_ofNat,BitVec.toNat_ofNat,Nat.mod_eq_of_lt (aa),Nat.mod_eq_of_lt (aa)]
  have e2:IntKind.wrap .i64 ((a &&& b:Nat):Int)=((a &&& b:Nat):Int):=iq (aa)
  have e4:IntKind.wrap .i64 (((BitVec.ofInt (IntKind.bits .i64) (a:Int) &&& BitVec.ofInt (IntKind.bits .i64) (b:Int)).toNat:Nat):Int)=((a &&& b:Nat):Int):=by rw[←e2];exact congrArg (fun n:Nat=> IntKind.wrap .i64 (n:Int)) e
  simp only[execOp,hρ _ _ hx,hρ _ _ hy,eqGuard,binOp,Op.intBits,ha,hb]
  simp only[Sem.run_bind,Sem.run_pure,ne_eq,not_true_eq_false,↓reduceIte]
  rw[e4]
  all_goals rfl
theorem Ch {G:cK}{P:Program}{t:Tm}{H:cG}{dst:Option Tmp}{ty:TypeId}{pos:String}{after:Array Edge}{g:Option (Nat×Bool)}{T U:TypeId}{x y:Operand}{a b:Int}(hx:evo t x=some (.int .i64 a)) (hy:evo t y=some (.int .i64 b)):
 Ev G P ⟨dst, .binOp .sub T x y U,ty,pos,after,g⟩ t H (.int .i64 (IntKind.i64.wrap (a - b))):=
 fun ρ hρ w _=> by simp[execOp,hρ _ _ hx,hρ _ _ hy,eqGuard,binOp,Op.intArith]
theorem Cx {G:cK}{H:cG}{s:SV}{m N a w:Nat} [hs:Sl H s eB (leB m N)] (hm:a+w≤8*m) (hw:w≤40) (hm9:m≤10000000000):SC G Tryz.prog 210 [s.val, .int .i64 ((a:Nat):Int), .int .i64 ((w:Nat):Int)] H (fun v H'=> v= .int .i64 ((N / 2 ^ a % 2 ^ w:Nat):Int)∧H'=H):=by
 have hlen:=eJ m N
 refine sWk Tryz.func210 Tryz.ntmps210 ?_
 refine go ?_
 refine gk (k:=dt (Nat×Nat) (fun y=> y.1≤w∧y.2=N / 2 ^ a % 2 ^ y.1) (fun y=> [(7, .int .i64 ((y.2:Nat):Int)),(8, .int .i64 ((y.1:Nat):Int))]) [(0,_),(1,_),(2,_)] (fun y=> []) _ (fun y=> w - y.1) ((0,0)) (h0:=?_) (k:=?_))
 ·try dsimp only
  exact⟨Yl _,by simp[Nat.mod_one]⟩
 rintro⟨d,v⟩ ⟨hd,hv⟩
 try dsimp only[Yd,Ye]at*
 refine gk (k:=wi_ (k:=fun h1=>?_) (m:=fun h1=>?_))
 ·obtain⟨tk,htk⟩:∃tk,tk=min (8 - (a+d) % 8) (w - d):=⟨_,rfl⟩
  obtain⟨x,hx,hx8,hxb⟩:=DU (m:=m) (N:=N) (T:=a+d) (t:=tk) (aa) (aa)
  have hlt:(a+d) / 8<(leB m N).length:=aa
  have hp8:2 ^ tk≤2 ^ 8:=Nat.pow_le_pow_right (ag) (aa)
  have hp0:0<2 ^ tk:=Nat.two_pow_pos tk
  have hv40:v<2 ^ 40:=by rw[hv];exact Nat.lt_of_lt_of_le (Nat.mod_lt _ (Nat.two_pow_pos d)) (Nat.pow_le_pow_right (ag) (aa))
  have hxs:x / 2 ^ ((a+d) % 8)≤x:=Nat.div_le_self _ _
  have hand:x / 2 ^ ((a+d) % 8) &&& (2 ^ tk - 1)=N / 2 ^ (a+d) % 2 ^ tk:=by rw[Nat.and_two_pow_sub_one_eq_mod,hxb]
  have hy256:N / 2 ^ (a+d) % 2 ^ tk<256:=by have:=Nat.mod_lt (N / 2 ^ (a+d)) hp0;omega
  have hd40:2 ^ d≤2 ^ 40:=Nat.pow_le_pow_right (ag) (aa)
  have hsh:N / 2 ^ (a+d) % 2 ^ tk*2 ^ d≤255*2 ^ 40:=Nat.mul_le_mul (aa) hd40
  have hmore:=DT (N:=N) (at_:=a) (got:=d) (t:=tk)
  rw[←hv]at hmore
  refine wk_ (qn_ (wb_ (ws_ (wr_ (e_ mv (k:=e_ mv (k:=e_ mv (k:=e_ iad (k:=?_)))))))))
  refine e_ (gn rfl rfl (a+d) 8 (aa) rfl (ag) (aq)) (k:=?_)
  refine e_ ixa (k:=e_ (lel (hy:=hx)) (k:=?_))
  refine e_ (dy rfl (aa)) (k:=?_)
  refine e_ mv (k:=e_ mv (k:=e_ iad (k:=?_)))
  refine e_ (kG rfl rfl (a+d) 8 (aa) rfl (ag)) (k:=?_)
  refine e_ (fC rfl rfl x ((a+d) % 8) rfl rfl (by show _≤64;omega)) (k:=?_)
  refine e_ asn (k:=on_ (qn_ (ws_ (wr_ (e_ mv (k:=e_ mv (k:=e_ iad (k:=?_))))))))
  refine e_ (kG rfl rfl (a+d) 8 (aa) rfl (ag)) (k:=?_)
  refine e_ isb (k:=e_ mv (k:=e_ mv (k:=e_ isb (k:=?_))))
  refine e_ (mN rfl rfl) (k:=?_)
  refine e_ (asv (v:= .int .i64 ((tk:Nat):Int)) rfl (congrArg (Value.int .i64) (aa))) (k:=?_)
  refine on_ (qn_ (ws_ (wr_ (e_ mv (k:=e_ mv (k:=e_ mv (k:=?_)))))))
  refine e_ (ud rfl rfl 1 tk rfl rfl (aa) (aa)) (k:=?_)
  refine e_ (evq isb (congrArg (Value.int .i64) (show _=((2 ^ tk - 1:Nat):Int)from aa))) (k:=?_)
  refine e_ (evq (Hg rfl rfl (x / 2 ^ ((a+d) % 8)) (2 ^ tk - 1) rfl rfl (aa) (aa)) (congrArg (fun n:Nat=> Value.int .i64 (n:Int)) hand)) (k:=?_)
  refine e_ mv (k:=?_)
  refine e_ (ud rfl rfl (N / 2 ^ (a+d) % 2 ^ tk) d rfl rfl (aa) (aa)) (k:=?_)
  refine e_ (evq (wS rfl rfl v (N / 2 ^ (a+d) % 2 ^ tk*2 ^ d) rfl rfl (aa) (aa)) (congrArg (fun n:Nat=> Value.int .i64 (n:Int)) hmore)) (k:=?_)
  refine go ?_
  refine ln_ ((d+tk,N / 2 ^ a % 2 ^ (d+tk))) (k:=?_)
  try dsimp only
  exact⟨aa,rfl⟩
 obtain rfl:d=w:=aa
 refine gk (k:=rt_ Tryz.results210 (k:=?_))
 exact⟨_,hsb,by rw[←hv];all_goals rfl,rfl⟩
theorem BG {G:cK}{H R:cG}{b k x:Nat}{xs:List Nat} [hg:Glb G R] [hr:Rem H Rd b (xs,k) R] (hx:xs[k]? =some x) (hn:xs.length≤1000000000000):SC G Tryz.prog 40 [.pointer (some ⟨b,0,none⟩)] H (fun v H'=> v= .tuple #[.int .u8 ((x:Nat):Int), .nilIface]∧H'=Rd b (xs,k+1)::R):=
 SC.mono (Ov (Nat.le_of_lt (Yk.1 hx).1) hn) fun v H' h2=> by
  have hlt:=(Yk.1 hx).1
  rcases h2 with⟨h3,_⟩|⟨y,h3,h4,h5⟩
  ·omega
  ·rw[hx]at h3;cases h3;exact⟨h4,h5⟩
theorem H6 {α:Type}{full:List α}{z:α}{i:Nat}{x:α}(h:full[i]? =some x):(eA full z (i+1))[i]? =some x:=by
 have hi:=(Yk.1 h).1
 rw[eA,Yv (aA),List.getElem?_take_of_lt (aa),h]
theorem MA {G:cK}{H R:cG}{b k most:Nat}{xs ns rest:List Nat} [hg:Glb G R] [hr:Rem H Rd b (xs,k) R] (hn:xs.length≤10000000000) (hb:∀x∈xs,x<256) (h:xs.drop k=dJ ns++rest) (hm:ns.length≤most) (hmo:most≤65536) (hl:∀x∈ns,x<1099511627776):
 SC G Tryz.prog 191 [.pointer (some ⟨b,0,none⟩), .int .i64 ((most:Nat):Int)] H (fun v H'=> ∃s:SV,v= .tuple #[s.val, .nilIface]∧H'=Row s eI (cV ns)::Rd b (xs,k+(dJ ns).length)::R):=by
 have hlen:=dO ns
 have hpl:(dJ ns).length+rest.length=xs.length - k:=by rw[←Ya,←h,Yo]
 have hpos:1≤(dJ ns).length:=by have:=oV ns.length;rw[dJ,Ya];omega
 obtain⟨A,hA⟩:∃A,A=(uv ns.length).length:=⟨_,rfl⟩
 have h0:fG most (xs.drop k)= .ok (ns.length,A):=by rw[h,dJ,Yf,hA];exact ey _ (aa) hm
 refine SC.rem (h:=hr) ?_
 refine sWk Tryz.func191 Tryz.ntmps191 ?_
 refine ws_ (wr_ (e_ asn (k:=e_ asn (k:=on_ (qn_ (ws_ (wr_ (e_ mv (k:=e_ mv (k:=?_))))))))))
 refine d2_ rfl (sj (aa) (aa) hb (aa) h0) (k:=e_ mv (k:=e_ exr (k:=e_ exr (k:=e_ asn (k:=e_ asn (k:=on_ (qn_ (ws_ (ws_ (wr_ (e_ mv (k:=?_))))))))))))
 refine e_ (cM rfl) (k:=?_)
 refine e_ mv (k:=eg_ mv (k:=eg_ ieq (k:=e_ pkf (k:=on_ (qn_ (wi_ (k:=fun h1=>?_) (m:=fun h1=>?_)))))))
 ·have hnil:ns= []:=List.eq_nil_of_length_eq_zero (aa)
  have hpk:(dJ ns).length=A:=by rw[dJ,if_pos hnil,Ym,hA]
  rw[hpk]
  subst hnil
  refine ws_ (wr_ (e_ mv (k:=e_ asn (k:=e_ asn (k:=on_ (qn_ (wt_ (qr_ (rt_ Tryz.results191 (k:=?_))))))))))
  exact⟨_,hsb,SV.nil,rfl,rfl⟩
 have hne:¬ns= []:=fun h=> by have h9:=h1;rw[h]at h9;exact h9 rfl
 obtain⟨W,hW⟩:∃W,W=dX (orL ns):=⟨_,rfl⟩
 have hW40:W≤40:=by rw[hW,fZ];exact nQ (k:=40) (ag) hl
 have hxW:∀x∈ns,x<2 ^ W:=fun x hx=> by rw[hW];exact FM hx
 obtain⟨m,hm8⟩:∃m,m=(ns.length*W+7) / 8:=⟨_,rfl⟩
 obtain⟨N,hN⟩:∃N,N=gj W ns:=⟨_,rfl⟩
 have hres:dJ ns=uv ns.length++(W::leB m N):=by rw[dJ,if_neg hne,←hW,BS,hm8,hN]
 have hrl:(dJ ns).length=A+1+m:=by rw[hres,Ya,Yb,eJ,hA];omega
 have hd1:xs.drop (k+A)=W::(leB m N++rest):=by rw[←List.drop_drop,h,hres,Yf,hA,List.drop_left];all_goals rfl
 have hxk:xs[k+A]? =some W:=by have:=congrArg (·[0]?) hd1;simpa using this
 have hd2:xs.drop (k+A+1)=leB m N++rest:=by rw[←List.drop_drop,hd1];all_goals rfl
 have hcut2:(xs.take (k+A+1+m)).drop (k+A+1)=leB m N:=by
  rw[List.drop_take,show k+A+1+m - (k+A+1)=m from aa,hd2]
  exact List.take_left' (eJ m N)
 have hnW:ns.length*W≤ns.length*40:=Nat.mul_le_mul_left _ hW40
 have hcast:((ns.length:Nat):Int)*((W:Nat):Int)=((ns.length*W:Nat):Int):=an
 refine wk_ (qn_ (ws_ (wr_ (e_ mv (k:=?_)))))
 refine d1_ rfl (BG hxk (aa)) (k:=e_ mv (k:=e_ exr (k:=e_ exr (k:=e_ asn (k:=e_ asn (k:=on_ (qn_ (ws_ (ws_ (wr_ (e_ mv (k:=?_))))))))))))
 refine e_ (cM rfl) (k:=?_)
 refine on_ (qn_ (eg (k:=wk_ (qn_ (ws_ (wr_ (e_ mv (k:=?_))))))))
 refine e_ (dy rfl (aa)) (k:=?_)
 refine e_ asn (k:=on_ (qn_ (ws_ (wb_ (ws_ (ws_ (wr_ (e_ mv (k:=e_ igt (k:=e_ asn (k:=on_ (qn_ (wi_ (k:=fun h2=>?_) (m:=fun h2=>?_))))))))))))))
 ·exact absurd h2 (aa)
 refine wr_ (e_ mv (k:=e_ ieq (k:=e_ mv (k:=dh 3 47 (k:=fun h3=>eg_ mv (k:=eg_ igt (k:=e_ pkt (k:=on_ (edq))))) (q:=e_ asn (k:=on_ (qn_ (wi_ (k:=fun h4=>?_) (m:=fun h4=>?_)))))))))
 ·obtain⟨c1,c2⟩:=h4
  exact absurd c2 (aa)
 refine ws_ (wr_ (?_))
 refine mC b fun s=> ?_
 have hcutS:Sl (Row s eB xs::R) (s.cut 1 (k+A+1) (k+A+1+m)) eB (leB m N):=by
  have:=Sl.cut (H:=Row s eB xs::R) (s:=s) (e:=eB) (xs:=xs) inferInstance (lo:=k+A+1) (hi:=k+A+1+m) (aa) (aa)
  rw[hcut2]at this;exact this
 have hqt:0<W→ns.length≤(xs.length - (k+A+1))*8 / W:=fun hw=> by rw[Nat.le_div_iff_mul_le hw];omega
 refine e_ mv (k:=e_ igt (k:=e_ mv (k:=dh 10 62 (c:=decide ((((xs.length - (k+A+1))*8 / W:Nat):Int)<((ns.length:Nat):Int))) (k:=fun h6=>?_) (q:=?_))))
 ·have hW0:0<W:=by have h9:=h6;omega
  refine eg_ mv (k:=eg_ mv (k:=eg_ nck (k:=eg_ fla (k:=?_))))
  refine sg_ (cW (vs:= [_]) rfl (left (k:=((k+A+1:Nat):Int)) (aa))) (k:=?_)
  rintro _ _ ⟨rfl,rfl⟩
  refine eg_ (evq iml (congrArg (Value.int .i64) (show _=(((xs.length - (k+A+1))*8:Nat):Int)from aa))) (k:=?_)
  refine eg_ mv (k:=?_)
  refine eg_ (gn rfl rfl ((xs.length - (k+A+1))*8) W rfl rfl (aa) (aq)) (k:=?_)
  refine eg_ igt (k:=e_ pkt (k:=on_ (edq)))
 refine e_ asn (k:=on_ (qn_ (wi_ (k:=fun h7=>?_) (m:=fun h7=>?_))))
 ·obtain⟨c1,c2⟩:=h7
  have:=hqt (aa)
  exact absurd c2 (aa)
 refine wk_ (bn_ (qn_ (ws_ (wr_ (e_ mv (k:=e_ mv (k:=?_)))))))
 refine e_ (evq iml (congrArg (Value.int .i64) hcast)) (k:=?_)
 refine e_ iad (k:=?_)
 refine e_ (evq (gn rfl rfl (ns.length*W+7) 8 (aa) rfl (ag) (aq)) (congrArg (fun n:Nat=> Value.int .i64 (n:Int)) hm8.symm)) (k:=?_)
 refine e_ asn (k:=on_ (qn_ (ws_ (?_))))
 refine cX cI (as_ 0 (q:=mv) (k:=as_ 1 (q:=nck) (k:=as_ 2 (q:=fla) (k:=as_ 3 (q:=ldv) (k:=as_ 4 (q:=mv) (k:=as_ 5 (q:=nck) (k:=as_ 6 (q:=fla) (k:=as_ 7 (q:=fla) (k:=as_ 8 (q:=ldv) (k:=as_ 9 (q:=mv) (k:=as_ 10 (q:=nck) (k:=as_ 11 (q:=fla) (k:=as_ 12 (q:=fla) (k:=?_))))))))))))))
 refine as_ 13 (q:=ldv) (k:=as_ 14 (q:=mv) (k:=as_ 15 (q:=iad) (k:=?_)))
 refine cE 16 rfl rfl (a8) rfl (dz (eL rfl (bQ) (k+A+1) (k+A+1+m) ⟨_,_,rfl,rfl⟩ ⟨_,_,rfl,aa⟩ (aa) (aa))) (?_)
 refine as_ 17 (q:=asn) (k:=az_ (k:=qn_ (ws_ (wr_ (e_ mv (k:=?_))))))
 refine s_ (eX eI 0 rfl rfl ns.length ns.length rfl rfl rfl (Nat.le_refl _) (aa) (aa)) (k:=?_)
 rintro _ _ ⟨sl,rfl,hsln,hslc,rfl⟩
 rw[show List.replicate ns.length (0:Int)=eA (cV ns) 0 0 from by rw[kd,hlen]]
 refine e_ asn (k:=on_ (qn_ (ws_ (wr_ (e_ asn (k:=e_ asn (k:=on_ (qn_ (ws_ (ws_ (wr_ (e_ mv (k:=?_)))))))))))))
 have hfl:=ik (full:=cV ns) (z:=(0:Int)) (i:=0) (Yl _)
 refine e_ lnn (k:=e_ mv (k:=on_ (qn_ (wb_ (dt (Nat×Nat) (fun y=> y.1≤ns.length∧y.2=y.1*W) (fun y=> [(13, .int .i64 ((y.2:Nat):Int)),(14, .int .i64 ((orL (ns.take y.1):Nat):Int)),(90, .int .i64 ((y.1:Nat):Int))]) [(0,_),(9,_),(10,_),(11,_),(12,_),(89,_)] (fun y=> [Row sl eI (eA (cV ns) 0 y.1)]) _ (fun y=> ns.length - y.1) ((0,0)) (h0:=?_) (k:=?_))))))
 ·try dsimp only
  exact⟨Yl _,by rw[Nat.zero_mul]⟩
 rintro⟨i,g⟩ ⟨hi,hgW⟩
 try dsimp only[Yd,Ye]at*
 subst hgW
 refine ws_ (wr_ (e_ ilt (k:=on_ (qn_ (ws_ (wi_ (k:=fun h8=>?_) (m:=fun h8=>?_)))))))
 ·obtain⟨x,hx⟩:∃x,ns[i]? =some x:=⟨_,Yi (aa)⟩
  have hxi:=ez hx
  have hx40:=hl x (Yj hx)
  have hiW:i*W≤i*40:=Nat.mul_le_mul_left _ hW40
  have hi1:(i+1)*W≤ns.length*W:=Nat.mul_le_mul_right _ (aa)
  have hi2:(i+1)*W=i*W+W:=by rw[Nat.add_mul,Nat.one_mul]
  have hget:N / 2 ^ (i*W) % 2 ^ W=x:=by rw[hN,Nat.mul_comm];exact Da hx hxW
  have hfi:=ik (full:=cV ns) (z:=(0:Int)) (i:=i) (aa)
  have hfi1:=ik (full:=cV ns) (z:=(0:Int)) (i:=i+1) (aa)
  have hgot:=H6 (z:=(0:Int)) hxi
  have ho:orL (ns.take i)<2 ^ 40:=nQ (ag) fun y hy=> hl y (Yq hy)
  refine wk_ (qn_ (ws_ (wb_ (ws_ (wr_ (e_ mv (k:=e_ asn (k:=on_ (qn_ (ws_ (wr_ (e_ mv (k:=e_ mv (k:=?_))))))))))))))
  refine e_ mv (k:=e_ mv (k:=e_ mv (k:=?_)))
  refine d3_ rfl (Cx (m:=m) (N:=N) (a:=i*W) (w:=W) (aa) hW40 (aa)) (k:=?_)
  rw[hget]
  refine e_ ixa (k:=?_)
  refine s_ (dH (i:=i) rfl rfl rfl (aa)) (k:=?_)
  rintro _ _ ⟨rfl,rfl⟩
  rw[lW hxi]
  refine on_ (qn_ (ws_ (wr_ (e_ mv (k:=e_ mv (k:=?_))))))
  refine e_ (evq iad (congrArg (Value.int .i64) (show _=(((i+1)*W:Nat):Int)from aa))) (k:=?_)
  refine e_ asn (k:=on_ (qn_ (wr_ (e_ mv (k:=e_ mv (k:=e_ mv (k:=e_ ixa (k:=e_ (lel (hy:=hgot)) (k:=?_)))))))))
  refine e_ (evq (wS rfl rfl (orL (ns.take i)) x rfl rfl (aa) (aa)) (congrArg (fun n:Nat=> Value.int .i64 (n:Int)) (yn hx).symm)) (k:=?_)
  refine e_ asn (k:=on_ (bn_ (qn_ (wr_ (e_ iad (k:=e_ mv (k:=on_ (?_))))))))
  refine ln_ ((i+1,(i+1)*W)) (k:=?_)
  try dsimp only
  exact⟨aa,rfl⟩
 obtain rfl:i=ns.length:=aa
 have ho:orL ns<2 ^ 40:=nQ (ag) hl
 rw[List.take_length,show eA (cV ns) (0:Int) ns.length=cV ns from by rw[←hlen,kE]]
 have hend:N / 2 ^ (ns.length*W) % 2 ^ (m*8 - ns.length*W)=0:=by rw[hN,Nat.mul_comm];exact Db hxW _
 refine we_ (qe_ (le_ (bh_ (qn_ (ws_ (ws_ (wr_ (e_ mv (k:=?_)))))))))
 refine e_ (cU 18446744073709551616 rfl rfl rfl (orL ns) rfl (aa)) (k:=?_)
 refine d1_ rfl (NY (aa)) (k:=?_)
 rw[←hW]
 refine e_ mv (k:=?_)
 refine e_ (evq ine (congrArg Value.bool (show _=false from Yr (fun h=> h rfl)))) (k:=?_)
 refine e_ mv (k:=eg_ mv (k:=eg_ mv (k:=eg_ mv (k:=?_))))
 refine eg_ (evq iml (congrArg (Value.int .i64) (show _=((m*8:Nat):Int)from aa))) (k:=?_)
 refine eg_ mv (k:=?_)
 refine eg_ (evq isb (congrArg (Value.int .i64) (show _=((m*8 - ns.length*W:Nat):Int)from aa))) (k:=?_)
 refine sg_ (cW (vs:= [_,_,_]) rfl (Cx (m:=m) (N:=N) (a:=ns.length*W) (w:=m*8 - ns.length*W) (aa) (aa) (aa))) (k:=?_)
 rintro _ _ ⟨rfl,rfl⟩
 rw[hend]
 refine eg_ (evq ine (congrArg Value.bool (show _=false from Yr (fun h=> h rfl)))) (k:=?_)
 refine e_ pkf (k:=on_ (qn_ (eg (k:=wk_ (qn_ (ws_ (wr_ (e_ mv (k:=e_ nck (k:=e_ fla (k:=e_ fla (k:=e_ ldv (k:=e_ mv (k:=?_))))))))))))))
 refine e_ (evq iad (congrArg (Value.int .i64) (show _=((k+A+1+m:Nat):Int)from aa))) (k:=?_)
 refine e_ nck (k:=e_ fla (k:=e_ fla (k:=sto (k:=on_ (qn_ (ws_ (wr_ (e_ mv (k:=e_ asn (k:=e_ asn (k:=on_ (qn_ (wt_ (?_))))))))))))))
 refine rt_ Tryz.results191 (k:=?_)
 rw[hrl]
 exact⟨Row sl eI (cV ns)::Rd b (xs,k+A+1+m)::R,hsb,sl,rfl,by rw[show k+(A+1+m)=k+A+1+m from aa]⟩
theorem BO {G:cK}{H R:cG}{b k most:Nat}{xs ns rest:List Nat} [hg:Glb G R] [hr:Rem H Rd b (xs,k) R] (hn:xs.length≤10000000000) (hb:∀x∈xs,x<256) (h:xs.drop k=dJ ns++rest) (hm:ns.length≤most) (hmo:most≤65536) (hl:∀x∈ns,x<1099511627776):
 SC G Tryz.prog 161 [.pointer (some ⟨b,0,none⟩), .int .i64 ((most:Nat):Int)] H (fun v H'=> ∃s:SV,v= .tuple #[s.val, .nilIface]∧H'=Row s eI (cV ns)::Rd b (xs,k+(dJ ns).length)::R):=by
 refine SC.rem (h:=hr) ?_
 refine sWk Tryz.func161 Tryz.ntmps161 ?_
 refine go ?_
 refine mC b fun s=> ?_
 refine go ?_
 refine du (H':=Rd b (xs,k)::R) (hsb) ?_
 refine go ?_
 refine c2_ rfl (MA hn hb h hm hmo hl) (k:=?_)
 rintro _ _ ⟨s17,rfl,rfl⟩
 refine e_ mv (k:=e_ exr (k:=e_ exr (k:=e_ asn (k:=e_ asn (k:=on_ (qn_ (ws_ (ws_ (wr_ (e_ mv (k:=?_)))))))))))
 refine e_ (cM rfl) (k:=?_)
 refine gk (k:=eg (k:=gk (k:=rt_ Tryz.results161 (k:=?_))))
 exact⟨_,hsb,s17,rfl,rfl⟩
theorem EN {G:cK}{H R:cG}{b k n m:Nat}{xs:List Nat} [hg:Glb G R] [hr:Rem H Rd b (xs,k) R] (hk:k≤xs.length) (hn:xs.length≤1000000000000) (hb:∀x∈xs,x<256) (h:gP 0 (xs.drop k)= .ok (n,m)):SC G Tryz.prog 42 [.pointer (some ⟨b,0,none⟩)] H (fun v H'=> v= .tuple #[.int .u64 ((n:Nat):Int), .nilIface]∧H'=Rd b (xs,k+m)::R):=
 SC.mono (lN hk hn hb) fun v H' h2=> by
  rcases h2 with⟨e,h3,_⟩|⟨n',m',h3,h4,h5⟩
  ·rw[h]at h3;cases h3
  ·rw[h]at h3;cases h3;exact⟨h4,h5⟩
theorem IH {G:cK}{H R:cG}{b k:Nat}{xs:List Nat} [hg:Glb G R] [hr:Rem H Rd b (xs,k) R] (hk:k=xs.length):SC G Tryz.prog 154 [.pointer (some ⟨b,0,none⟩)] H (fun v H'=> v= .nilIface∧H'=Rd b (xs,k)::R):=
 SC.mono (pO (Nat.le_of_eq hk)) fun v H' h2=> by
  obtain⟨h3,h4⟩:=h2
  rcases h4 with⟨h5,_⟩|⟨_,h5⟩
  ·omega
  ·exact⟨h5,h3⟩
theorem wx {v:Nat}(r:List Nat) (h:v<18446744073709551616):gP 0 (uv v++r)= .ok (v,(uv v).length):=BN v 0 r (ag) (aa) (aa)
theorem uY:∀(l:List Nat) (nb m:Nat),∃r,ff nb l=ff nb (l.take m)++r
 | [],nb,m=> ⟨[],by simp[ff]⟩
 |x::l,nb,0=> ⟨ff nb (x::l),by simp[ff]⟩
 |x::l,nb,m+1=> by
  obtain⟨r,h⟩:=uY l (x+1) m
  exact⟨r,by rw[List.take_succ_cons,ff,ff,h,Yf]⟩
theorem EK {l:List Nat}{nb j x:Nat}(h:l[j]? =some x):∃r,ff nb l=ff nb (l.take j)++(uv (x - (if j=0 then nb else l.getD (j - 1) 0+1))++r):=by
 obtain⟨r,hr⟩:=uY l nb (j+1)
 exact⟨r,by rw[hr,mh h,Yf]⟩
theorem sT:∀(l:List Nat) (nb:Nat),l.length≤(ff nb l).length
 | [],_=> Nat.le_refl _
 |x::l,nb=> by
  have:=sT l (x+1)
  have:=oV (x - nb)
  simp only[ff,Ya,Yb];omega
theorem CR {l:List Po}{i:Nat}{p:Po}(h:l[i]? =some p):dY l=dY (l.take i)++(ff 0 p.2++dY (l.drop (i+1))):=by
 have e:l=l.take i++p::l.drop (i+1):=by rw[←dF h,List.take_append_drop]
 conv=> lhs;rw[e]
 simp[dY]
def jf (zs:List PG) (n:Nat):List (Nat×SV):=zs.map pgV++List.replicate (n - zs.length) (0,SV.nil)
theorem qY {zs:List PG}{n:Nat}(h:zs.length≤n):(jf zs n).length=n:=by simp[jf];omega
theorem DC {zs:List PG}{n:Nat}(z:PG) (h:zs.length<n):(jf zs n).set zs.length (z.d,z.s)=jf (zs++ [z]) n:=by
 obtain⟨m,hm⟩:∃m,n - zs.length=m+1:=⟨n - zs.length - 1,aa⟩
 have h2:n - (zs.length+1)=m:=aa
 simp only[jf,Ya,List.length_singleton,h2,hm,List.map_append,List.map_cons,List.map_nil,List.replicate_succ]
 rw[List.set_append_right _ _ (an),Yh,Nat.sub_self]
 simp[pgV]
theorem DD {zs:List PG}{n:Nat}(z:PG):(jf (zs++ [z]) n)[zs.length]? =some (z.d,z.s):=by
 rw[jf,List.map_append,Yf,Yu (an),Yh,Nat.sub_self]
 simp[pgV]
theorem DE (zs:List PG):jf zs zs.length=zs.map pgV:=by simp[jf]
theorem Bt {G:cK}{H:cG}{s:SV}{nb:Nat}{l:List Po} [hg:Glb G H] [hs:Sl H s eB (jN nb l)] (hok:fW nb l) (hsm:e8 l) (hn:l.length≤16) (hnb:nb≤1000001):
 SC G Tryz.prog 122 [s.val, .int .i64 (((nb:Nat):Int) - 1), .int .i64 ((l.length:Nat):Int)] H (fun v H'=> ∃(sl:SV) (zs:List PG),zs.map pgP=l∧v= .tuple #[sl.val, .bool true]∧H'=Row sl ePo (zs.map pgV)::Cl pgH zs::H):=by
 have hb:=CA (nb:=nb) hsm
 have hbl:=qt (nb:=nb) hsm
 have htl:=wa hsm
 obtain⟨xs,hxs⟩:∃xs,xs=jN nb l:=⟨_,rfl⟩
 have hs2:Sl H s eB xs:=by rw[hxs];exact hs
 clear hs
 rw[←hxs]at hb hbl
 have hgl:(cV (gm nb l)).length=l.length:=by rw[dO,fN]
 have hfl:(cV (hX l)).length=l.length:=by rw[dO,hX,Yh]
 have hg40:∀x∈gm nb l,x<1099511627776:=fun x hx=> aU
 have hf40:∀x∈hX l,x<1099511627776:=fun x hx=> bK
 obtain⟨A,hA⟩:∃A,A=(dJ (gm nb l)).length:=⟨_,rfl⟩
 obtain⟨B,hB⟩:∃B,B=(dJ (hX l)).length:=⟨_,rfl⟩
 have hd0:xs.drop 0=dJ (gm nb l)++(dJ (hX l)++dY l):=by rw[hxs,jN,Yf];all_goals rfl
 have hd1:xs.drop (0+A)=dJ (hX l)++dY l:=by rw[←List.drop_drop,hd0,hA,List.drop_left]
 have hd2:xs.drop (0+A+B)=dY l:=by rw[←List.drop_drop,hd1,hB,List.drop_left]
 have hlen:xs.length=A+B+(dY l).length:=by rw[hxs,jN,Ya,Ya,hA,hB]
 refine sWk Tryz.func122 Tryz.ntmps122 ?_
 refine go ?_
 refine c1_ rfl (iS (xs:=xs) (aa)) (k:=?_)
 rintro _ _ ⟨br,rfl,rfl⟩
 refine go ?_
 refine c2_ rfl (BO (most:=16) (aa) hb hd0 (bZ) (aa) hg40) (k:=?_)
 rintro _ _ ⟨sd,rfl,rfl⟩
 rw[←hA]
 refine e_ mv (k:=e_ exr (k:=e_ exr (k:=e_ asn (k:=e_ asn (k:=on_ (qn_ (ws_ (ws_ (wr_ (e_ mv (k:=?_)))))))))))
 refine e_ (cM rfl) (k:=?_)
 refine gk (k:=wi_ (k:=fun h1=>?_) (m:=fun h1=>?_))
 ·exact absurd h1 (aa)
 refine go ?_
 refine c2_ rfl (BO (most:=16) (aa) hb hd1 (bE) (aa) hf40) (k:=?_)
 rintro _ _ ⟨sf,rfl,rfl⟩
 rw[←hB]
 refine e_ mv (k:=e_ exr (k:=e_ exr (k:=e_ asn (k:=e_ asn (k:=on_ (qn_ (ws_ (ws_ (wr_ (e_ mv (k:=?_)))))))))))
 refine e_ (cM rfl) (k:=?_)
 refine gk (k:=wi_ (k:=fun h2=>?_) (m:=fun h2=>?_))
 ·exact absurd h2 (aa)
 refine go ?_
 refine s_ (eX ePo (0,SV.nil) rfl rfl l.length l.length rfl rfl rfl (Nat.le_refl _) (aa) (aa)) (k:=?_)
 rintro _ _ ⟨sl,rfl,hsln,hslc,rfl⟩
 rw[show List.replicate l.length ((0,SV.nil):Nat×SV)=jf [] l.length from by simp[jf]]
 have hz0:=qY (zs:= []) (n:=l.length) (Yl _)
 refine du (fe (f:=pgH) cJ.refl) ?_
 refine gk (k:=dt (Nat×(List PG)×Nat) (fun y=> y.1≤l.length∧y.2.1.map pgP=l.take y.1∧y.2.2=A+B+(dY (l.take y.1)).length) (fun y=> [(1, .int .i64 (((dS nb (l.take y.1):Nat):Int) - 1)),(50, .int .i64 ((y.1:Nat):Int))]) [(8,_),(9,_),(11,_),(12,_),(49,_)] (fun y=> [Row sl ePo (jf y.2.1 l.length),Cl pgH y.2.1,Rd br (xs,y.2.2)]) _ (fun y=> l.length - y.1) ((0, [],0+A+B)) (h0:=?_) (k:=?_))
 ·try dsimp only
  exact⟨Yl _,rfl,by simp[dY]⟩
 rintro⟨i,zs,K⟩ ⟨hi,hzp,hK⟩
 try dsimp only[Yd,Ye]at*
 have hzl:zs.length=i:=by have:=congrArg List.length hzp;rw[Yh,Yg]at this;omega
 have hfz:=qY (zs:=zs) (n:=l.length) (aa)
 refine gk (k:=wi_ (k:=fun h3=>?_) (m:=fun h3=>?_))
 ·obtain⟨p,hp⟩:∃p,l[i]? =some p:=⟨_,Yi (aa)⟩
  obtain⟨hp1,hp2,hp3⟩:=hsm.2 p (Yj hp)
  obtain⟨hge,hpne,hpok⟩:=ij hok hp
  have hpp:0<p.2.length:=List.length_pos_iff.2 hpne
  have hgi:(cV (gm nb l))[i]? =some ((p.1 - dS nb (l.take i):Nat):Int):=ez (qV hp)
  have hfi:(cV (hX l))[i]? =some ((p.2.length - 1:Nat):Int):=ez (by rw[hX,Xd,hp];all_goals rfl)
  have hlt:=pd (nb:=nb) hp
  have hta:=CR hp
  have htk:=rq hp
  have htg:=sT p.2 0
  have htl2:=congrArg List.length hta
  have htk2:=congrArg List.length htk
  rw[Ya,Ya]at htl2
  rw[Ya]at htk2
  have hdK:xs.drop K=ff 0 p.2++dY (l.drop (i+1)):=by
   rw[hK,←List.drop_drop,show A+B=0+A+B from aa,hd2,hta,List.drop_left]
  refine wk_ (qn_ (ws_ (wb_ (ws_ (wr_ (e_ mv (k:=?_)))))))
  refine mC br fun s2=> ?_
  refine go ?_
  refine cX cI (as_ 0 (q:=mv) (k:=as_ 1 (q:=mv) (k:=as_ 2 (q:=ixa) (k:=as_ 3 (q:=lel (hy:=hgi)) (k:=as_ 4 (q:=mv) (k:=as_ 5 (q:=isb) (k:=as_ 6 (q:=isb) (k:=as_ 7 (q:=ige) (k:=?_)))))))))
  refine gq 8 rfl rfl (a8) rfl (dz (mv)) (fun h4=> ?_) (fun h4=> ?_)
  ·replace h4:=nrm h4
   exact absurd h4 (aa)
  replace h4:=nrm h4
  refine at2 9 (q:=mv) (k:=at2 10 (q:=mv) (k:=at2 11 (q:=ixa) (k:=at2 12 (q:=lel (hy:=hfi)) (k:=at2 13 (q:=mv) (k:=at2 14 (q:=nck) (k:=at2 15 (q:=fla) (k:=?_)))))))
  refine ld 16 rfl rfl rfl rfl (a8) rfl (gQ (vs:= [_]) rfl (left (k:=((K:Nat):Int)) (aa))) (?_)
  refine at2 17 (q:=ige) (k:=as_ 18 (q:=pkf) (k:=az_ (k:=gk (k:=wi_ (k:=fun h5=>?_) (m:=fun h5=>?_)))))
  ·exact absurd h5 (aa)
  refine wk_ (qn_ (ws_ (wr_ (?_))))
  refine du (H':=Rd br (xs,K)::Row sl ePo (jf zs l.length)::Cl pgH zs::Row sf eI (cV (hX l))::Row sd eI (cV (gm nb l))::H) (hsb) ?_
  refine e_ mv (k:=e_ mv (k:=e_ mv (k:=e_ ixa (k:=e_ (lel (hy:=hgi)) (k:=e_ iad (k:=?_))))))
  refine e_ (evq iad (congrArg (Value.int .i64) (show _=(((dS nb (l.take (i+1)):Nat):Int) - 1)from aa))) (k:=?_)
  refine e_ asn (k:=on_ (qn_ (ws_ (wr_ (e_ mv (k:=e_ mv (k:=?_)))))))
  refine e_ (evq mv (congrArg (Value.int .i64) (show(((dS nb (l.take (i+1)):Nat):Int) - 1)=((p.1:Nat):Int)from aa))) (k:=?_)
  refine e_ mv (k:=e_ mv (k:=e_ ixa (k:=e_ (lel (hy:=hfi)) (k:=?_))))
  refine e_ (evq iad (congrArg (Value.int .i64) (show _=((p.2.length:Nat):Int)from aa))) (k:=?_)
  refine s_ (eX eI 0 rfl rfl p.2.length p.2.length rfl rfl rfl (Nat.le_refl _) (aa) (aa)) (k:=?_)
  rintro _ _ ⟨sp,rfl,hspn,hspc,rfl⟩
  rw[show List.replicate p.2.length (0:Int)=eA (cV p.2) 0 0 from by rw[kd,dO]]
  refine e_ (bld [(0,_),(1,_)]) (k:=go ?_)
  refine s_ (dH (i:=i) rfl rfl rfl (aa)) (k:=?_)
  rintro _ _ ⟨rfl,rfl⟩
  rw[show(jf zs l.length).set i (p.1,sp)=jf (zs++ [⟨p.1,sp,p.2⟩]) l.length from by rw[←hzl];exact DC ⟨p.1,sp,p.2⟩ (aa)]
  have hgz:(jf (zs++ [⟨p.1,sp,p.2⟩]) l.length)[i]? =some (p.1,sp):=by rw[←hzl];exact DD ⟨p.1,sp,p.2⟩
  have hfz1:=qY (zs:=zs++ [⟨p.1,sp,p.2⟩]) (n:=l.length) (bY)
  refine on_ (qn_ (ws_ (wr_ (e_ asn (k:=on_ (qn_ (ws_ (wr_ (e_ mv (k:=e_ mv (k:=e_ ixa (k:=?_))))))))))))
  have hil:(cV p.2).length=p.2.length:=dO _
  have hfl0:=ik (full:=cV p.2) (z:=(0:Int)) (i:=0) (Yl _)
  refine e_ fle (k:=e_ (lfl (hy:=hgz)) (k:=gk (k:=dt (Nat×Nat×Nat) (fun y=> y.1≤p.2.length∧y.2.1=(if y.1=0 then 0 else p.2.getD (y.1 - 1) 0+1)∧y.2.2=K+(ff 0 (p.2.take y.1)).length) (fun y=> [(14, .int .i64 (((y.2.1:Nat):Int) - 1)),(96, .int .i64 ((y.1:Nat):Int))]) [(1,_),(8,_),(9,_),(11,_),(12,_),(13,_),(49,_),(50,_),(95,_)] (fun y=> [Row sp eI (eA (cV p.2) 0 y.1),Rd br (xs,y.2.2)]) _ (fun y=> p.2.length - y.1) ((0,0,K)) (h0:=?_) (k:=?_))))
  ·try dsimp only
   exact⟨Yl _,rfl,by simp[ff]⟩
  rintro⟨j,q,K2⟩ ⟨hj,hq,hK2⟩
  try dsimp only[Yd,Ye]at*
  refine gk (k:=wi_ (k:=fun h6=>?_) (m:=fun h6=>?_))
  ·obtain⟨x,hx⟩:∃x,p.2[j]? =some x:=⟨_,Yi (aa)⟩
   have hxi:=ez hx
   have hx40:=hp3 x (Yj hx)
   have hqx:=od hpok hx
   rw[←hq]at hqx
   obtain⟨r,hr⟩:=EK (nb:=0) hx
   rw[←hq]at hr
   have htj:=mh (nb:=0) hx
   rw[←hq]at htj
   have htj2:=congrArg List.length htj
   rw[Ya]at htj2
   have hr2:=congrArg List.length hr
   rw[Ya,Ya]at hr2
   have hdj:xs.drop K2=uv (x - q)++(r++dY (l.drop (i+1))):=by
    rw[hK2,←List.drop_drop,hdK,hr,Yf,List.drop_left,Yf]
   have hrd:=wx (v:=x - q) (r++dY (l.drop (i+1))) (aa)
   rw[←hdj]at hrd
   have hfj:=ik (full:=cV p.2) (z:=(0:Int)) (i:=j) (aa)
   refine go ?_
   refine d1_ rfl (EN (aa) (aa) hb hrd) (k:=e_ mv (k:=e_ exr (k:=e_ exr (k:=e_ asn (k:=e_ asn (k:=on_ (qn_ (ws_ (ws_ (wr_ (e_ mv (k:=?_))))))))))))
   refine e_ (cM rfl) (k:=?_)
   refine e_ mv (k:=eg_ mv (k:=eg_ ieq (k:=e_ pkf (k:=e_ mv (k:=dN 7 117 (k:=fun h7=>eg_ mv (k:=eg_ mv (k:=eg_ (Ch rfl rfl) (k:=eg_ (evq (Ch rfl rfl) (congrArg (Value.int .i64) (show _=((9223372036854775807 - q:Nat):Int)from cr))) (k:=eg_ ((ae)) (k:=eg_ igt (k:=e_ pkf (k:=on_ (edq))))))))) (q:=on_ (qn_ (wi_ (k:=fun h8=>?_) (m:=fun h8=>?_)))))))))
   ·exact absurd h8 (aa)
   refine wk_ (qn_ (ws_ (wr_ (e_ mv (k:=e_ mv (k:=?_))))))
   refine e_ (dy rfl (aa)) (k:=?_)
   refine e_ iad (k:=?_)
   refine e_ (evq iad (congrArg (Value.int .i64) (show _=(((x+1:Nat):Int) - 1)from aa))) (k:=?_)
   refine e_ asn (k:=on_ (qn_ (wr_ (e_ mv (k:=e_ mv (k:=e_ ixa (k:=e_ fle (k:=e_ (lfl (hy:=hgz)) (k:=e_ mv (k:=?_))))))))))
   refine e_ (evq mv (congrArg (Value.int .i64) (show(((x+1:Nat):Int) - 1)=((x:Nat):Int)from aa))) (k:=?_)
   refine go ?_
   refine s_ (dH (s:=sp) (i:=j) rfl rfl rfl (aa)) (k:=?_)
   rintro _ _ ⟨rfl,rfl⟩
   rw[lW hxi]
   refine go ?_
   refine ln_ ((j+1,x+1,K2+(uv (x - q)).length)) (k:=?_)
   try dsimp only
   exact⟨aa,by rw[if_neg (aa),Nat.add_sub_cancel,List.getD_eq_getElem?_getD,hx];all_goals rfl,aa⟩
  obtain rfl:j=p.2.length:=aa
  rw[List.take_length]at hK2
  rw[show eA (cV p.2) (0:Int) p.2.length=cV p.2 from by rw[←hil,kE]]
  refine we_ (qe_ (le_ (bh_ (bn_ (qn_ (wr_ (?_)))))))
  refine du (H':=Cl pgH (zs++ [⟨p.1,sp,p.2⟩])::Rd br (xs,K2)::Row sl ePo (jf (zs++ [⟨p.1,sp,p.2⟩]) l.length)::Row sf eI (cV (hX l))::Row sd eI (cV (gm nb l))::H) (cJ.trans (hsb) (wy ⟨p.1,sp,p.2⟩)) ?_
  refine go ?_
  refine ln_ ((i+1,zs++ [⟨p.1,sp,p.2⟩],K2)) (k:=?_)
  try dsimp only
  exact⟨aa,by rw[List.map_append,hzp,cP hp];all_goals rfl,aa⟩
 obtain rfl:i=l.length:=aa
 rw[List.take_length]at hzp hK
 rw[show jf zs l.length=zs.map pgV from by rw[←hzl,DE]]
 refine go ?_
 refine df cI (fun i=> [4].contains i) (fun _ _=> True) (af_ 0 (q:=cD fun H hH=>mv) (k:=af_ 1 (q:=cD fun H hH=>mv) (k:=af_ 2 (q:=cD fun H hH=>nck) (k:=af_ 3 (q:=cD fun H hH=>fla) (k:=?_)))))
 refine cN 4 rfl (a8) rfl (fun _ _=> trivial) (cW (vs:= [_]) rfl (IH (aa))) ?_
 rintro _ _ ⟨rfl,rfl⟩
 refine qv (fun _=> trivial) (?_)
 refine cE 5 rfl rfl (a8) rfl (dz ((by first|exact fy rfl|exact kI rfl))) (?_)
 refine as_ 6 (q:=asn) (k:=as_ 7 (q:=asn) (k:=az_ (k:=gk (k:=rt_ Tryz.results122 (k:=?_)))))
 exact⟨_,hsb,sl,zs,hzp,rfl,rfl⟩
end Go.Sx
