import Derived.Test.YtefgpomabdplbaaGreatDoorQ36
set_option linter.unusedVariables false
set_option linter.unusedSimpArgs false
set_option linter.unusedSectionVars false
set_option linter.unnecessarySimpa false
set_option maxHeartbeats 0
namespace Go.Sx
open Go Go.Proofs
set_option maxRecDepth 100000
abbrev vvV (a:VV):Value:= .agg [.bool a.1, .int .u64 ((a.2:Nat):Int)].toArray
abbrev nw (op A B:Nat):Value:= .agg [.int .i64 ((op:Nat):Int), .int .u64 ((A:Nat):Int), .int .u64 ((B:Nat):Int)].toArray
theorem tF4 {G:cK}{H:cG}{a b:VV}:SC G Tryz.prog 84 [vvV a,vvV b] H (fun v H'=> v= .tuple #[.bool ((a.1 && b.1,w64 (a.2+b.2)):VV).1, .int .u64 ((((a.1 && b.1,w64 (a.2+b.2)):VV).2:Nat):Int)]∧H'=H):=by
 refine sWk Tryz.func84 Tryz.ntmps84 ?_
 refine gk (k:=bxx (k:=fun b2=>?_))
 refine bxx (k:=fun b3=>?_)
 refine go ?_
 refine cX cI (as_ 0 (q:=fla) (k:=as_ 1 (q:=ldv) (k:=?_)))
 refine gq 2 rfl rfl (a8) rfl (dz (mv)) (fun h1=> ?_) (fun h1=> ?_)
 ·replace h1:=nrm h1
  refine at2 3 (q:=fla) (k:=at2 4 (q:=ldv) (k:=as_ 5 (q:=pkt) (k:=as_ 6 (q:=fla) (k:=as_ 7 (q:=ldv) (k:=as_ 8 (q:=fla) (k:=as_ 9 (q:=ldv) (k:=?_)))))))
  refine cE 10 rfl rfl (a8) rfl (dz ((au))) (?_)
  refine as_ 11 (q:=asn) (k:=as_ 12 (q:=asn) (k:=az_ (k:=gk (k:=rt_ Tryz.results84 (k:=?_)))))
  exact⟨_,hsb,by(cases ha:a.1 <;> simp_all [gF,w64]),rfl⟩
 replace h1:=nrm h1
 refine ao_ 3 (k:=ao_ 4 (k:=as_ 5 (q:=pkf) (k:=as_ 6 (q:=fla) (k:=as_ 7 (q:=ldv) (k:=as_ 8 (q:=fla) (k:=as_ 9 (q:=ldv) (k:=?_)))))))
 refine cE 10 rfl rfl (a8) rfl (dz ((au))) (?_)
 refine as_ 11 (q:=asn) (k:=as_ 12 (q:=asn) (k:=az_ (k:=gk (k:=rt_ Tryz.results84 (k:=?_)))))
 exact⟨_,hsb,by(cases ha:a.1 <;> simp_all [gF,w64]),rfl⟩
theorem tF5 {G:cK}{H:cG}{a b:VV}:SC G Tryz.prog 86 [vvV a,vvV b] H (fun v H'=> v= .tuple #[.bool ((a.1 ||b.1,w64 (a.2+b.2)):VV).1, .int .u64 ((((a.1 ||b.1,w64 (a.2+b.2)):VV).2:Nat):Int)]∧H'=H):=by
 refine sWk Tryz.func86 Tryz.ntmps86 ?_
 refine gk (k:=bxx (k:=fun b2=>?_))
 refine bxx (k:=fun b3=>?_)
 refine go ?_
 refine cX cI (as_ 0 (q:=fla) (k:=as_ 1 (q:=ldv) (k:=?_)))
 refine gq 2 rfl rfl (a8) rfl (dz (mv)) (fun h1=> ?_) (fun h1=> ?_)
 ·replace h1:=nrm h1
  refine ao_ 3 (k:=ao_ 4 (k:=as_ 5 (q:=pkt) (k:=as_ 6 (q:=fla) (k:=as_ 7 (q:=ldv) (k:=as_ 8 (q:=fla) (k:=as_ 9 (q:=ldv) (k:=?_)))))))
  refine cE 10 rfl rfl (a8) rfl (dz ((au))) (?_)
  refine as_ 11 (q:=asn) (k:=as_ 12 (q:=asn) (k:=az_ (k:=gk (k:=rt_ Tryz.results86 (k:=?_)))))
  exact⟨_,hsb,by(cases ha:a.1 <;> simp_all [gF,w64]),rfl⟩
 replace h1:=nrm h1
 refine at2 3 (q:=fla) (k:=at2 4 (q:=ldv) (k:=as_ 5 (q:=pkf) (k:=as_ 6 (q:=fla) (k:=as_ 7 (q:=ldv) (k:=as_ 8 (q:=fla) (k:=as_ 9 (q:=ldv) (k:=?_)))))))
 refine cE 10 rfl rfl (a8) rfl (dz ((au))) (?_)
 refine as_ 11 (q:=asn) (k:=as_ 12 (q:=asn) (k:=az_ (k:=gk (k:=rt_ Tryz.results86 (k:=?_)))))
 exact⟨_,hsb,by(cases ha:a.1 <;> simp_all [gF,w64]),rfl⟩
theorem tF6 {G:cK}{H:cG}{a b:VV}:SC G Tryz.prog 88 [vvV a,vvV b] H (fun v H'=> v= .tuple #[.bool ((a.1 ||b.1,max a.2 b.2):VV).1, .int .u64 ((((a.1 ||b.1,max a.2 b.2):VV).2:Nat):Int)]∧H'=H):=by
 refine sWk Tryz.func88 Tryz.ntmps88 ?_
 refine gk (k:=bxx (k:=fun b2=>?_))
 refine bxx (k:=fun b3=>?_)
 refine go ?_
 refine cX cI (as_ 0 (q:=fla) (k:=as_ 1 (q:=ldv) (k:=?_)))
 refine gq 2 rfl rfl (a8) rfl (dz (mv)) (fun h1=> ?_) (fun h1=> ?_)
 ·replace h1:=nrm h1
  refine ao_ 3 (k:=ao_ 4 (k:=as_ 5 (q:=pkt) (k:=as_ 6 (q:=fla) (k:=as_ 7 (q:=ldv) (k:=as_ 8 (q:=fla) (k:=as_ 9 (q:=ldv) (k:=?_)))))))
  refine cE 10 rfl rfl (a8) rfl (dz (evq (mO rfl rfl) (congrArg (Value.int .u64) (show _=((max a.2 b.2:Nat):Int)from aa)))) (?_)
  refine as_ 11 (q:=asn) (k:=as_ 12 (q:=asn) (k:=az_ (k:=gk (k:=rt_ Tryz.results88 (k:=?_)))))
  exact⟨_,hsb,by(cases ha:a.1 <;> simp_all [gF,w64]),rfl⟩
 replace h1:=nrm h1
 refine at2 3 (q:=fla) (k:=at2 4 (q:=ldv) (k:=as_ 5 (q:=pkf) (k:=as_ 6 (q:=fla) (k:=as_ 7 (q:=ldv) (k:=as_ 8 (q:=fla) (k:=as_ 9 (q:=ldv) (k:=?_)))))))
 refine cE 10 rfl rfl (a8) rfl (dz (evq (mO rfl rfl) (congrArg (Value.int .u64) (show _=((max a.2 b.2:Nat):Int)from aa)))) (?_)
 refine as_ 11 (q:=asn) (k:=as_ 12 (q:=asn) (k:=az_ (k:=gk (k:=rt_ Tryz.results88 (k:=?_)))))
 exact⟨_,hsb,by(cases ha:a.1 <;> simp_all [gF,w64]),rfl⟩
theorem tF7 {G:cK}{H:cG}{a b:VV}:SC G Tryz.prog 90 [vvV a,vvV b] H (fun v H'=> v= .tuple #[.bool ((a.1,w64 (a.2+b.2)):VV).1, .int .u64 ((((a.1,w64 (a.2+b.2)):VV).2:Nat):Int)]∧H'=H):=by
 refine sWk Tryz.func90 Tryz.ntmps90 ?_
 refine gk (k:=bxx (k:=fun b2=>?_))
 refine bxx (k:=fun b3=>?_)
 refine go ?_
 refine cX cI (as_ 0 (q:=fla) (k:=as_ 1 (q:=ldv) (k:=as_ 2 (q:=fla) (k:=as_ 3 (q:=ldv) (k:=as_ 4 (q:=fla) (k:=as_ 5 (q:=ldv) (k:=?_)))))))
 refine cE 6 rfl rfl (a8) rfl (dz ((au))) (?_)
 refine as_ 7 (q:=asn) (k:=as_ 8 (q:=asn) (k:=az_ (k:=gk (k:=rt_ Tryz.results90 (k:=?_)))))
 exact⟨_,hsb,rfl,rfl⟩
theorem tF8 {G:cK}{H:cG}{a b:VV}:SC G Tryz.prog 92 [vvV a,vvV b] H (fun v H'=> v= .tuple #[.bool ((a.1 && !b.1,a.2):VV).1, .int .u64 ((((a.1 && !b.1,a.2):VV).2:Nat):Int)]∧H'=H):=by
 refine sWk Tryz.func92 Tryz.ntmps92 ?_
 refine gk (k:=bxx (k:=fun b2=>?_))
 refine bxx (k:=fun b3=>?_)
 refine go ?_
 refine cX cI (as_ 0 (q:=fla) (k:=as_ 1 (q:=ldv) (k:=?_)))
 refine gq 2 rfl rfl (a8) rfl (dz (mv)) (fun h1=> ?_) (fun h1=> ?_)
 ·replace h1:=nrm h1
  refine at2 3 (q:=fla) (k:=at2 4 (q:=ldv) (k:=at2 5 (q:=k8) (k:=as_ 6 (q:=pkt) (k:=as_ 7 (q:=fla) (k:=as_ 8 (q:=ldv) (k:=as_ 9 (q:=asn) (k:=as_ 10 (q:=asn) (k:=az_ (k:=gk (k:=rt_ Tryz.results92 (k:=?_)))))))))))
  exact⟨_,hsb,by(cases ha:a.1 <;> simp_all [gF,w64]),rfl⟩
 replace h1:=nrm h1
 refine ao_ 3 (k:=ao_ 4 (k:=ao_ 5 (k:=as_ 6 (q:=pkf) (k:=as_ 7 (q:=fla) (k:=as_ 8 (q:=ldv) (k:=as_ 9 (q:=asn) (k:=as_ 10 (q:=asn) (k:=az_ (k:=gk (k:=rt_ Tryz.results92 (k:=?_)))))))))))
 exact⟨_,hsb,by(cases ha:a.1 <;> simp_all [gF,w64]),rfl⟩
theorem EO {G:cK}{H R:cG}{m g:Nat}{x:MX}{y:MY}{f:VV→VV→VV} [hr:Rem H Mo m (x,y) R] (hf:∀(H:cG) (a b:VV),SC G Tryz.prog g [vvV a,vvV b] H (fun v H'=> v= .tuple #[.bool (f a b).1, .int .u64 (((f a b).2:Nat):Int)]∧H'=H)) (h2:2≤y.stk.length) (hl:y.stk.length≤1000000000):SC G Tryz.prog 83 [.pointer (some ⟨m,0,none⟩), .func (.func g) #[] #[]] H (fun v H'=> v= .tuple #[]∧H'=Mo m (x,{y with stk:=kh y.stk f})::R):=by
 have hd1:y.stk.dropLast.length=y.stk.length - 1:=List.length_dropLast
 have hd2:y.stk.dropLast.dropLast.length=y.stk.length - 2:=by rw[List.length_dropLast,hd1];omega
 refine sWk Tryz.func83 Tryz.ntmps83 ?_
 refine go ?_
 refine d1_ rfl (ET (aa) hl) (k:=alc (k:=fun b4=>?_))
 refine go ?_
 refine d1_ rfl (ET (y:={y with stk:=y.stk.dropLast}) (by show 0<y.stk.dropLast.length;omega) (by show y.stk.dropLast.length≤_;omega)) (k:=alc (k:=fun b5=>?_))
 refine go ?_
 refine s_ (nJ (fi:= []) (ca:= []) (vs:= [_,_]) rfl rfl (hf _ (fR y.stk.dropLast) (fR y.stk))) (k:=?_)
 rintro _ _ ⟨rfl,rfl⟩
 refine go ?_
 refine wi_ (k:=fun h1=>?_) (m:=fun h1=>?_)
 ·have ht:¬(f (fR y.stk.dropLast) (fR y.stk)).1=true:=by have h9:=h1;simpa using h9
  have hst:y.stk.dropLast.dropLast++ [((f (fR y.stk.dropLast) (fR y.stk)).1,0)]=kh y.stk f:=by rw[kh];simp only[if_neg ht]
  refine wr_ (e_ asn (k:=on_ (qn_ (wr_ (e_ mv (k:=e_ mv (k:=e_ mv (k:=e_ (bld [(0,_),(1,_)]) (k:=?_)))))))))
  refine d2_ rfl (nF (y:={y with stk:=y.stk.dropLast.dropLast}) (by show y.stk.dropLast.dropLast.length≤_;omega)) (k:=gk (k:=rt_ Tryz.results83 (k:=?_)))
  rw[←hst];exact⟨_,hsb,rfl,rfl⟩
 have ht:(f (fR y.stk.dropLast) (fR y.stk)).1=true:=bL
 have hst:y.stk.dropLast.dropLast++ [((f (fR y.stk.dropLast) (fR y.stk)).1,(f (fR y.stk.dropLast) (fR y.stk)).2)]=kh y.stk f:=by rw[kh];simp only[if_pos ht]
 refine wk_ (qn_ (wr_ (e_ mv (k:=e_ mv (k:=e_ mv (k:=e_ (bld [(0,_),(1,_)]) (k:=?_)))))))
 refine d2_ rfl (nF (y:={y with stk:=y.stk.dropLast.dropLast}) (by show y.stk.dropLast.dropLast.length≤_;omega)) (k:=gk (k:=rt_ Tryz.results83 (k:=?_)))
 rw[←hst];exact⟨_,hsb,rfl,rfl⟩
theorem KM {G:cK}{H R:cG}{m:Nat}{x:MX}{y:MY} [hr:Rem H Mo m (x,y) R] (h0:0<y.stk.length) (hl:y.stk.length≤1000000000):SC G Tryz.prog 100 [.pointer (some ⟨m,0,none⟩)] H (fun v H'=> v=vvV (fR y.stk)∧H'=Mo m (x,y)::R):=
 nN hr (fun s=> SC.out ((Ly (x:=x) (y:=y) (s:=s) h0 hl).mono (fun v H' h=> ⟨_,by rw[h.2];exact jB,h.1,rfl⟩)))
theorem tO1 {G:cK}{H:cG}{m op A B:Nat}:SC G Tryz.prog 75 [.pointer (some ⟨m,0,none⟩),nw op A B] H (fun v H'=> v= .tuple #[]∧H'=H):=by
 refine sWk Tryz.func75 Tryz.ntmps75 ?_
 refine gk (k:=bxx (k:=fun b3=>?_))
 refine gk (k:=rt_ Tryz.results75 (k:=?_))
 exact⟨_,hsb,rfl,rfl⟩
section
variable {G:cK}{H R:cG}{m op A B:Nat}{x:MX}{y:MY}
theorem tO2 [hr:Rem H Mo m (x,y) R] (hl:y.stk.length≤1000000000):SC G Tryz.prog 76 [.pointer (some ⟨m,0,none⟩),nw op A B] H (fun v H'=> v= .tuple #[]∧H'=Mo m (x,{y with stk:=y.stk++ [(false,0)]})::R):=by
 refine sWk Tryz.func76 Tryz.ntmps76 ?_
 refine gk (k:=bxx (k:=fun b3=>?_))
 refine on_ (qn_ (wr_ (e_ mv (k:=e_ (bld []) (k:=?_)))))
 refine d2_ rfl (nF (a:=false) (b:=0) hl) (k:=gk (k:=rt_ Tryz.results76 (k:=?_)))
 exact⟨_,hsb,rfl,rfl⟩
theorem tO3 [hr:Rem H Mo m (x,y) R] (hl:y.stk.length≤1000000000):SC G Tryz.prog 78 [.pointer (some ⟨m,0,none⟩),nw op A B] H (fun v H'=> v= .tuple #[]∧H'=Mo m (x,{y with stk:=y.stk++ [(true,262144)]})::R):=by
 refine sWk Tryz.func78 Tryz.ntmps78 ?_
 refine gk (k:=bxx (k:=fun b3=>?_))
 refine on_ (qn_ (wr_ (e_ mv (k:=e_ (bld [(0,_),(1,_)]) (k:=?_)))))
 refine d2_ rfl (nF (a:=true) (b:=262144) hl) (k:=gk (k:=rt_ Tryz.results78 (k:=?_)))
 exact⟨_,hsb,rfl,rfl⟩
theorem tO6 [hr:Rem H Mo m (x,y) R] (h2:2≤y.stk.length) (hl:y.stk.length≤1000000000):SC G Tryz.prog 82 [.pointer (some ⟨m,0,none⟩),nw op A B] H (fun v H'=> v= .tuple #[]∧H'=Mo m (x,{y with stk:=kh y.stk fun a b=> (a.1 && b.1,w64 (a.2+b.2))})::R):=by
 refine sWk Tryz.func82 Tryz.ntmps82 ?_
 refine gk (k:=bxx (k:=fun b3=>?_))
 refine go ?_
 refine d2_ rfl (EO (f:=fun a b=> (a.1 && b.1,w64 (a.2+b.2))) (fun H a b=> tF4) h2 hl) (k:=gk (k:=rt_ Tryz.results82 (k:=?_)))
 exact⟨_,hsb,rfl,rfl⟩
theorem tO7 [hr:Rem H Mo m (x,y) R] (h2:2≤y.stk.length) (hl:y.stk.length≤1000000000):SC G Tryz.prog 85 [.pointer (some ⟨m,0,none⟩),nw op A B] H (fun v H'=> v= .tuple #[]∧H'=Mo m (x,{y with stk:=kh y.stk fun a b=> (a.1 ||b.1,w64 (a.2+b.2))})::R):=by
 refine sWk Tryz.func85 Tryz.ntmps85 ?_
 refine gk (k:=bxx (k:=fun b3=>?_))
 refine go ?_
 refine d2_ rfl (EO (f:=fun a b=> (a.1 ||b.1,w64 (a.2+b.2))) (fun H a b=> tF5) h2 hl) (k:=gk (k:=rt_ Tryz.results85 (k:=?_)))
 exact⟨_,hsb,rfl,rfl⟩
theorem tO8 [hr:Rem H Mo m (x,y) R] (h2:2≤y.stk.length) (hl:y.stk.length≤1000000000):SC G Tryz.prog 87 [.pointer (some ⟨m,0,none⟩),nw op A B] H (fun v H'=> v= .tuple #[]∧H'=Mo m (x,{y with stk:=kh y.stk fun a b=> (a.1 ||b.1,max a.2 b.2)})::R):=by
 refine sWk Tryz.func87 Tryz.ntmps87 ?_
 refine gk (k:=bxx (k:=fun b3=>?_))
 refine go ?_
 refine d2_ rfl (EO (f:=fun a b=> (a.1 ||b.1,max a.2 b.2)) (fun H a b=> tF6) h2 hl) (k:=gk (k:=rt_ Tryz.results87 (k:=?_)))
 exact⟨_,hsb,rfl,rfl⟩
theorem tO9 [hr:Rem H Mo m (x,y) R] (h2:2≤y.stk.length) (hl:y.stk.length≤1000000000):SC G Tryz.prog 89 [.pointer (some ⟨m,0,none⟩),nw op A B] H (fun v H'=> v= .tuple #[]∧H'=Mo m (x,{y with stk:=kh y.stk fun a b=> (a.1,w64 (a.2+b.2))})::R):=by
 refine sWk Tryz.func89 Tryz.ntmps89 ?_
 refine gk (k:=bxx (k:=fun b3=>?_))
 refine go ?_
 refine d2_ rfl (EO (f:=fun a b=> (a.1,w64 (a.2+b.2))) (fun H a b=> tF7) h2 hl) (k:=gk (k:=rt_ Tryz.results89 (k:=?_)))
 exact⟨_,hsb,rfl,rfl⟩
theorem PW [hr:Rem H Mo m (x,y) R] (h2:2≤y.stk.length) (hl:y.stk.length≤1000000000):SC G Tryz.prog 91 [.pointer (some ⟨m,0,none⟩),nw op A B] H (fun v H'=> v= .tuple #[]∧H'=Mo m (x,{y with stk:=kh y.stk fun a b=> (a.1 && !b.1,a.2)})::R):=by
 refine sWk Tryz.func91 Tryz.ntmps91 ?_
 refine gk (k:=bxx (k:=fun b3=>?_))
 refine go ?_
 refine d2_ rfl (EO (f:=fun a b=> (a.1 && !b.1,a.2)) (fun H a b=> tF8) h2 hl) (k:=gk (k:=rt_ Tryz.results91 (k:=?_)))
 exact⟨_,hsb,rfl,rfl⟩
theorem PV [hr:Rem H Mo m (x,y) R] (h0:0<y.stk.length) (hl:y.stk.length≤1000000000):SC G Tryz.prog 93 [.pointer (some ⟨m,0,none⟩),nw op A B] H (fun v H'=> v= .tuple #[]∧H'=Mo m (x,{y with stk:=nu y.stk fun a=> (!a.1,0)})::R):=by
 have hdl:y.stk.dropLast.length≤1000000000:=by rw[List.length_dropLast];omega
 refine sWk Tryz.func93 Tryz.ntmps93 ?_
 refine gk (k:=bxx (k:=fun b3=>?_))
 refine go ?_
 refine d1_ rfl (ET h0 hl) (k:=?_)
 refine e_ (gA (ft:=4) (off:=0) Tryz.underlying171 rfl rfl rfl) (k:=?_)
 refine e_ k8 (k:=e_ (bld [(0,_),(1,_)]) (k:=?_))
 refine d2_ rfl (nF (y:={y with stk:=y.stk.dropLast}) (b:=0) hdl) (k:=gk (k:=rt_ Tryz.results93 (k:=?_)))
 rw[←show y.stk.dropLast++ [(!(fR y.stk).1,0)]=nu y.stk (fun a=> (!a.1,0))from rfl];exact⟨_,hsb,rfl,rfl⟩
theorem PU [hr:Rem H Mo m (x,y) R] (h0:0<y.stk.length) (hl:y.stk.length≤1000000000):SC G Tryz.prog 95 [.pointer (some ⟨m,0,none⟩),nw op A B] H (fun v H'=> v= .tuple #[]∧H'=Mo m (x,{y with stk:=nu y.stk fun a=> (a.1,w64 (a.2*A))})::R):=by
 have hdl:y.stk.dropLast.length≤1000000000:=by rw[List.length_dropLast];omega
 refine sWk Tryz.func95 Tryz.ntmps95 ?_
 refine gk (k:=bxx (k:=fun b3=>?_))
 refine go ?_
 refine d1_ rfl (ET h0 hl) (k:=alc (k:=fun b4=>?_))
 refine sto (k:=on_ (qn_ (wr_ (e_ mv (k:=e_ fla (k:=e_ ldv (k:=e_ fla (k:=e_ ldv (k:=e_ fla (k:=e_ ldv (k:=?_)))))))))))
 refine e_ (sD 18446744073709551616 rfl rfl rfl rfl _ _ rfl rfl) (k:=?_)
 refine e_ (bld [(0,_),(1,_)]) (k:=?_)
 refine d2_ rfl (nF (y:={y with stk:=y.stk.dropLast}) (b:=w64 ((fR y.stk).2*A)) hdl) (k:=gk (k:=rt_ Tryz.results95 (k:=?_)))
 rw[←show y.stk.dropLast++ [((fR y.stk).1,w64 ((fR y.stk).2*A))]=nu y.stk (fun a=> (a.1,w64 (a.2*A)))from rfl];exact⟨_,hsb,rfl,rfl⟩
theorem PT [hr:Rem H Mo m (x,y) R] (h0:0<y.stk.length) (hl:y.stk.length≤1000000000) (hA:A≤1000000000) (hp:y.pc≤1000000000):SC G Tryz.prog 98 [.pointer (some ⟨m,0,none⟩),nw op A B] H (fun v H'=> v= .tuple #[]∧H'=Mo m (x,{y with pc:=if(fR y.stk).1=true then y.pc else y.pc+A})::R):=by
 refine sWk Tryz.func98 Tryz.ntmps98 ?_
 refine gk (k:=bxx (k:=fun b3=>?_))
 refine go ?_
 refine df cI (fun i=> [2,6].contains i) (fun k H=> (k=5→cQ H b3 [.int .i64 ((op:Nat):Int), .int .u64 ((A:Nat):Int), .int .u64 ((B:Nat):Int)])) (af_ 0 (q:=cD fun H hH=>mv) (k:=af_ 1 (q:=cD fun H hH=>mv) (k:=?_)))
 refine cE 5 rfl rfl (a8) rfl (cD fun H hH=>cw) (?_)
 refine cN 2 rfl (a8) rfl (fun k hk=> fun hi=> ab) (cW (vs:= [_]) rfl (KM h0 hl)) ?_
 rintro _ _ ⟨rfl,rfl⟩
 refine cE 3 rfl rfl (a8) rfl (cD fun H hH=>gA (ft:=4) (off:=0) Tryz.underlying171 rfl rfl rfl) (?_)
 refine af_ 4 (q:=cD fun H hH=>k8) (k:=?_)
 refine cN 6 rfl (a8) rfl (fun k hk=> fun hi=> ab) (cW (vs:= [_,_,_]) rfl (KN hA hp)) ?_
 rintro _ _ ⟨rfl,rfl⟩
 refine db (a8) (fun k hk=> fun hi=> absurd hk (ad)) (rt_ Tryz.results98 (k:=?_))
 have hst:(if(!(fR y.stk).1)=true then y.pc+A else y.pc)=(if(fR y.stk).1=true then y.pc else y.pc+A):=by cases(fR y.stk).1 <;> rfl
 rw[←hst];exact⟨_,hsb,rfl,rfl⟩
theorem PS [hr:Rem H Mo m (x,y) R] (h0:0<y.stk.length) (hl:y.stk.length≤1000000000) (hA:A≤1000000000) (hp:y.pc≤1000000000):SC G Tryz.prog 101 [.pointer (some ⟨m,0,none⟩),nw op A B] H (fun v H'=> v= .tuple #[]∧H'=Mo m (x,{y with pc:=if(fR y.stk).1=true then y.pc+A else y.pc})::R):=by
 refine sWk Tryz.func101 Tryz.ntmps101 ?_
 refine gk (k:=bxx (k:=fun b3=>?_))
 refine go ?_
 refine df cI (fun i=> [2,5].contains i) (fun k H=> (k=4→cQ H b3 [.int .i64 ((op:Nat):Int), .int .u64 ((A:Nat):Int), .int .u64 ((B:Nat):Int)])) (af_ 0 (q:=cD fun H hH=>mv) (k:=af_ 1 (q:=cD fun H hH=>mv) (k:=?_)))
 refine cE 4 rfl rfl (a8) rfl (cD fun H hH=>cw) (?_)
 refine cN 2 rfl (a8) rfl (fun k hk=> fun hi=> ab) (cW (vs:= [_]) rfl (KM h0 hl)) ?_
 rintro _ _ ⟨rfl,rfl⟩
 refine cE 3 rfl rfl (a8) rfl (cD fun H hH=>gA (ft:=4) (off:=0) Tryz.underlying171 rfl rfl rfl) (?_)
 refine cN 5 rfl (a8) rfl (fun k hk=> fun hi=> ab) (cW (vs:= [_,_,_]) rfl (KN hA hp)) ?_
 rintro _ _ ⟨rfl,rfl⟩
 refine db (a8) (fun k hk=> fun hi=> absurd hk (ad)) (rt_ Tryz.results101 (k:=?_))
 exact⟨_,hsb,rfl,rfl⟩
end
def cS (p:PrG) (q:PtD) (ins:List Ins):Cfg:=⟨ins,p,(List.range q.fs.length).map (dP q.fs q.ds),q.ds.map (·.1),oG q.dw⟩
theorem Gi {q:PtD}{f d:Nat}(hf:f<q.fs.length):tN ((List.range q.fs.length).map (dP q.fs q.ds)) f d=(dP q.fs q.ds f).getD d 0:=by
 rw[tN,List.getD_eq_getElem?_getD (l:=List.map _ _),Xd,List.getElem?_range hf];all_goals rfl
theorem uZ {G:cK}{H R:cG}{b:Nat}{c:CuS} [hr:Rem H CuH b c R]:SC G Tryz.prog 117 [.pointer (some ⟨b,0,none⟩)] H (fun v H'=> v= .int .i64 (gJ c.ps c.u)∧H'=CuH b c::R):=
 ⟨(KX (G:=G) (H:= [Vr b [.int .i64 0]]) (b:=b) (d:=0) (l:= [])).enter,fun w hw=> by
   obtain⟨x,hx,hs⟩:=wm hr hw
   exact(SC.out ((KX (G:=G) (b:=b)).mono (fun v H' h=> ⟨_,by rw[h.2];exact m6 hx,h.1,rfl⟩))).call w hs⟩
section
variable {G:cK}{H R R2:cG}{m op A B b d:Nat}{x:MX}{y:MY}{p:PrG}{q:PtD}{c:CuS}{ins:List Ins}{s:SV}
theorem O0 [hr:Rem H Mo m (x,y) R] [hp:dq R x.pt q] (hpl:y.pl=((d:Nat):Int)) (hA:A<q.fs.length) (hq:Bj q) (hd:d<q.ds.length) (hl:y.stk.length≤1000000000):SC G Tryz.prog 79 [.pointer (some ⟨m,0,none⟩),nw op A B] H (fun v H'=> v= .tuple #[]∧H'=Mo m (x,{y with stk:=y.stk++ [if 0<tN (cS p q ins).lens A d then(true,262144)else(false,0)]})::R):=by
 have hqf:=hq.f
 have hla:tN (cS p q ins).lens A d=(dP q.fs q.ds A).getD d 0:=Gi hA
 rw[hla]
 refine nN hr (fun s=> ?_)
 refine sWk Tryz.func79 Tryz.ntmps79 ?_
 refine gk (k:=bxx (k:=fun b3=>?_))
 refine go ?_
 refine df cI (fun i=> [14].contains i) (fun k H=> (k=3→cQ H m (mV x s y))∧(k=6→cQ H x.pt.p [.pointer (some ⟨x.pt.g,0,none⟩), .pointer (some ⟨x.pt.d,0,none⟩)])∧(k=8→cQ H b3 [.int .i64 ((op:Nat):Int), .int .u64 ((A:Nat):Int), .int .u64 ((B:Nat):Int)])∧(k=13→cQ H m (mV x s y))) (af_ 0 (q:=cD fun H hH=>mv) (k:=af_ 1 (q:=cD fun H hH=>nck) (k:=af_ 2 (q:=cD fun H hH=>fla) (k:=?_))))
 refine cE 3 rfl rfl (a8) rfl (cD fun H hH=>ak) (?_)
 refine af_ 4 (q:=cD fun H hH=>nck) (k:=af_ 5 (q:=cD fun H hH=>fla) (k:=?_))
 refine cE 6 rfl rfl (a8) rfl (cD fun H hH=>ar) (?_)
 refine af_ 7 (q:=cD fun H hH=>fla) (k:=?_)
 refine cE 8 rfl rfl (a8) rfl (cD fun H hH=>aF) (?_)
 refine cE 9 rfl rfl (a8) rfl (cD fun H hH=>dy rfl (aa)) (?_)
 refine af_ 10 (q:=cD fun H hH=>mv) (k:=af_ 11 (q:=cD fun H hH=>nck) (k:=af_ 12 (q:=cD fun H hH=>fla) (k:=?_)))
 refine cE 13 rfl rfl (a8) rfl (cD fun H hH=>by have hN:=hH.2.2.2 rfl;exact evq ldv (congrArg (Value.int .i64) hpl)) (?_)
 refine cN 14 rfl (a8) rfl (fun k hk=> ⟨fun hi=> ab,fun hi=> ab,fun hi=> ab,fun hi=> ab⟩) (cW (vs:= [_,_,_]) rfl (KT (a:=x.pt) hA hd)) ?_
 rintro _ _ ⟨rfl,rfl⟩
 refine af_ 15 (q:=cD fun H hH=>igt) (k:=db (a8) (fun k hk=> ⟨fun hi=> ab,fun hi=> absurd hk (ad),fun hi=> ab,fun hi=> absurd hk (ad)⟩) (gk (k:=wi_ (k:=fun h1=>?_) (m:=fun h1=>?_))))
 ·have hv:0<(dP q.fs q.ds A).getD d 0:=by have h9:=h1;omega
  refine wr_ (?_)
  refine du (H':=Mo m (x,y)::R) (cJ.trans (H':=Vr m (mV x s y)::Row s eVV y.stk::R) (hsb) jB) ?_
  refine e_ mv (k:=e_ (bld [(0,_),(1,_)]) (k:=?_))
  refine d2_ rfl (nF (a:=true) (b:=262144) hl) (k:=gk (k:=rt_ Tryz.results79 (k:=?_)))
  rw[if_pos hv];exact⟨_,hsb,rfl,rfl⟩
 have hv:¬0<(dP q.fs q.ds A).getD d 0:=az
 refine wr_ (?_)
 refine du (H':=Mo m (x,y)::R) (cJ.trans (H':=Vr m (mV x s y)::Row s eVV y.stk::R) (hsb) jB) ?_
 refine e_ mv (k:=e_ (bld []) (k:=?_))
 refine d2_ rfl (nF (a:=false) (b:=0) hl) (k:=gk (k:=rt_ Tryz.results79 (k:=?_)))
 rw[if_neg hv];exact⟨_,hsb,rfl,rfl⟩
theorem Bu [hg:Glb G R] [hm:cQ R m (mV x s y)] [hc:Rem H CuH b c R] (hpl:y.pl=((d:Nat):Int)) (hc0:iK c):SC G Tryz.prog 130 [.pointer (some ⟨m,0,none⟩), .pointer (some ⟨b,0,none⟩)] H (fun v H'=> v= .bool (AD d (ei d c))∧H'=CuH b (ei d c)::R):=by
 refine SC.less (cJ.rem hc cJ.refl) ?_
 refine sWk Tryz.func130 Tryz.ntmps130 ?_
 refine go ?_
 refine df cI (fun i=> [3].contains i) (fun k H=> (k=7→cQ H m (mV x s y))) (af_ 0 (q:=cD fun H hH=>mv) (k:=af_ 1 (q:=cD fun H hH=>nck) (k:=af_ 2 (q:=cD fun H hH=>fla) (k:=af_ 4 (q:=cD fun H hH=>mv) (k:=af_ 5 (q:=cD fun H hH=>nck) (k:=af_ 6 (q:=cD fun H hH=>fla) (k:=?_)))))))
 refine cE 7 rfl rfl (a8) rfl (cD fun H hH=>bF) (?_)
 refine cN 3 rfl (a8) rfl (fun k hk=> fun hi=> ab) (cW (vs:= [_]) rfl (uZ (c:=c))) ?_
 rintro _ _ ⟨rfl,rfl⟩
 refine af_ 8 (q:=cD fun H hH=>ilt) (k:=db (a8) (fun k hk=> fun hi=> ab) (gk (k:=wi_ (k:=fun h1=>?_) (m:=fun h1=>?_))))
 ·have hlt:gJ c.ps c.u<((d:Nat):Int):=h1
  have hst:ei d c=jE c d:=by rw[ei,if_pos hlt]
  rw[hst]
  refine wr_ (e_ mv (k:=e_ mv (k:=e_ nck (k:=e_ fla (k:=?_)))))
  refine e_ (evq ldv (congrArg (Value.int .i64) hpl)) (k:=?_)
  refine d2_ rfl (O8 hc0) (k:=go ?_)
  refine df cI (fun i=> [3].contains i) (fun k H=> (k=7→cQ H m (mV x s y))) (af_ 0 (q:=cD fun H hH=>mv) (k:=af_ 1 (q:=cD fun H hH=>nck) (k:=af_ 2 (q:=cD fun H hH=>fla) (k:=af_ 4 (q:=cD fun H hH=>mv) (k:=af_ 5 (q:=cD fun H hH=>nck) (k:=af_ 6 (q:=cD fun H hH=>fla) (k:=?_)))))))
  refine cE 7 rfl rfl (a8) rfl (cD fun H hH=>bF) (?_)
  refine cN 3 rfl (a8) rfl (fun k hk=> fun hi=> ab) (cW (vs:= [_]) rfl (uZ)) ?_
  rintro _ _ ⟨rfl,rfl⟩
  refine af_ 8 (q:=cD fun H hH=>ieq) (k:=af_ 9 (q:=cD fun H hH=>asn) (k:=db (a8) (fun k hk=> fun hi=> ab) (gk (k:=rt_ Tryz.results130 (k:=?_)))))
  exact⟨_,hsb,rfl,rfl⟩
 have hlt:¬gJ c.ps c.u<((d:Nat):Int):=h1
 have hst:ei d c=c:=by rw[ei,if_neg hlt]
 rw[hst]
 refine go ?_
 refine df cI (fun i=> [3].contains i) (fun k H=> (k=7→cQ H m (mV x s y))) (af_ 0 (q:=cD fun H hH=>mv) (k:=af_ 1 (q:=cD fun H hH=>nck) (k:=af_ 2 (q:=cD fun H hH=>fla) (k:=af_ 4 (q:=cD fun H hH=>mv) (k:=af_ 5 (q:=cD fun H hH=>nck) (k:=af_ 6 (q:=cD fun H hH=>fla) (k:=?_)))))))
 refine cE 7 rfl rfl (a8) rfl (cD fun H hH=>bF) (?_)
 refine cN 3 rfl (a8) rfl (fun k hk=> fun hi=> ab) (cW (vs:= [_]) rfl (uZ)) ?_
 rintro _ _ ⟨rfl,rfl⟩
 refine af_ 8 (q:=cD fun H hH=>ieq) (k:=af_ 9 (q:=cD fun H hH=>asn) (k:=db (a8) (fun k hk=> fun hi=> ab) (gk (k:=rt_ Tryz.results130 (k:=?_)))))
 exact⟨_,hsb,rfl,rfl⟩
theorem Bx [hr:cQ H m (mV x s y)] [hp:dq H x.pt q] [hpr:gE H x.pa p] {w f k:Nat}(hpl:y.pl=((d:Nat):Int)) (hk:k<q.fs.length) (hk2:k<p.avgs.length) (hd:d<q.ds.length) (ha:∀a∈p.avgs,0≤a) (hw:w<18446744073709551616):SC G Tryz.prog 131 [.pointer (some ⟨m,0,none⟩), .int .u64 ((w:Nat):Int), .int .i64 ((f:Nat):Int), .int .i64 ((k:Nat):Int)] H (fun v H'=> v=vvV (tr (cS p q ins) d w f ((k:Nat):Int))∧H'=H):=by
 obtain⟨av,hav⟩:∃a,p.avgs[k]? =some a:=⟨_,Yi (aa)⟩
 have hgd:p.avgs.getD k 0=av:=by rw[List.getD_eq_getElem?_getD,hav];all_goals rfl
 refine sWk Tryz.func131 Tryz.ntmps131 ?_
 refine gk (k:=alc (k:=fun b8=>?_))
 refine go ?_
 refine df cI (fun i=> [14,23,26].contains i) (fun k H=> (k=5→cQ H m (mV x s y))∧(k=8→cQ H x.pt.p [.pointer (some ⟨x.pt.g,0,none⟩), .pointer (some ⟨x.pt.d,0,none⟩)])∧(k=13→cQ H m (mV x s y))∧(k=19→cQ H m (mV x s y))∧(k=21→Sl H x.pa.av eI p.avgs)∧(k=22→Sl H x.pa.av eI p.avgs)) (af_ 0 (q:=cD fun H hH=>mv) (k:=af_ 1 (q:=cD fun H hH=>mv) (k:=af_ 2 (q:=cD fun H hH=>mv) (k:=af_ 3 (q:=cD fun H hH=>nck) (k:=af_ 4 (q:=cD fun H hH=>fla) (k:=?_))))))
 refine cE 5 rfl rfl (a8) rfl (cD fun H hH=>ak) (?_)
 refine af_ 6 (q:=cD fun H hH=>nck) (k:=af_ 7 (q:=cD fun H hH=>fla) (k:=?_))
 refine cE 8 rfl rfl (a8) rfl (cD fun H hH=>ar) (?_)
 refine af_ 9 (q:=cD fun H hH=>mv) (k:=af_ 10 (q:=cD fun H hH=>mv) (k:=af_ 11 (q:=cD fun H hH=>nck) (k:=af_ 12 (q:=cD fun H hH=>fla) (k:=?_))))
 refine cE 13 rfl rfl (a8) rfl (cD fun H hH=>by have hN:=hH.2.2.1 rfl;exact evq ldv (congrArg (Value.int .i64) hpl)) (?_)
 refine af_ 15 (q:=cD fun H hH=>mv) (k:=af_ 16 (q:=cD fun H hH=>nck) (k:=af_ 17 (q:=cD fun H hH=>fla) (k:=af_ 18 (q:=cD fun H hH=>fla) (k:=?_))))
 refine cE 19 rfl rfl (a8) rfl (cD fun H hH=>by have hN:=hH.2.2.2.1 rfl;exact ldv) (?_)
 refine af_ 20 (q:=cD fun H hH=>mv) (k:=?_)
 refine cE 21 rfl rfl (a8) rfl (cD fun H hH=>by have hN:=hH.2.2.2.2.1 rfl;exact ixa) (?_)
 refine cE 22 rfl rfl (a8) rfl (cD fun H hH=>by have hN:=hH.2.2.2.2.2 rfl;exact lel (hy:=hav)) (?_)
 refine cN 14 rfl (a8) rfl (fun k hk=> ⟨fun hi=> ab,fun hi=> ab,fun hi=> ab,fun hi=> ab,fun hi=> ab,fun hi=> ab⟩) (cW (vs:= [_,_,_]) rfl (KT (a:=x.pt) hk hd)) ?_
 rintro _ _ ⟨rfl,rfl⟩
 refine cN 23 rfl (a8) rfl (fun k hk=> ⟨fun hi=> ab,fun hi=> absurd hk (ad),fun hi=> absurd hk (ad),fun hi=> ab,fun hi=> ab,fun hi=> ab⟩) (cW (vs:= [_,_,_]) rfl (PO)) ?_
 rintro _ _ ⟨rfl,rfl⟩
 refine cE 24 rfl rfl (a8) rfl (cD fun H hH=>sD 18446744073709551616 rfl rfl rfl rfl w (Jc f ((dP q.fs q.ds k).getD d 0) av.toNat) rfl (an)) (?_)
 refine af_ 25 (q:=cD fun H hH=>bld [(0,_),(1,_)]) (k:=?_)
 refine cN 26 rfl (a8) rfl (fun k hk=> ⟨fun hi=> ab,fun hi=> absurd hk (ad),fun hi=> absurd hk (ad),fun hi=> ab,fun hi=> ab,fun hi=> absurd hk (ad)⟩) (dM rfl rfl rfl) ?_
 rintro _ _ ⟨rfl,rfl⟩
 refine db (a8) (fun k hk=> ⟨fun hi=> absurd hk (ad),fun hi=> absurd hk (ad),fun hi=> absurd hk (ad),fun hi=> absurd hk (ad),fun hi=> absurd hk (ad),fun hi=> absurd hk (ad)⟩) (gk (k:=rt_ Tryz.results131 (k:=?_)))
 exact⟨_,hsb,by rw[tr,Int.toNat_natCast];show _=vvV (true,w64 (w*Jc f (tN ((List.range q.fs.length).map (dP q.fs q.ds)) k d) (p.avgs.getD k 0).toNat));rw[Gi hk,hgd];all_goals rfl,rfl⟩
end
def cuZ (z:Nat×CuS):cG:= [CuH z.1 z.2]
theorem qm {l:List (Nat×CuS)}{i b:Nat}{c:CuS}{H:cG}(h:l[i]? =some (b,c)):cJ (Cl cuZ l::H) (CuH b c::Cl cuZ (l.take i)::Cl cuZ (l.drop (i+1))::H):=mY (f:=cuZ) h
theorem jD {l:List (Nat×CuS)}{i b:Nat}{c:CuS}{H:cG}(hi:i<l.length):cJ (CuH b c::Cl cuZ (l.take i)::Cl cuZ (l.drop (i+1))::H) (Cl cuZ (l.set i (b,c))::H):=qo (f:=cuZ) (b,c) hi
theorem lB {bs:List Nat}{cs:List CuS}{i b:Nat}{c:CuS}(h1:bs[i]? =some b) (h2:cs[i]? =some c):(bs.zip cs)[i]? =some (b,c):=by rw[List.getElem?_zip_eq_some];exact⟨h1,h2⟩
theorem jy {bs:List Nat}{cs:List CuS}{i b:Nat}{c:CuS}(h1:bs[i]? =some b):(bs.zip cs).set i (b,c)=bs.zip (cs.set i c):=by
 apply List.ext_getElem?
 intro j
 rw[List.getElem?_set]
 by_cases hij:i=j
 ·subst hij
  rw[if_pos rfl]
  by_cases hl:i<cs.length
  ·rw[if_pos (by rw[List.length_zip];have:=(Yk.1 h1).1;omega),lB h1 (List.getElem?_set_self hl)]
  ·rw[if_neg (by rw[List.length_zip];omega),List.getElem?_eq_none (by rw[List.length_zip,List.length_set];omega)]
 ·rw[if_neg hij]
  simp only[List.zip,List.getElem?_zipWith,List.getElem?_set,if_neg hij]
class MoP (H:cG) (m:Nat) (x:MX):Prop where
 out:∀(G:cK) (w:World),Sat G w H→∃(s:SV) (y:MY) (R:cG),Sat G w (Vr m (mV x s y)::R)
instance MoP.ofMo {H R:cG}{m:Nat}{x:MX}{y:MY} [hr:Rem H Mo m (x,y) R]:MoP H m x:=⟨fun G w hw=> let ⟨s,hs⟩:=mo (K:=Mo) rfl hr hw;⟨s,y,_,hs⟩⟩
instance MoP.ofVr {H R:cG}{m:Nat}{x:MX}{y:MY}{s:SV} [hr:Rem H Vr m (mV x s y) R]:MoP H m x:=⟨fun G w hw=> ⟨s,y,R,hr.sat hw⟩⟩
theorem B0 {G:cK}{P:Program}{t:Tm}{H:cG}{o:Oper}{v:Value}{x:MX}(m:Nat) [h:MoP H m x] (hk:∀(s:SV) (y:MY) (R:cG),Ev G P o t (Vr m (mV x s y)::R) v):Ev G P o t H v:=fun ρ hρ w hw=> by
 obtain⟨s,y,R,hs⟩:=h.out G w hw
 exact hk s y R ρ hρ w hs
section
variable {G:cK}{H R R1 R2:cG}{m op A B b d:Nat}{x:MX}{y:MY}{p:PrG}{q:PtD}{c:CuS}{ins:List Ins}{s:SV}{cs:List CuS}
theorem oX {a:Bool}{v:Nat} [h1:Rem H Vr m (mV x s y) R1] [h2:na R1 s eVV y.stk R] (hl:y.stk.length≤1000000000):SC G Tryz.prog 77 [.pointer (some ⟨m,0,none⟩), .agg [.bool a, .int .u64 ((v:Nat):Int)].toArray] H (fun v' H'=> v'= .tuple #[]∧H'=Mo m (x,{y with stk:=y.stk++ [(a,v)]})::R):=
 SC.less ((cJ.rem h1 (gB h2 cJ.refl).keep).trans jB) (nF (x:=x) (y:=y) hl)
structure MOk (x:MX) (p:PrG) (q:PtD) (cs:List CuS):Prop where
 cl:x.cs.length=cs.length
 ok:∀c∈cs,iK c
 cu:p.curs.length=cs.length
 fd:∀c∈p.curs,0≤c.1∧c.1<((q.fs.length:Nat):Int)
 av:p.avgs.length=q.fs.length
 ap:∀a∈p.avgs,0≤a
 n:cs.length≤100000000
theorem Lz [hr:Rem H Mo m (x,y) R] [hc:Rem R Cl cuZ (x.cs.zip cs) R2] [hsc:Sl R2 x.cu ePt (x.cs.map fun b=> (b,0))] [hg:Glb G R2] [hpt:dq R2 x.pt q] [hpr:gE R2 x.pa p] (hk:MOk x p q cs) (hpl:y.pl=((d:Nat):Int)) (hA:A<cs.length) (hB:B<18446744073709551616) (hd:d<q.ds.length) (hl:y.stk.length≤1000000000):
 SC G Tryz.prog 80 [.pointer (some ⟨m,0,none⟩),nw op A B] H (fun v H'=> v= .tuple #[]∧H'=Mo m (x,{y with stk:=y.stk++ [(uW (cS p q ins) d A B cs).1]})::Cl cuZ (x.cs.zip (uW (cS p q ins) d A B cs).2)::R2):=by
 have hcl:=hk.cl
 have hcn:=hk.n
 have hcu:=hk.cu
 have hav:=hk.av
 obtain⟨b,hb⟩:∃b,x.cs[A]? =some b:=⟨_,Yi (aa)⟩
 obtain⟨c,hcA⟩:∃c,cs[A]? =some c:=⟨_,Yi hA⟩
 obtain⟨⟨fd,ky⟩,hfk⟩:∃z,p.curs[A]? =some z:=⟨_,Yi (aa)⟩
 obtain⟨hf1,hf2⟩:=hk.fd _ (Yj hfk)
 simp only at hf1 hf2
 obtain⟨fn,rfl⟩:∃n:Nat,fd=((n:Nat):Int):=⟨fd.toNat,aa⟩
 have hbp:(x.cs.map fun b=> (b,0))[A]? =some ((b,0):Nat×Nat):=by rw[Xd,hb];all_goals rfl
 have hgd:cs.getD A m5=c:=by rw[List.getD_eq_getElem?_getD,hcA];all_goals rfl
 have hcok:=hk.ok c (Yj hcA)
 have hz:=lB hb hcA
 have hzl:=(Yk.1 hz).1
 have hfo:ou (cS p q ins) A=((fn:Nat):Int):=by rw[ou];show(match p.curs[A]? with|some x=> x.1|none=> 0)=_;rw[hfk]
 have hlm:(x.cs.map fun b=> ((b,0):Nat×Nat)).length=cs.length:=by rw[Yh,hcl]
 rw[uW,hgd,hfo]
 refine SC.less (cJ.rem hr (cJ.rem hc cJ.refl).keep) ?_
 refine nN (m:=m) (x:=x) (y:=y) (R:=Cl cuZ (x.cs.zip cs)::R2) inferInstance (fun s=> ?_)
 refine sWk Tryz.func80 Tryz.ntmps80 ?_
 refine gk (k:=bxx (k:=fun b3=>?_))
 refine go ?_
 refine df cI (fun i=> [].contains i) (fun k H=> (k=3→cQ H m (mV x s y))∧(k=5→cQ H b3 [.int .i64 ((op:Nat):Int), .int .u64 ((A:Nat):Int), .int .u64 ((B:Nat):Int)])∧(k=6→Sl H x.cu ePt (x.cs.map fun b=> (b,0)))∧(k=7→Sl H x.cu ePt (x.cs.map fun b=> (b,0)))) (af_ 0 (q:=cD fun H hH=>mv) (k:=af_ 1 (q:=cD fun H hH=>nck) (k:=af_ 2 (q:=cD fun H hH=>fla) (k:=?_))))
 refine cE 3 rfl rfl (a8) rfl (cD fun H hH=>ak) (?_)
 refine af_ 4 (q:=cD fun H hH=>fla) (k:=?_)
 refine cE 5 rfl rfl (a8) rfl (cD fun H hH=>ar) (?_)
 refine cE 6 rfl rfl (a8) rfl (cD fun H hH=>aV) (?_)
 refine cE 7 rfl rfl (a8) rfl (cD fun H hH=>by have hN:=hH.2.2.2 rfl;exact lel (hy:=hbp)) (?_)
 refine af_ 8 (q:=cD fun H hH=>asn) (k:=db (a8) (fun k hk=> ⟨fun hi=> ab,fun hi=> ab,fun hi=> ab,fun hi=> ab⟩) (go ?_))
 refine du (H':=CuH b c::Cl cuZ ((x.cs.zip cs).take A)::Cl cuZ ((x.cs.zip cs).drop (A+1))::Vr b3 [.int .i64 ((op:Nat):Int), .int .u64 ((A:Nat):Int), .int .u64 ((B:Nat):Int)]::Vr m (mV x s y)::Row s eVV y.stk::R2) (cJ.trans (H':=Cl cuZ (x.cs.zip cs)::Vr b3 [.int .i64 ((op:Nat):Int), .int .u64 ((A:Nat):Int), .int .u64 ((B:Nat):Int)]::Vr m (mV x s y)::Row s eVV y.stk::R2) (hsb) (qm hz)) ?_
 refine go ?_
 refine d2_ rfl (Bu (x:=x) (y:=y) (s:=s) (c:=c) (d:=d) hpl hcok) (k:=gk (k:=wi_ (k:=fun h1=>?_) (m:=fun h1=>?_)))
 ·have hat:¬AD d (ei d c)=true:=by have h9:=h1;simpa using h9
  rw[if_neg hat]
  refine ws_ (wr_ (e_ mv (k:=e_ (bld []) (k:=?_))))
  refine d2_ rfl (oX (x:=x) (y:=y) (s:=s) (a:=false) (v:=0) hl) (k:=gk (k:=rt_ Tryz.results80 (k:=?_)))
  dsimp only;rw[←jy hb];exact⟨_,cJ.trans (H':=CuH b (ei d c)::Cl cuZ ((x.cs.zip cs).take A)::Cl cuZ ((x.cs.zip cs).drop (A+1))::Mo m (x,{y with stk:=y.stk++ [(false,0)]})::R2) (hsb) ((jD hzl).trans (hsb)),rfl,rfl⟩
 have hat:AD d (ei d c)=true:=bL
 rw[if_pos hat]
 refine go ?_
 refine df cI (fun i=> [5,16,17].contains i) (fun k H=> (k=3→cQ H b3 [.int .i64 ((op:Nat):Int), .int .u64 ((A:Nat):Int), .int .u64 ((B:Nat):Int)])∧(k=10→MoP H m x)∧(k=12→cQ H b3 [.int .i64 ((op:Nat):Int), .int .u64 ((A:Nat):Int), .int .u64 ((B:Nat):Int)])∧(k=13→Sl H x.pa.cu eLf p.curs)∧(k=14→Sl H x.pa.cu eLf p.curs)∧(k=15→Sl H x.pa.cu eLf p.curs)) (af_ 0 (q:=cD fun H hH=>mv) (k:=af_ 1 (q:=cD fun H hH=>mv) (k:=af_ 2 (q:=cD fun H hH=>fla) (k:=?_))))
 refine cE 3 rfl rfl (a8) rfl (cD fun H hH=>ak) (?_)
 refine af_ 4 (q:=cD fun H hH=>mv) (k:=af_ 6 (q:=cD fun H hH=>mv) (k:=af_ 7 (q:=cD fun H hH=>nck) (k:=af_ 8 (q:=cD fun H hH=>fla) (k:=af_ 9 (q:=cD fun H hH=>fla) (k:=?_)))))
 refine cE 10 rfl rfl (a8) rfl (cD fun H hH=>by have hN:=hH.2.1 rfl;exact B0 (x:=x) m fun s y R=> ldv) (?_)
 refine af_ 11 (q:=cD fun H hH=>fla) (k:=?_)
 refine cE 12 rfl rfl (a8) rfl (cD fun H hH=>aF) (?_)
 refine cE 13 rfl rfl (a8) rfl (cD fun H hH=>bV) (?_)
 refine cE 14 rfl rfl (a8) rfl (cD fun H hH=>by have hN:=hH.2.2.2.2.1 rfl;exact fle) (?_)
 refine cE 15 rfl rfl (a8) rfl (cD fun H hH=>by have hN:=hH.2.2.2.2.2 rfl;exact lfl (hy:=hfk)) (?_)
 refine cN 5 rfl (a8) rfl (fun k hk=> ⟨fun hi=> ab,fun hi=> ab,fun hi=> ab,fun hi=> ab,fun hi=> ab,fun hi=> ab⟩) (cW (vs:= [_]) rfl (KV (c:=ei d c))) ?_
 rintro _ _ ⟨rfl,rfl⟩
 refine cN 16 rfl (a8) rfl (fun k hk=> ⟨fun hi=> ab,fun hi=> ab,fun hi=> ab,fun hi=> ab,fun hi=> ab,fun hi=> ab⟩) (cW (vs:= [_,_,_,_]) rfl (Bx (x:=x) (y:=y) (s:=s) (p:=p) (q:=q) (ins:=ins) (w:=B) (f:=(eV (ei d c)).length) (k:=fn) hpl (aa) (aa) hd hk.ap hB)) ?_
 rintro _ _ ⟨rfl,rfl⟩
 refine cN 17 rfl (a8) rfl (fun k hk=> ⟨fun hi=> absurd hk (ad),fun hi=> ab,fun hi=> ab,fun hi=> ab,fun hi=> ab,fun hi=> absurd hk (ad)⟩) (cW (vs:= [_,_]) rfl (oX (x:=x) (y:=y) (s:=s) hl)) ?_
 rintro _ _ ⟨rfl,rfl⟩
 refine db (a8) (fun k hk=> ⟨fun hi=> absurd hk (ad),fun hi=> ab,fun hi=> ab,fun hi=> ab,fun hi=> ab,fun hi=> absurd hk (ad)⟩) (rt_ Tryz.results80 (k:=?_))
 dsimp only;rw[←jy hb];exact⟨_,cJ.trans (H':=CuH b (ei d c)::Cl cuZ ((x.cs.zip cs).take A)::Cl cuZ ((x.cs.zip cs).drop (A+1))::Mo m (x,{y with stk:=y.stk++ [tr (cS p q ins) d B (eV (ei d c)).length ((fn:Nat):Int)]})::R2) (hsb) ((jD hzl).trans (hsb)),rfl,rfl⟩
end
theorem Dm {L:List VV}{j:Nat}{v:VV}(h:L[j]? =some v):qc (L.take (j+1))=qc (L.take j)+if v.1=true then 1 else 0:=by
 rw[cP h,qc,qc,List.filter_append,Ya]
 cases hv:v.1 <;> simp[hv]
theorem F9 {L:List VV}{j:Nat}{v:VV}(h:L[j]? =some v):A6 (L.take (j+1))=if v.1=true then w64 (A6 (L.take j)+v.2)else A6 (L.take j):=by
 rw[cP h,A6,List.foldl_append];all_goals rfl
section
variable {G:cK}{H R:cG}{m op A B:Nat}{x:MX}{y:MY}
theorem LU [hr:Rem H Mo m (x,y) R] (hA:A≤y.stk.length) (hB:B<18446744073709551616) (hl:y.stk.length≤1000000000):SC G Tryz.prog 97 [.pointer (some ⟨m,0,none⟩),nw op A B] H (fun v H'=> v= .tuple #[]∧H'=Mo m (x,{y with stk:=y.stk.take (y.stk.length - A)++ [if B≤qc (y.stk.drop (y.stk.length - A))then(true,A6 (y.stk.drop (y.stk.length - A)))else(false,0)]})::R):=by
 refine nN hr (fun s=> ?_)
 obtain⟨L,hL⟩:∃L,L=y.stk.drop (y.stk.length - A):=⟨_,rfl⟩
 have hLl:L.length=A:=by rw[hL,Yo];omega
 have htl:(y.stk.take (y.stk.length - A)).length≤1000000000:=aA
 rw[←hL]
 refine sWk Tryz.func97 Tryz.ntmps97 ?_
 refine gk (k:=bxx (k:=fun b3=>?_))
 refine go ?_
 refine df cI (fun i=> [].contains i) (fun k H=> (k=3→cQ H m (mV x s y))∧(k=4→Sl H s eVV y.stk)∧(k=6→cQ H b3 [.int .i64 ((op:Nat):Int), .int .u64 ((A:Nat):Int), .int .u64 ((B:Nat):Int)])) (af_ 0 (q:=cD fun H hH=>mv) (k:=af_ 1 (q:=cD fun H hH=>nck) (k:=af_ 2 (q:=cD fun H hH=>fla) (k:=?_))))
 refine cE 3 rfl rfl (a8) rfl (cD fun H hH=>ak) (?_)
 refine cE 4 rfl rfl (a8) rfl (cD fun H hH=>by have hN:=hH.2.1 rfl;exact lnn) (?_)
 refine af_ 5 (q:=cD fun H hH=>fla) (k:=?_)
 refine cE 6 rfl rfl (a8) rfl (cD fun H hH=>aZ) (?_)
 refine cE 7 rfl rfl (a8) rfl (cD fun H hH=>dy rfl (aa)) (?_)
 refine cE 8 rfl rfl (a8) rfl (cD fun H hH=>evq isb (congrArg (Value.int .i64) (show _=((y.stk.length - A:Nat):Int)from aa))) (?_)
 refine af_ 9 (q:=cD fun H hH=>asn) (k:=db (a8) (fun k hk=> ⟨fun hi=> ab,fun hi=> ab,fun hi=> ab⟩) (go ?_))
 refine go ?_
 refine kW (Row s eVV y.stk::R) rfl (y.stk.length - A) (y.stk.length) ⟨_,_,rfl,(aN)⟩ rfl (aa) (aP) rfl (fun s23 i23=>?_)
 rw[List.take_length,←hL]at i23
 refine gk (k:=dt (Nat×Nat×Nat) (fun y=> y.1≤L.length∧y.2.1=qc (L.take y.1)∧y.2.2=A6 (L.take y.1)∧y.2.1≤y.1) (fun y=> [(5, .int .u64 ((y.2.1:Nat):Int)),(6, .int .u64 ((y.2.2:Nat):Int)),(25, .int .i64 ((y.1:Nat):Int))]) [(0,_),(3,_),(4,_),(23,_),(24,_)] (fun y=> []) _ (fun y=> L.length - y.1) ((0,0,0)) (h0:=?_) (k:=?_))
 ·try dsimp only
  exact⟨Yl _,rfl,rfl,Nat.le_refl _⟩
 rintro⟨j,n,w⟩ ⟨hj,hn,hw,hnj⟩
 try dsimp only[Yd,Ye]at*
 refine gk (k:=wi_ (k:=fun h1=>?_) (m:=fun h1=>?_))
 ·obtain⟨v,hv⟩:∃v,L[j]? =some v:=⟨_,Yi (aa)⟩
  have hs1:=Dm hv
  have hs2:=F9 hv
  refine wk_ (qn_ (ws_ (wb_ (ws_ (wr_ (e_ ixa (k:=e_ (jn (hy:=hv)) (k:=alc (k:=fun b8=>?_)))))))))
  refine gk (k:=wi_ (k:=fun h2=>?_) (m:=fun h2=>?_))
  ·have hvt:v.1=true:=h2
   rw[if_pos hvt]at hs1 hs2
   refine ws_ (wr_ (e_ mv (k:=?_)))
   refine e_ (jY 18446744073709551616 rfl rfl rfl rfl n 1 rfl rfl (aa)) (k:=?_)
   refine e_ asn (k:=on_ (qn_ (wr_ (e_ mv (k:=e_ fla (k:=e_ ldv (k:=?_)))))))
   refine e_ (mS 18446744073709551616 rfl rfl rfl rfl w v.2 rfl rfl) (k:=?_)
   refine go ?_
   refine ln_ ((j+1,n+1,(w+v.2) % 18446744073709551616)) (k:=?_)
   try dsimp only
   exact⟨aa,aa,by rw[hs2,←hw];all_goals rfl,aa⟩
  have hvf:¬v.1=true:=aO
  rw[if_neg hvf]at hs1 hs2
  refine go ?_
  refine ln_ ((j+1,n,w)) (k:=?_)
  try dsimp only
  exact⟨aa,aa,by rw[hs2,←hw],aa⟩
 obtain rfl:j=L.length:=aa
 rw[List.take_length]at hn hw
 refine we_ (qe_ (le_ (bh_ (qn_ (ws_ (wr_ (e_ mv (k:=e_ mv (k:=e_ nck (k:=e_ fla (k:=e_ ldv (k:=e_ mv (k:=?_)))))))))))))
 refine e_ (eL rfl (bQ) 0 (y.stk.length - A) rfl ⟨_,_,rfl,aa⟩ (aa) (aa)) (k:=?_)
 refine e_ nck (k:=e_ fla (k:=sto (k:=on_ (qn_ (ws_ (wr_ (?_)))))))
 refine du (H':=Row (s.cut 2 0 (y.stk.length - A)) eVV (y.stk.take (y.stk.length - A))::Vr m (mV x (s.cut 2 0 (y.stk.length - A)) y)::Vr b3 [.int .i64 ((op:Nat):Int), .int .u64 ((A:Nat):Int), .int .u64 ((B:Nat):Int)]::R) (cJ.trans (H':=Row s eVV y.stk::Vr m (mV x (s.cut 2 0 (y.stk.length - A)) y)::Vr b3 [.int .i64 ((op:Nat):Int), .int .u64 ((A:Nat):Int), .int .u64 ((B:Nat):Int)]::R) (hsb) (tw (aa))) ?_
 refine gk (k:=wi_ (k:=fun h3=>?_) (m:=fun h3=>?_))
 ·have hge:B≤qc L:=by have h9:=h3;omega
  refine wr_ (e_ mv (k:=e_ mv (k:=e_ (bld [(0,_),(1,_)]) (k:=?_))))
  refine d2_ rfl (oX (x:=x) (y:={y with stk:=y.stk.take (y.stk.length - A)}) (s:=s.cut 2 0 (y.stk.length - A)) (a:=true) (v:=w) htl) (k:=gk (k:=rt_ Tryz.results97 (k:=?_)))
  rw[if_pos hge,←hw];exact⟨_,hsb,rfl,rfl⟩
 have hge:¬B≤qc L:=cj
 refine wr_ (e_ mv (k:=e_ (bld []) (k:=?_)))
 refine d2_ rfl (oX (x:=x) (y:={y with stk:=y.stk.take (y.stk.length - A)}) (s:=s.cut 2 0 (y.stk.length - A)) (a:=false) (v:=0) htl) (k:=gk (k:=rt_ Tryz.results97 (k:=?_)))
 rw[if_neg hge];exact⟨_,hsb,rfl,rfl⟩
end
theorem J2 {l:List Int}{m:Nat}{b x:Int}(hx:l[m]? =some x) (h:x<b):gu l m b=gu l (m+1) b:=by
 unfold gu
 rw[dF hx,List.findIdx_cons,Yr (aa)]
 simp only[cond_false];omega
theorem Fl {l:List Int}{m:Nat}{b:Int}(h:l.length≤m):gu l m b=m:=by
 unfold gu
 rw[List.drop_eq_nil_of_le h,List.findIdx_nil,Nat.add_zero]
theorem J3 {l:List Int}{m:Nat}{b x:Int}(hx:l[m]? =some x) (h:b≤x):gu l m b=m:=by
 unfold gu
 rw[dF hx,List.findIdx_cons,Ys h]
 simp
theorem GP {l:List Int}{m:Nat}{b slop x:Int}(hx:m<l.length→l[m]? =some x):wK l m b slop=(decide (((m:Nat):Int)<((l.length:Nat):Int)) && decide (x≤b+slop)):=by
 unfold wK
 rw[show decide (((m:Nat):Int)<((l.length:Nat):Int))=decide (m<l.length)from decide_eq_decide.2 (aa)]
 by_cases h:m<l.length
 ·rw[hx h,Ys h,Bool.true_and]
 ·rw[List.getElem?_eq_none (aa),Yr h,Bool.false_and]
theorem HC {b slop:Int}{lists:List (List Int)}{hs:List Nat}{j a:Nat}{l:List Int}{w:Bool}{r:Bool×List Nat}(hl:lists[j]? =some l) (ha:hs[j]? =some a)
 (h:r=(w && (gw b slop (lists.drop j) (hs.drop j)).1,hs.take j++(gw b slop (lists.drop j) (hs.drop j)).2)):
 r=((w && wK l (gu l a b) b slop) && (gw b slop (lists.drop (j+1)) ((hs.set j (gu l a b)).drop (j+1))).1,(hs.set j (gu l a b)).take (j+1)++(gw b slop (lists.drop (j+1)) ((hs.set j (gu l a b)).drop (j+1))).2):=by
 have hj:=(Yk.1 ha).1
 have hd:(hs.set j (gu l a b)).drop (j+1)=hs.drop (j+1):=by rw[List.drop_set_of_lt (aa)]
 have ht:(hs.set j (gu l a b)).take (j+1)=hs.take j++ [gu l a b]:=by
  rw[cP (List.getElem?_set_self hj),List.take_set_of_le (Nat.le_refl _)]
 rw[h,dF hl,dF ha,gw,hd,ht,Bool.and_assoc,Yf]
 all_goals rfl
theorem KA {b slop:Int}{lists:List (List Int)}{hs:List Nat}{w:Bool}{r:Bool×List Nat}{n:Nat}(hl:lists.length=n) (hh:hs.length=n)
 (h:r=(w && (gw b slop (lists.drop n) (hs.drop n)).1,hs.take n++(gw b slop (lists.drop n) (hs.drop n)).2)):r=(w,hs):=by
 rw[h,List.drop_eq_nil_of_le (aa),List.drop_eq_nil_of_le (aa),gw,Bool.and_true,Ym,List.take_of_length_le (aa)]
 ·intros;contradiction
theorem Gu {l:List Nat}{i x:Nat}:(cV l).set i ((x:Nat):Int)=cV (l.set i x):=by rw[cV,cV,List.map_set]
theorem IQ {G:cK}{H:cG}{sl sa:SV}{ss:List SV}{lists:List (List Int)}{all:List Int}{slop:Int} [hsl:Sl H sl eSV ss] [hsa:Sl H sa eI all] (hll:ss.length=lists.length) (hin:∀(i:Nat) (s:SV) (l:List Int),ss[i]? =some s→lists[i]? =some l→Sl H s eI l) (hn:ss.length≤1000000000) (hs1:0≤slop) (hs2:slop≤2147483647) (hal:all.length≤1000000000000) (hab:∀x∈all, -4294967296≤x∧x≤4294967296) (hlb:∀l∈lists,l.length≤1000000000000):SC G Tryz.prog 167 [sa.val,sl.val, .int .i64 slop] H (fun v H'=> v= .int .i64 ((k9 slop lists all (List.replicate lists.length 0):Nat):Int)∧H'=H):=by
 have hrep:(List.replicate ss.length (0:Int))=cV (List.replicate lists.length 0):=by rw[hll,cV,List.map_replicate];all_goals rfl
 refine sWk Tryz.func167 Tryz.ntmps167 ?_
 refine go ?_
 refine s_ (eX eI 0 rfl rfl _ _ rfl rfl rfl (aa) (aa) (aa)) (k:=?_)
 rintro _ _ ⟨s16,rfl,hs16n,hs16c,rfl⟩
 rw[hrep]
 refine go ?_
 refine gk (k:=dt (Nat×(List Nat)×Nat) (fun y=> y.1≤all.length∧y.2.1.length=lists.length∧y.2.2≤y.1∧y.2.2+k9 slop lists (all.drop y.1) y.2.1=k9 slop lists all (List.replicate lists.length 0)) (fun y=> [(8, .int .i64 ((y.2.2:Nat):Int)),(19, .int .i64 ((y.1:Nat):Int))]) [(1,_),(2,_),(7,_),(17,_),(18,_)] (fun y=> [Row s16 eI (cV y.2.1)]) _ (fun y=> all.length - y.1) ((0,List.replicate lists.length 0,0)) (h0:=?_) (k:=?_))
 ·try dsimp only
  exact⟨Yl _,Xe,Nat.le_refl _,by rw[List.drop_zero,Nat.zero_add]⟩
 rintro⟨i,hd,cnt⟩ ⟨hi,hdl,hct,hsum⟩
 try dsimp only[Yd,Ye]at*
 refine gk (k:=wi_ (k:=fun h1=>?_) (m:=fun h1=>?_))
 ·obtain⟨b,hb⟩:∃b,all[i]? =some b:=⟨_,Yi (aa)⟩
  have hbb:=hab b (Yj hb)
  rw[dF hb,k9]at hsum
  refine wk_ (qn_ (ws_ (wb_ (ws_ (wr_ (e_ ixa (k:=e_ (lel (hy:=hb)) (k:=go ?_))))))))
  refine gk (k:=dt (Nat×(List Nat)×Bool) (fun y=> y.1≤lists.length∧y.2.1.length=lists.length∧gw b slop lists hd=(y.2.2 && (gw b slop (lists.drop y.1) (y.2.1.drop y.1)).1,y.2.1.take y.1++(gw b slop (lists.drop y.1) (y.2.1.drop y.1)).2)) (fun y=> [(11, .bool y.2.2),(25, .int .i64 ((y.1:Nat):Int))]) [(1,_),(2,_),(7,_),(8,_),(10,_),(17,_),(18,_),(19,_),(23,_),(24,_)] (fun y=> [Row s16 eI (cV y.2.1)]) _ (fun y=> lists.length - y.1) ((0,hd,true)) (h0:=?_) (k:=?_))
  ·try dsimp only
   exact⟨Yl _,hdl,an⟩
  rintro⟨j,he,w⟩ ⟨hj,hel,hbg⟩
  try dsimp only[Yd,Ye]at*
  refine gk (k:=wi_ (k:=fun h2=>?_) (m:=fun h2=>?_))
  ·obtain⟨l,hl⟩:∃l,lists[j]? =some l:=⟨_,Yi (aa)⟩
   obtain⟨s,hs⟩:∃s,ss[j]? =some s:=⟨_,Yi (aa)⟩
   obtain⟨a,ha⟩:∃a,he[j]? =some a:=⟨_,Yi (aa)⟩
   haveI hsj:Sl H s eI l:=hin j s l hs hl
   have hlen:=hlb l (Yj hl)
   have hjl:=(Yk.1 ha).1
   have hset:he.set j a=he:=by rw[←(Yk.1 ha).2,List.set_getElem_self]
   refine wk_ (qn_ (ws_ (wb_ (ws_ (wr_ (e_ mv (k:=e_ ixa (k:=e_ (lel (hy:=hs)) (k:=go ?_)))))))))
   refine gk (k:=dt ((List Nat)×Nat) (fun y=> y.1=he.set j y.2∧(y.2=a∨y.2≤l.length)∧gu l y.2 b=gu l a b) (fun y=> []) [(1,_),(2,_),(7,_),(8,_),(10,_),(11,_),(12,_),(13,_),(17,_),(18,_),(19,_),(23,_),(24,_),(25,_)] (fun y=> [Row s16 eI (cV y.1)]) _ (fun y=> l.length - y.2) ((he,a)) (h0:=?_) (k:=?_))
   ·try dsimp only
    exact⟨hset.symm, .inl rfl,rfl⟩
   rintro⟨hf,m⟩ ⟨hhf,hm,hsk⟩
   try dsimp only[Yd,Ye]at*
   have hrow:(cV hf)[j]? =some ((m:Nat):Int):=by rw[hhf];exact ez (List.getElem?_set_self hjl)
   have hrl:(cV hf).length=lists.length:=by rw[dO,hhf,List.length_set,hel]
   obtain⟨x,hx⟩:∃x:Int,m<l.length→l[m]? =some x:=by
    by_cases h9:m<l.length
    ·exact⟨l[m],fun _=> Yi h9⟩
    ·exact⟨0,fun h=> absurd h h9⟩
   refine ws_ (ws_ (wr_ (e_ mv (k:=e_ mv (k:=e_ ixa (k:=e_ (lel (hy:=hrow)) (k:=gk (k:=dh 10 47 (c:=decide (x<b)) (k:=fun h4=>?_) (q:=?_)))))))))
   ·have hx2:=hx (by have h9:=h4;omega)
    refine eg_ mv (k:=eg_ mv (k:=eg_ mv (k:=eg_ ixa (k:=eg_ (lel (hy:=hrow)) (k:=eg_ ixa (k:=eg_ (lel (hy:=hx2)) (k:=gk (k:=edq))))))))
   refine gk (k:=wi_ (k:=fun h5=>?_) (m:=fun h5=>?_))
   ·have hml:m<l.length:=by have h9:=h5;omega
    have hxb:x<b:=by have h9:=h5;omega
    refine wk_ (qn_ (wb_ (wr_ (e_ mv (k:=e_ mv (k:=e_ ixa (k:=e_ (lel (hy:=hrow)) (k:=go ?_))))))))
    refine s_ (dH (a:=((m+1:Nat):Int)) rfl rfl (bQ) (aa)) (k:=?_)
    rintro _ _ ⟨rfl,rfl⟩
    rw[Gu,hhf,List.set_set]
    refine go ?_
    refine ln_ ((he.set j (m+1),m+1)) (k:=?_)
    try dsimp only
    exact⟨rfl, .inr (aa),by rw[←hsk,J2 (hx hml) hxb]⟩
   have hst:gu l m b=m:=by
    by_cases h8:m<l.length
    ·exact J3 (hx h8) (by have h9:=h5;omega)
    ·exact Fl (aa)
   rw[hst]at hsk
   have hbg2:=HC hl ha hbg
   rw[←hsk,GP hx,←Bool.and_assoc]at hbg2
   refine we_ (qe_ (le_ (bh_ (qn_ (wr_ (e_ mv (k:=e_ mv (k:=dh 8 63 (k:=fun h6=>eg_ mv (k:=eg_ mv (k:=eg_ ixa (k:=eg_ (lel (hy:=hrow)) (k:=eg_ mv (k:=eg_ lnn (k:=eg_ ilt (k:=e_ pkt (k:=on_ (edq)))))))))) (q:=e_ mv (k:=dh 12 76 (c:=decide (x≤b+slop)) (k:=fun h8=>?_) (q:=?_)))))))))))
   ·have hx3:=hx (by have h9:=h8;omega)
    refine eg_ mv (k:=eg_ mv (k:=eg_ mv (k:=eg_ ixa (k:=eg_ (lel (hy:=hrow)) (k:=eg_ ixa (k:=eg_ (lel (hy:=hx3)) (k:=gk (k:=edq))))))))
   refine go ?_
   refine ln_ ((j+1,hf,w && decide (((m:Nat):Int)<((l.length:Nat):Int)) && decide (x≤b+slop))) (k:=?_)
   try dsimp only
   exact⟨aa,by rw[hhf,List.length_set,hel],by rw[hhf];exact hbg2⟩
  obtain rfl:j=lists.length:=aa
  have hfin:=KA rfl hel hbg
  rw[hfin]at hsum
  refine gk (k:=wi_ (k:=fun h9=>?_) (m:=fun h9=>?_))
  ·have hw:w=true:=h9
   rw[hw]at hsum;simp only[if_true]at hsum
   refine go ?_
   refine ln_ ((i+1,he,cnt+1)) (k:=?_)
   try dsimp only
   exact⟨aa,hel,aa,aa⟩
  have hw:w=false:=by have h9:=h9;simpa using h9
  rw[hw]at hsum;simp only[Bool.false_eq_true,if_false]at hsum
  refine go ?_
  refine ln_ ((i+1,he,cnt)) (k:=?_)
  try dsimp only
  exact⟨aa,hel,aa,aa⟩
 have hfin:cnt=k9 slop lists all (List.replicate lists.length 0):=by
  rw[List.drop_eq_nil_of_le (az),k9]at hsum;omega
 refine gk (k:=rt_ Tryz.results167 (k:=?_))
 exact⟨_,hsb,by rw[hfin];all_goals rfl,rfl⟩
end Go.Sx
