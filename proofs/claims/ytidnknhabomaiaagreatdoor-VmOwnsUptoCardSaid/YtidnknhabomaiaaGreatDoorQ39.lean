import Derived.Test.YtidnknhabomaiaaGreatDoorQ38
import Derived.Test.YtidnknhabomaiaaGreatDoorQ37
set_option linter.unusedVariables false
set_option linter.unusedSimpArgs false
set_option linter.unusedSectionVars false
set_option linter.unnecessarySimpa false
set_option maxHeartbeats 0
namespace Go.Sx
open Go Go.Proofs
set_option maxRecDepth 100000
abbrev vvV (a:VV):Value:= .agg [.bool a.1, .int .u64 ((a.2:Nat):Int)].toArray
abbrev nw (op A B:Nat):Value:= .agg [.int .i64 ((op:Nat):Int), .int .u64 ((A:Nat):Int), .int .u64 ((B:Nat):Int)].toArray
theorem tF4 {G:cK}{H:cG}{a b:VV}:SC G Tryz.prog 51 [vvV a,vvV b] H (fun v H'=> v= .tuple #[.bool ((a.1 && b.1,w64 (a.2+b.2)):VV).1, .int .u64 ((((a.1 && b.1,w64 (a.2+b.2)):VV).2:Nat):Int)]∧H'=H):=by
 refine sWk Tryz.func51 Tryz.ntmps51 ?_
 refine gk (k:=bxx (k:=fun b2=>?_))
 refine bxx (k:=fun b3=>?_)
 refine go ?_
 refine cX cI (as_ 0 (q:=fla) (k:=as_ 1 (q:=ldv) (k:=?_)))
 refine gq 2 rfl rfl (a8) rfl (dz (mv)) (fun h1=> ?_) (fun h1=> ?_)
 ·replace h1:=nrm h1
  refine at2 3 (q:=fla) (k:=at2 4 (q:=ldv) (k:=as_ 5 (q:=pkt) (k:=as_ 6 (q:=fla) (k:=as_ 7 (q:=ldv) (k:=as_ 8 (q:=fla) (k:=as_ 9 (q:=ldv) (k:=?_)))))))
  refine cE 10 rfl rfl (a8) rfl (dz ((au))) (?_)
  refine as_ 11 (q:=asn) (k:=as_ 12 (q:=asn) (k:=az_ (k:=gk (k:=rt_ Tryz.results51 (k:=?_)))))
  exact⟨_,hsb,by(cases ha:a.1 <;> simp_all [gF,w64]),rfl⟩
 replace h1:=nrm h1
 refine ao_ 3 (k:=ao_ 4 (k:=as_ 5 (q:=pkf) (k:=as_ 6 (q:=fla) (k:=as_ 7 (q:=ldv) (k:=as_ 8 (q:=fla) (k:=as_ 9 (q:=ldv) (k:=?_)))))))
 refine cE 10 rfl rfl (a8) rfl (dz ((au))) (?_)
 refine as_ 11 (q:=asn) (k:=as_ 12 (q:=asn) (k:=az_ (k:=gk (k:=rt_ Tryz.results51 (k:=?_)))))
 exact⟨_,hsb,by(cases ha:a.1 <;> simp_all [gF,w64]),rfl⟩
theorem tF5 {G:cK}{H:cG}{a b:VV}:SC G Tryz.prog 53 [vvV a,vvV b] H (fun v H'=> v= .tuple #[.bool ((a.1 ||b.1,w64 (a.2+b.2)):VV).1, .int .u64 ((((a.1 ||b.1,w64 (a.2+b.2)):VV).2:Nat):Int)]∧H'=H):=by
 refine sWk Tryz.func53 Tryz.ntmps53 ?_
 refine gk (k:=bxx (k:=fun b2=>?_))
 refine bxx (k:=fun b3=>?_)
 refine go ?_
 refine cX cI (as_ 0 (q:=fla) (k:=as_ 1 (q:=ldv) (k:=?_)))
 refine gq 2 rfl rfl (a8) rfl (dz (mv)) (fun h1=> ?_) (fun h1=> ?_)
 ·replace h1:=nrm h1
  refine ao_ 3 (k:=ao_ 4 (k:=as_ 5 (q:=pkt) (k:=as_ 6 (q:=fla) (k:=as_ 7 (q:=ldv) (k:=as_ 8 (q:=fla) (k:=as_ 9 (q:=ldv) (k:=?_)))))))
  refine cE 10 rfl rfl (a8) rfl (dz ((au))) (?_)
  refine as_ 11 (q:=asn) (k:=as_ 12 (q:=asn) (k:=az_ (k:=gk (k:=rt_ Tryz.results53 (k:=?_)))))
  exact⟨_,hsb,by(cases ha:a.1 <;> simp_all [gF,w64]),rfl⟩
 replace h1:=nrm h1
 refine at2 3 (q:=fla) (k:=at2 4 (q:=ldv) (k:=as_ 5 (q:=pkf) (k:=as_ 6 (q:=fla) (k:=as_ 7 (q:=ldv) (k:=as_ 8 (q:=fla) (k:=as_ 9 (q:=ldv) (k:=?_)))))))
 refine cE 10 rfl rfl (a8) rfl (dz ((au))) (?_)
 refine as_ 11 (q:=asn) (k:=as_ 12 (q:=asn) (k:=az_ (k:=gk (k:=rt_ Tryz.results53 (k:=?_)))))
 exact⟨_,hsb,by(cases ha:a.1 <;> simp_all [gF,w64]),rfl⟩
theorem tF6 {G:cK}{H:cG}{a b:VV}:SC G Tryz.prog 55 [vvV a,vvV b] H (fun v H'=> v= .tuple #[.bool ((a.1 ||b.1,max a.2 b.2):VV).1, .int .u64 ((((a.1 ||b.1,max a.2 b.2):VV).2:Nat):Int)]∧H'=H):=by
 refine sWk Tryz.func55 Tryz.ntmps55 ?_
 refine gk (k:=bxx (k:=fun b2=>?_))
 refine bxx (k:=fun b3=>?_)
 refine go ?_
 refine cX cI (as_ 0 (q:=fla) (k:=as_ 1 (q:=ldv) (k:=?_)))
 refine gq 2 rfl rfl (a8) rfl (dz (mv)) (fun h1=> ?_) (fun h1=> ?_)
 ·replace h1:=nrm h1
  refine ao_ 3 (k:=ao_ 4 (k:=as_ 5 (q:=pkt) (k:=as_ 6 (q:=fla) (k:=as_ 7 (q:=ldv) (k:=as_ 8 (q:=fla) (k:=as_ 9 (q:=ldv) (k:=?_)))))))
  refine cE 10 rfl rfl (a8) rfl (dz (evq (mO rfl rfl) (congrArg (Value.int .u64) (show _=((max a.2 b.2:Nat):Int)from aa)))) (?_)
  refine as_ 11 (q:=asn) (k:=as_ 12 (q:=asn) (k:=az_ (k:=gk (k:=rt_ Tryz.results55 (k:=?_)))))
  exact⟨_,hsb,by(cases ha:a.1 <;> simp_all [gF,w64]),rfl⟩
 replace h1:=nrm h1
 refine at2 3 (q:=fla) (k:=at2 4 (q:=ldv) (k:=as_ 5 (q:=pkf) (k:=as_ 6 (q:=fla) (k:=as_ 7 (q:=ldv) (k:=as_ 8 (q:=fla) (k:=as_ 9 (q:=ldv) (k:=?_)))))))
 refine cE 10 rfl rfl (a8) rfl (dz (evq (mO rfl rfl) (congrArg (Value.int .u64) (show _=((max a.2 b.2:Nat):Int)from aa)))) (?_)
 refine as_ 11 (q:=asn) (k:=as_ 12 (q:=asn) (k:=az_ (k:=gk (k:=rt_ Tryz.results55 (k:=?_)))))
 exact⟨_,hsb,by(cases ha:a.1 <;> simp_all [gF,w64]),rfl⟩
theorem tF7 {G:cK}{H:cG}{a b:VV}:SC G Tryz.prog 57 [vvV a,vvV b] H (fun v H'=> v= .tuple #[.bool ((a.1,w64 (a.2+b.2)):VV).1, .int .u64 ((((a.1,w64 (a.2+b.2)):VV).2:Nat):Int)]∧H'=H):=by
 refine sWk Tryz.func57 Tryz.ntmps57 ?_
 refine gk (k:=bxx (k:=fun b2=>?_))
 refine bxx (k:=fun b3=>?_)
 refine go ?_
 refine cX cI (as_ 0 (q:=fla) (k:=as_ 1 (q:=ldv) (k:=as_ 2 (q:=fla) (k:=as_ 3 (q:=ldv) (k:=as_ 4 (q:=fla) (k:=as_ 5 (q:=ldv) (k:=?_)))))))
 refine cE 6 rfl rfl (a8) rfl (dz ((au))) (?_)
 refine as_ 7 (q:=asn) (k:=as_ 8 (q:=asn) (k:=az_ (k:=gk (k:=rt_ Tryz.results57 (k:=?_)))))
 exact⟨_,hsb,rfl,rfl⟩
theorem tF8 {G:cK}{H:cG}{a b:VV}:SC G Tryz.prog 59 [vvV a,vvV b] H (fun v H'=> v= .tuple #[.bool ((a.1 && !b.1,a.2):VV).1, .int .u64 ((((a.1 && !b.1,a.2):VV).2:Nat):Int)]∧H'=H):=by
 refine sWk Tryz.func59 Tryz.ntmps59 ?_
 refine gk (k:=bxx (k:=fun b2=>?_))
 refine bxx (k:=fun b3=>?_)
 refine go ?_
 refine cX cI (as_ 0 (q:=fla) (k:=as_ 1 (q:=ldv) (k:=?_)))
 refine gq 2 rfl rfl (a8) rfl (dz (mv)) (fun h1=> ?_) (fun h1=> ?_)
 ·replace h1:=nrm h1
  refine at2 3 (q:=fla) (k:=at2 4 (q:=ldv) (k:=at2 5 (q:=k8) (k:=as_ 6 (q:=pkt) (k:=as_ 7 (q:=fla) (k:=as_ 8 (q:=ldv) (k:=as_ 9 (q:=asn) (k:=as_ 10 (q:=asn) (k:=az_ (k:=gk (k:=rt_ Tryz.results59 (k:=?_)))))))))))
  exact⟨_,hsb,by(cases ha:a.1 <;> simp_all [gF,w64]),rfl⟩
 replace h1:=nrm h1
 refine ao_ 3 (k:=ao_ 4 (k:=ao_ 5 (k:=as_ 6 (q:=pkf) (k:=as_ 7 (q:=fla) (k:=as_ 8 (q:=ldv) (k:=as_ 9 (q:=asn) (k:=as_ 10 (q:=asn) (k:=az_ (k:=gk (k:=rt_ Tryz.results59 (k:=?_)))))))))))
 exact⟨_,hsb,by(cases ha:a.1 <;> simp_all [gF,w64]),rfl⟩
theorem EO {G:cK}{H R:cG}{m g:Nat}{x:MX}{y:MY}{f:VV→VV→VV} [hr:Rem H Mo m (x,y) R] (hf:∀(H:cG) (a b:VV),SC G Tryz.prog g [vvV a,vvV b] H (fun v H'=> v= .tuple #[.bool (f a b).1, .int .u64 (((f a b).2:Nat):Int)]∧H'=H)) (h2:2≤y.stk.length) (hl:y.stk.length≤1000000000):SC G Tryz.prog 50 [.pointer (some ⟨m,0,none⟩), .func (.func g) #[] #[]] H (fun v H'=> v= .tuple #[]∧H'=Mo m (x,{y with stk:=kh y.stk f})::R):=by
 have hd1:y.stk.dropLast.length=y.stk.length - 1:=List.length_dropLast
 have hd2:y.stk.dropLast.dropLast.length=y.stk.length - 2:=by rw[List.length_dropLast,hd1];omega
 refine sWk Tryz.func50 Tryz.ntmps50 ?_
 refine go ?_
 refine d1_ rfl (ET (aa) hl) (k:=alc (k:=fun b4=>?_))
 refine go ?_
 refine d1_ rfl (ET (y:={y with stk:=y.stk.dropLast}) (by show 0<y.stk.dropLast.length;omega) (by show y.stk.dropLast.length≤_;omega)) (k:=alc (k:=fun b5=>?_))
 refine go ?_
 refine s_ (nJ (fi:= []) (ca:= []) (vs:= [_,_]) rfl rfl (hf _ (fR y.stk.dropLast) (fR y.stk))) (k:=?_)
 rintro _ _ ⟨rfl,rfl⟩
 refine go ?_
 refine wi_ (k:=fun h1=>?_) (m:=fun h1=>?_)
 ·have ht:¬(f (fR y.stk.dropLast) (fR y.stk)).1=true:=by have h9:=h1;simpa using h9
  have hst:y.stk.dropLast.dropLast++ [((f (fR y.stk.dropLast) (fR y.stk)).1,0)]=kh y.stk f:=by rw[kh];simp only[if_neg ht]
  refine wr_ (e_ asn (k:=on_ (qn_ (wr_ (e_ mv (k:=e_ mv (k:=e_ mv (k:=e_ (bld [(0,_),(1,_)]) (k:=?_)))))))))
  refine d2_ rfl (nF (y:={y with stk:=y.stk.dropLast.dropLast}) (by show y.stk.dropLast.dropLast.length≤_;omega)) (k:=gk (k:=rt_ Tryz.results50 (k:=?_)))
  rw[←hst];exact⟨_,hsb,rfl,rfl⟩
 have ht:(f (fR y.stk.dropLast) (fR y.stk)).1=true:=bL
 have hst:y.stk.dropLast.dropLast++ [((f (fR y.stk.dropLast) (fR y.stk)).1,(f (fR y.stk.dropLast) (fR y.stk)).2)]=kh y.stk f:=by rw[kh];simp only[if_pos ht]
 refine wk_ (qn_ (wr_ (e_ mv (k:=e_ mv (k:=e_ mv (k:=e_ (bld [(0,_),(1,_)]) (k:=?_)))))))
 refine d2_ rfl (nF (y:={y with stk:=y.stk.dropLast.dropLast}) (by show y.stk.dropLast.dropLast.length≤_;omega)) (k:=gk (k:=rt_ Tryz.results50 (k:=?_)))
 rw[←hst];exact⟨_,hsb,rfl,rfl⟩
theorem KM {G:cK}{H R:cG}{m:Nat}{x:MX}{y:MY} [hr:Rem H Mo m (x,y) R] (h0:0<y.stk.length) (hl:y.stk.length≤1000000000):SC G Tryz.prog 67 [.pointer (some ⟨m,0,none⟩)] H (fun v H'=> v=vvV (fR y.stk)∧H'=Mo m (x,y)::R):=
 nN hr (fun s=> SC.out ((Ly (x:=x) (y:=y) (s:=s) h0 hl).mono (fun v H' h=> ⟨_,by rw[h.2];exact jB,h.1,rfl⟩)))
theorem tO1 {G:cK}{H:cG}{m op A B:Nat}:SC G Tryz.prog 42 [.pointer (some ⟨m,0,none⟩),nw op A B] H (fun v H'=> v= .tuple #[]∧H'=H):=by
 refine sWk Tryz.func42 Tryz.ntmps42 ?_
 refine gk (k:=bxx (k:=fun b3=>?_))
 refine gk (k:=rt_ Tryz.results42 (k:=?_))
 exact⟨_,hsb,rfl,rfl⟩
section
variable {G:cK}{H R:cG}{m op A B:Nat}{x:MX}{y:MY}
theorem tO2 [hr:Rem H Mo m (x,y) R] (hl:y.stk.length≤1000000000):SC G Tryz.prog 43 [.pointer (some ⟨m,0,none⟩),nw op A B] H (fun v H'=> v= .tuple #[]∧H'=Mo m (x,{y with stk:=y.stk++ [(false,0)]})::R):=by
 refine sWk Tryz.func43 Tryz.ntmps43 ?_
 refine gk (k:=bxx (k:=fun b3=>?_))
 refine on_ (qn_ (wr_ (e_ mv (k:=e_ (bld []) (k:=?_)))))
 refine d2_ rfl (nF (a:=false) (b:=0) hl) (k:=gk (k:=rt_ Tryz.results43 (k:=?_)))
 exact⟨_,hsb,rfl,rfl⟩
theorem tO3 [hr:Rem H Mo m (x,y) R] (hl:y.stk.length≤1000000000):SC G Tryz.prog 45 [.pointer (some ⟨m,0,none⟩),nw op A B] H (fun v H'=> v= .tuple #[]∧H'=Mo m (x,{y with stk:=y.stk++ [(true,262144)]})::R):=by
 refine sWk Tryz.func45 Tryz.ntmps45 ?_
 refine gk (k:=bxx (k:=fun b3=>?_))
 refine on_ (qn_ (wr_ (e_ mv (k:=e_ (bld [(0,_),(1,_)]) (k:=?_)))))
 refine d2_ rfl (nF (a:=true) (b:=262144) hl) (k:=gk (k:=rt_ Tryz.results45 (k:=?_)))
 exact⟨_,hsb,rfl,rfl⟩
theorem tO6 [hr:Rem H Mo m (x,y) R] (h2:2≤y.stk.length) (hl:y.stk.length≤1000000000):SC G Tryz.prog 49 [.pointer (some ⟨m,0,none⟩),nw op A B] H (fun v H'=> v= .tuple #[]∧H'=Mo m (x,{y with stk:=kh y.stk fun a b=> (a.1 && b.1,w64 (a.2+b.2))})::R):=by
 refine sWk Tryz.func49 Tryz.ntmps49 ?_
 refine gk (k:=bxx (k:=fun b3=>?_))
 refine go ?_
 refine d2_ rfl (EO (f:=fun a b=> (a.1 && b.1,w64 (a.2+b.2))) (fun H a b=> tF4) h2 hl) (k:=gk (k:=rt_ Tryz.results49 (k:=?_)))
 exact⟨_,hsb,rfl,rfl⟩
theorem tO7 [hr:Rem H Mo m (x,y) R] (h2:2≤y.stk.length) (hl:y.stk.length≤1000000000):SC G Tryz.prog 52 [.pointer (some ⟨m,0,none⟩),nw op A B] H (fun v H'=> v= .tuple #[]∧H'=Mo m (x,{y with stk:=kh y.stk fun a b=> (a.1 ||b.1,w64 (a.2+b.2))})::R):=by
 refine sWk Tryz.func52 Tryz.ntmps52 ?_
 refine gk (k:=bxx (k:=fun b3=>?_))
 refine go ?_
 refine d2_ rfl (EO (f:=fun a b=> (a.1 ||b.1,w64 (a.2+b.2))) (fun H a b=> tF5) h2 hl) (k:=gk (k:=rt_ Tryz.results52 (k:=?_)))
 exact⟨_,hsb,rfl,rfl⟩
theorem tO8 [hr:Rem H Mo m (x,y) R] (h2:2≤y.stk.length) (hl:y.stk.length≤1000000000):SC G Tryz.prog 54 [.pointer (some ⟨m,0,none⟩),nw op A B] H (fun v H'=> v= .tuple #[]∧H'=Mo m (x,{y with stk:=kh y.stk fun a b=> (a.1 ||b.1,max a.2 b.2)})::R):=by
 refine sWk Tryz.func54 Tryz.ntmps54 ?_
 refine gk (k:=bxx (k:=fun b3=>?_))
 refine go ?_
 refine d2_ rfl (EO (f:=fun a b=> (a.1 ||b.1,max a.2 b.2)) (fun H a b=> tF6) h2 hl) (k:=gk (k:=rt_ Tryz.results54 (k:=?_)))
 exact⟨_,hsb,rfl,rfl⟩
theorem tO9 [hr:Rem H Mo m (x,y) R] (h2:2≤y.stk.length) (hl:y.stk.length≤1000000000):SC G Tryz.prog 56 [.pointer (some ⟨m,0,none⟩),nw op A B] H (fun v H'=> v= .tuple #[]∧H'=Mo m (x,{y with stk:=kh y.stk fun a b=> (a.1,w64 (a.2+b.2))})::R):=by
 refine sWk Tryz.func56 Tryz.ntmps56 ?_
 refine gk (k:=bxx (k:=fun b3=>?_))
 refine go ?_
 refine d2_ rfl (EO (f:=fun a b=> (a.1,w64 (a.2+b.2))) (fun H a b=> tF7) h2 hl) (k:=gk (k:=rt_ Tryz.results56 (k:=?_)))
 exact⟨_,hsb,rfl,rfl⟩
theorem PW [hr:Rem H Mo m (x,y) R] (h2:2≤y.stk.length) (hl:y.stk.length≤1000000000):SC G Tryz.prog 58 [.pointer (some ⟨m,0,none⟩),nw op A B] H (fun v H'=> v= .tuple #[]∧H'=Mo m (x,{y with stk:=kh y.stk fun a b=> (a.1 && !b.1,a.2)})::R):=by
 refine sWk Tryz.func58 Tryz.ntmps58 ?_
 refine gk (k:=bxx (k:=fun b3=>?_))
 refine go ?_
 refine d2_ rfl (EO (f:=fun a b=> (a.1 && !b.1,a.2)) (fun H a b=> tF8) h2 hl) (k:=gk (k:=rt_ Tryz.results58 (k:=?_)))
 exact⟨_,hsb,rfl,rfl⟩
theorem PV [hr:Rem H Mo m (x,y) R] (h0:0<y.stk.length) (hl:y.stk.length≤1000000000):SC G Tryz.prog 60 [.pointer (some ⟨m,0,none⟩),nw op A B] H (fun v H'=> v= .tuple #[]∧H'=Mo m (x,{y with stk:=nu y.stk fun a=> (!a.1,0)})::R):=by
 have hdl:y.stk.dropLast.length≤1000000000:=by rw[List.length_dropLast];omega
 refine sWk Tryz.func60 Tryz.ntmps60 ?_
 refine gk (k:=bxx (k:=fun b3=>?_))
 refine go ?_
 refine d1_ rfl (ET h0 hl) (k:=?_)
 refine e_ (gA (ft:=4) (off:=0) Tryz.underlying97 rfl rfl rfl) (k:=?_)
 refine e_ k8 (k:=e_ (bld [(0,_),(1,_)]) (k:=?_))
 refine d2_ rfl (nF (y:={y with stk:=y.stk.dropLast}) (b:=0) hdl) (k:=gk (k:=rt_ Tryz.results60 (k:=?_)))
 rw[←show y.stk.dropLast++ [(!(fR y.stk).1,0)]=nu y.stk (fun a=> (!a.1,0))from rfl];exact⟨_,hsb,rfl,rfl⟩
theorem PU [hr:Rem H Mo m (x,y) R] (h0:0<y.stk.length) (hl:y.stk.length≤1000000000):SC G Tryz.prog 62 [.pointer (some ⟨m,0,none⟩),nw op A B] H (fun v H'=> v= .tuple #[]∧H'=Mo m (x,{y with stk:=nu y.stk fun a=> (a.1,w64 (a.2*A))})::R):=by
 have hdl:y.stk.dropLast.length≤1000000000:=by rw[List.length_dropLast];omega
 refine sWk Tryz.func62 Tryz.ntmps62 ?_
 refine gk (k:=bxx (k:=fun b3=>?_))
 refine go ?_
 refine d1_ rfl (ET h0 hl) (k:=alc (k:=fun b4=>?_))
 refine sto (k:=on_ (qn_ (wr_ (e_ mv (k:=e_ fla (k:=e_ ldv (k:=e_ fla (k:=e_ ldv (k:=e_ fla (k:=e_ ldv (k:=?_)))))))))))
 refine e_ (sD 18446744073709551616 rfl rfl rfl rfl _ _ rfl rfl) (k:=?_)
 refine e_ (bld [(0,_),(1,_)]) (k:=?_)
 refine d2_ rfl (nF (y:={y with stk:=y.stk.dropLast}) (b:=w64 ((fR y.stk).2*A)) hdl) (k:=gk (k:=rt_ Tryz.results62 (k:=?_)))
 rw[←show y.stk.dropLast++ [((fR y.stk).1,w64 ((fR y.stk).2*A))]=nu y.stk (fun a=> (a.1,w64 (a.2*A)))from rfl];exact⟨_,hsb,rfl,rfl⟩
theorem PT [hr:Rem H Mo m (x,y) R] (h0:0<y.stk.length) (hl:y.stk.length≤1000000000) (hA:A≤1000000000) (hp:y.pc≤1000000000):SC G Tryz.prog 65 [.pointer (some ⟨m,0,none⟩),nw op A B] H (fun v H'=> v= .tuple #[]∧H'=Mo m (x,{y with pc:=if(fR y.stk).1=true then y.pc else y.pc+A})::R):=by
 refine sWk Tryz.func65 Tryz.ntmps65 ?_
 refine gk (k:=bxx (k:=fun b3=>?_))
 refine go ?_
 refine df cI (fun i=> [2,6].contains i) (fun k H=> (k=5→cQ H b3 [.int .i64 ((op:Nat):Int), .int .u64 ((A:Nat):Int), .int .u64 ((B:Nat):Int)])) (af_ 0 (q:=cD fun H hH=>mv) (k:=af_ 1 (q:=cD fun H hH=>mv) (k:=?_)))
 refine cE 5 rfl rfl (a8) rfl (cD fun H hH=>cw) (?_)
 refine cN 2 rfl (a8) rfl (fun k hk=> fun hi=> ab) (cW (vs:= [_]) rfl (KM h0 hl)) ?_
 rintro _ _ ⟨rfl,rfl⟩
 refine cE 3 rfl rfl (a8) rfl (cD fun H hH=>gA (ft:=4) (off:=0) Tryz.underlying97 rfl rfl rfl) (?_)
 refine af_ 4 (q:=cD fun H hH=>k8) (k:=?_)
 refine cN 6 rfl (a8) rfl (fun k hk=> fun hi=> ab) (cW (vs:= [_,_,_]) rfl (KN hA hp)) ?_
 rintro _ _ ⟨rfl,rfl⟩
 refine db (a8) (fun k hk=> fun hi=> absurd hk (ad)) (rt_ Tryz.results65 (k:=?_))
 have hst:(if(!(fR y.stk).1)=true then y.pc+A else y.pc)=(if(fR y.stk).1=true then y.pc else y.pc+A):=by cases(fR y.stk).1 <;> rfl
 rw[←hst];exact⟨_,hsb,rfl,rfl⟩
theorem PS [hr:Rem H Mo m (x,y) R] (h0:0<y.stk.length) (hl:y.stk.length≤1000000000) (hA:A≤1000000000) (hp:y.pc≤1000000000):SC G Tryz.prog 68 [.pointer (some ⟨m,0,none⟩),nw op A B] H (fun v H'=> v= .tuple #[]∧H'=Mo m (x,{y with pc:=if(fR y.stk).1=true then y.pc+A else y.pc})::R):=by
 refine sWk Tryz.func68 Tryz.ntmps68 ?_
 refine gk (k:=bxx (k:=fun b3=>?_))
 refine go ?_
 refine df cI (fun i=> [2,5].contains i) (fun k H=> (k=4→cQ H b3 [.int .i64 ((op:Nat):Int), .int .u64 ((A:Nat):Int), .int .u64 ((B:Nat):Int)])) (af_ 0 (q:=cD fun H hH=>mv) (k:=af_ 1 (q:=cD fun H hH=>mv) (k:=?_)))
 refine cE 4 rfl rfl (a8) rfl (cD fun H hH=>cw) (?_)
 refine cN 2 rfl (a8) rfl (fun k hk=> fun hi=> ab) (cW (vs:= [_]) rfl (KM h0 hl)) ?_
 rintro _ _ ⟨rfl,rfl⟩
 refine cE 3 rfl rfl (a8) rfl (cD fun H hH=>gA (ft:=4) (off:=0) Tryz.underlying97 rfl rfl rfl) (?_)
 refine cN 5 rfl (a8) rfl (fun k hk=> fun hi=> ab) (cW (vs:= [_,_,_]) rfl (KN hA hp)) ?_
 rintro _ _ ⟨rfl,rfl⟩
 refine db (a8) (fun k hk=> fun hi=> absurd hk (ad)) (rt_ Tryz.results68 (k:=?_))
 exact⟨_,hsb,rfl,rfl⟩
end
def cS (p:PrG) (q:PtD) (ins:List Ins):Cfg:=⟨ins,p,(List.range q.fs.length).map (dP q.fs q.ds),q.ds.map (·.1),oG q.dw⟩
theorem Gi {q:PtD}{f d:Nat}(hf:f<q.fs.length):tN ((List.range q.fs.length).map (dP q.fs q.ds)) f d=(dP q.fs q.ds f).getD d 0:=by
 rw[tN,List.getD_eq_getElem?_getD (l:=List.map _ _),Xd,List.getElem?_range hf];all_goals rfl
theorem uZ {G:cK}{H R:cG}{b:Nat}{c:CuS} [hr:Rem H CuH b c R]:SC G Tryz.prog 80 [.pointer (some ⟨b,0,none⟩)] H (fun v H'=> v= .int .i64 (gJ c.ps c.u)∧H'=CuH b c::R):=
 ⟨(KX (G:=G) (H:= [Vr b [.int .i64 0]]) (b:=b) (d:=0) (l:= [])).enter,fun w hw=> by
   obtain⟨x,hx,hs⟩:=wm hr hw
   exact(SC.out ((KX (G:=G) (b:=b)).mono (fun v H' h=> ⟨_,by rw[h.2];exact m6 hx,h.1,rfl⟩))).call w hs⟩
section
variable {G:cK}{H R R2:cG}{m op A B b d:Nat}{x:MX}{y:MY}{p:PrG}{q:PtD}{c:CuS}{ins:List Ins}{s:SV}
theorem O0 [hr:Rem H Mo m (x,y) R] [hp:dq R x.pt q] (hpl:y.pl=((d:Nat):Int)) (hA:A<q.fs.length) (hq:Bj q) (hd:d<q.ds.length) (hl:y.stk.length≤1000000000):SC G Tryz.prog 46 [.pointer (some ⟨m,0,none⟩),nw op A B] H (fun v H'=> v= .tuple #[]∧H'=Mo m (x,{y with stk:=y.stk++ [if 0<tN (cS p q ins).lens A d then(true,262144)else(false,0)]})::R):=by
 have hqf:=hq.f
 have hla:tN (cS p q ins).lens A d=(dP q.fs q.ds A).getD d 0:=Gi hA
 rw[hla]
 refine nN hr (fun s=> ?_)
 refine sWk Tryz.func46 Tryz.ntmps46 ?_
 refine gk (k:=bxx (k:=fun b3=>?_))
 refine go ?_
 refine df cI (fun i=> [14].contains i) (fun k H=> (k=3→cQ H m (mV x s y))∧(k=6→cQ H x.pt.p [.pointer (some ⟨x.pt.g,0,none⟩), .pointer (some ⟨x.pt.d,0,none⟩)])∧(k=8→cQ H b3 [.int .i64 ((op:Nat):Int), .int .u64 ((A:Nat):Int), .int .u64 ((B:Nat):Int)])∧(k=13→cQ H m (mV x s y))) (af_ 0 (q:=cD fun H hH=>mv) (k:=af_ 1 (q:=cD fun H hH=>nck) (k:=af_ 2 (q:=cD fun H hH=>fla) (k:=?_))))
 refine cE 3 rfl rfl (a8) rfl (cD fun H hH=>ak) (?_)
 refine af_ 4 (q:=cD fun H hH=>nck) (k:=af_ 5 (q:=cD fun H hH=>fla) (k:=?_))
 refine cE 6 rfl rfl (a8) rfl (cD fun H hH=>ar) (?_)
 refine af_ 7 (q:=cD fun H hH=>fla) (k:=?_)
 refine cE 8 rfl rfl (a8) rfl (cD fun H hH=>aF) (?_)
 refine cE 9 rfl rfl (a8) rfl (cD fun H hH=>dy rfl (aa)) (?_)
 refine af_ 10 (q:=cD fun H hH=>mv) (k:=af_ 11 (q:=cD fun H hH=>nck) (k:=af_ 12 (q:=cD fun H hH=>fla) (k:=?_)))
 refine cE 13 rfl rfl (a8) rfl (cD fun H hH=>by have hN:=hH.2.2.2 rfl;exact evq ldv (congrArg (Value.int .i64) hpl)) (?_)
 refine cN 14 rfl (a8) rfl (fun k hk=> ⟨fun hi=> ab,fun hi=> ab,fun hi=> ab,fun hi=> ab⟩) (cW (vs:= [_,_,_]) rfl (KT (a:=x.pt) hA hd)) ?_
 rintro _ _ ⟨rfl,rfl⟩
 refine af_ 15 (q:=cD fun H hH=>igt) (k:=db (a8) (fun k hk=> ⟨fun hi=> ab,fun hi=> absurd hk (ad),fun hi=> ab,fun hi=> absurd hk (ad)⟩) (gk (k:=wi_ (k:=fun h1=>?_) (m:=fun h1=>?_))))
 ·have hv:0<(dP q.fs q.ds A).getD d 0:=by have h9:=h1;omega
  refine wr_ (?_)
  refine du (H':=Mo m (x,y)::R) (cJ.trans (H':=Vr m (mV x s y)::Row s eVV y.stk::R) (hsb) jB) ?_
  refine e_ mv (k:=e_ (bld [(0,_),(1,_)]) (k:=?_))
  refine d2_ rfl (nF (a:=true) (b:=262144) hl) (k:=gk (k:=rt_ Tryz.results46 (k:=?_)))
  rw[if_pos hv];exact⟨_,hsb,rfl,rfl⟩
 have hv:¬0<(dP q.fs q.ds A).getD d 0:=az
 refine wr_ (?_)
 refine du (H':=Mo m (x,y)::R) (cJ.trans (H':=Vr m (mV x s y)::Row s eVV y.stk::R) (hsb) jB) ?_
 refine e_ mv (k:=e_ (bld []) (k:=?_))
 refine d2_ rfl (nF (a:=false) (b:=0) hl) (k:=gk (k:=rt_ Tryz.results46 (k:=?_)))
 rw[if_neg hv];exact⟨_,hsb,rfl,rfl⟩
theorem Bu [hg:Glb G R] [hm:cQ R m (mV x s y)] [hc:Rem H CuH b c R] (hpl:y.pl=((d:Nat):Int)) (hc0:iK c):SC G Tryz.prog 105 [.pointer (some ⟨m,0,none⟩), .pointer (some ⟨b,0,none⟩)] H (fun v H'=> v= .bool (AD d (ei d c))∧H'=CuH b (ei d c)::R):=by
 refine SC.less (cJ.rem hc cJ.refl) ?_
 refine sWk Tryz.func105 Tryz.ntmps105 ?_
 refine go ?_
 refine df cI (fun i=> [3].contains i) (fun k H=> (k=7→cQ H m (mV x s y))) (af_ 0 (q:=cD fun H hH=>mv) (k:=af_ 1 (q:=cD fun H hH=>nck) (k:=af_ 2 (q:=cD fun H hH=>fla) (k:=af_ 4 (q:=cD fun H hH=>mv) (k:=af_ 5 (q:=cD fun H hH=>nck) (k:=af_ 6 (q:=cD fun H hH=>fla) (k:=?_)))))))
 refine cE 7 rfl rfl (a8) rfl (cD fun H hH=>bF) (?_)
 refine cN 3 rfl (a8) rfl (fun k hk=> fun hi=> ab) (cW (vs:= [_]) rfl (uZ (c:=c))) ?_
 rintro _ _ ⟨rfl,rfl⟩
 refine af_ 8 (q:=cD fun H hH=>ilt) (k:=db (a8) (fun k hk=> fun hi=> ab) (gk (k:=wi_ (k:=fun h1=>?_) (m:=fun h1=>?_))))
 ·have hlt:gJ c.ps c.u<((d:Nat):Int):=h1
  have hst:ei d c=jE c d:=by rw[ei,if_pos hlt]
  rw[hst]
  refine wr_ (e_ mv (k:=e_ mv (k:=e_ nck (k:=e_ fla (k:=?_)))))
  refine e_ (evq ldv (congrArg (Value.int .i64) hpl)) (k:=?_)
  refine d2_ rfl (O8 hc0) (k:=go ?_)
  refine df cI (fun i=> [3].contains i) (fun k H=> (k=7→cQ H m (mV x s y))) (af_ 0 (q:=cD fun H hH=>mv) (k:=af_ 1 (q:=cD fun H hH=>nck) (k:=af_ 2 (q:=cD fun H hH=>fla) (k:=af_ 4 (q:=cD fun H hH=>mv) (k:=af_ 5 (q:=cD fun H hH=>nck) (k:=af_ 6 (q:=cD fun H hH=>fla) (k:=?_)))))))
  refine cE 7 rfl rfl (a8) rfl (cD fun H hH=>bF) (?_)
  refine cN 3 rfl (a8) rfl (fun k hk=> fun hi=> ab) (cW (vs:= [_]) rfl (uZ)) ?_
  rintro _ _ ⟨rfl,rfl⟩
  refine af_ 8 (q:=cD fun H hH=>ieq) (k:=af_ 9 (q:=cD fun H hH=>asn) (k:=db (a8) (fun k hk=> fun hi=> ab) (gk (k:=rt_ Tryz.results105 (k:=?_)))))
  exact⟨_,hsb,rfl,rfl⟩
 have hlt:¬gJ c.ps c.u<((d:Nat):Int):=h1
 have hst:ei d c=c:=by rw[ei,if_neg hlt]
 rw[hst]
 refine go ?_
 refine df cI (fun i=> [3].contains i) (fun k H=> (k=7→cQ H m (mV x s y))) (af_ 0 (q:=cD fun H hH=>mv) (k:=af_ 1 (q:=cD fun H hH=>nck) (k:=af_ 2 (q:=cD fun H hH=>fla) (k:=af_ 4 (q:=cD fun H hH=>mv) (k:=af_ 5 (q:=cD fun H hH=>nck) (k:=af_ 6 (q:=cD fun H hH=>fla) (k:=?_)))))))
 refine cE 7 rfl rfl (a8) rfl (cD fun H hH=>bF) (?_)
 refine cN 3 rfl (a8) rfl (fun k hk=> fun hi=> ab) (cW (vs:= [_]) rfl (uZ)) ?_
 rintro _ _ ⟨rfl,rfl⟩
 refine af_ 8 (q:=cD fun H hH=>ieq) (k:=af_ 9 (q:=cD fun H hH=>asn) (k:=db (a8) (fun k hk=> fun hi=> ab) (gk (k:=rt_ Tryz.results105 (k:=?_)))))
 exact⟨_,hsb,rfl,rfl⟩
theorem Bx [hr:cQ H m (mV x s y)] [hp:dq H x.pt q] [hpr:gE H x.pa p] {w f k:Nat}(hpl:y.pl=((d:Nat):Int)) (hk:k<q.fs.length) (hk2:k<p.avgs.length) (hd:d<q.ds.length) (ha:∀a∈p.avgs,0≤a) (hw:w<18446744073709551616):SC G Tryz.prog 106 [.pointer (some ⟨m,0,none⟩), .int .u64 ((w:Nat):Int), .int .i64 ((f:Nat):Int), .int .i64 ((k:Nat):Int)] H (fun v H'=> v=vvV (tr (cS p q ins) d w f ((k:Nat):Int))∧H'=H):=by
 obtain⟨av,hav⟩:∃a,p.avgs[k]? =some a:=⟨_,Yi (aa)⟩
 have hgd:p.avgs.getD k 0=av:=by rw[List.getD_eq_getElem?_getD,hav];all_goals rfl
 refine sWk Tryz.func106 Tryz.ntmps106 ?_
 refine gk (k:=alc (k:=fun b8=>?_))
 refine go ?_
 refine df cI (fun i=> [14,23,26].contains i) (fun k H=> (k=5→cQ H m (mV x s y))∧(k=8→cQ H x.pt.p [.pointer (some ⟨x.pt.g,0,none⟩), .pointer (some ⟨x.pt.d,0,none⟩)])∧(k=13→cQ H m (mV x s y))∧(k=19→cQ H m (mV x s y))∧(k=21→Sl H x.pa.av eI p.avgs)∧(k=22→Sl H x.pa.av eI p.avgs)) (af_ 0 (q:=cD fun H hH=>mv) (k:=af_ 1 (q:=cD fun H hH=>mv) (k:=af_ 2 (q:=cD fun H hH=>mv) (k:=af_ 3 (q:=cD fun H hH=>nck) (k:=af_ 4 (q:=cD fun H hH=>fla) (k:=?_))))))
 refine cE 5 rfl rfl (a8) rfl (cD fun H hH=>ak) (?_)
 refine af_ 6 (q:=cD fun H hH=>nck) (k:=af_ 7 (q:=cD fun H hH=>fla) (k:=?_))
 refine cE 8 rfl rfl (a8) rfl (cD fun H hH=>ar) (?_)
 refine af_ 9 (q:=cD fun H hH=>mv) (k:=af_ 10 (q:=cD fun H hH=>mv) (k:=af_ 11 (q:=cD fun H hH=>nck) (k:=af_ 12 (q:=cD fun H hH=>fla) (k:=?_))))
 refine cE 13 rfl rfl (a8) rfl (cD fun H hH=>by have hN:=hH.2.2.1 rfl;exact evq ldv (congrArg (Value.int .i64) hpl)) (?_)
 refine af_ 15 (q:=cD fun H hH=>mv) (k:=af_ 16 (q:=cD fun H hH=>nck) (k:=af_ 17 (q:=cD fun H hH=>fla) (k:=af_ 18 (q:=cD fun H hH=>fla) (k:=?_))))
 refine cE 19 rfl rfl (a8) rfl (cD fun H hH=>by have hN:=hH.2.2.2.1 rfl;exact ldv) (?_)
 refine af_ 20 (q:=cD fun H hH=>mv) (k:=?_)
 refine cE 21 rfl rfl (a8) rfl (cD fun H hH=>by have hN:=hH.2.2.2.2.1 rfl;exact ixa) (?_)
 refine cE 22 rfl rfl (a8) rfl (cD fun H hH=>by have hN:=hH.2.2.2.2.2 rfl;exact lel (hy:=hav)) (?_)
 refine cN 14 rfl (a8) rfl (fun k hk=> ⟨fun hi=> ab,fun hi=> ab,fun hi=> ab,fun hi=> ab,fun hi=> ab,fun hi=> ab⟩) (cW (vs:= [_,_,_]) rfl (KT (a:=x.pt) hk hd)) ?_
 rintro _ _ ⟨rfl,rfl⟩
 refine cN 23 rfl (a8) rfl (fun k hk=> ⟨fun hi=> ab,fun hi=> absurd hk (ad),fun hi=> absurd hk (ad),fun hi=> ab,fun hi=> ab,fun hi=> ab⟩) (cW (vs:= [_,_,_]) rfl (PO)) ?_
 rintro _ _ ⟨rfl,rfl⟩
 refine cE 24 rfl rfl (a8) rfl (cD fun H hH=>sD 18446744073709551616 rfl rfl rfl rfl w (Jc f ((dP q.fs q.ds k).getD d 0) av.toNat) rfl (an)) (?_)
 refine af_ 25 (q:=cD fun H hH=>bld [(0,_),(1,_)]) (k:=?_)
 refine cN 26 rfl (a8) rfl (fun k hk=> ⟨fun hi=> ab,fun hi=> absurd hk (ad),fun hi=> absurd hk (ad),fun hi=> ab,fun hi=> ab,fun hi=> absurd hk (ad)⟩) (dM rfl rfl rfl) ?_
 rintro _ _ ⟨rfl,rfl⟩
 refine db (a8) (fun k hk=> ⟨fun hi=> absurd hk (ad),fun hi=> absurd hk (ad),fun hi=> absurd hk (ad),fun hi=> absurd hk (ad),fun hi=> absurd hk (ad),fun hi=> absurd hk (ad)⟩) (gk (k:=rt_ Tryz.results106 (k:=?_)))
 exact⟨_,hsb,by rw[tr,Int.toNat_natCast];show _=vvV (true,w64 (w*Jc f (tN ((List.range q.fs.length).map (dP q.fs q.ds)) k d) (p.avgs.getD k 0).toNat));rw[Gi hk,hgd];all_goals rfl,rfl⟩
end
end Go.Sx
