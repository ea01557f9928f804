import Derived.Test.YtniphaoadhojlaaGreatDoorFx
import Derived.Test.YtniphaoadhojlaaGreatDoorSxP
import Derived.Test.YtniphaoadhojlaaGreatDoorW221
set_option linter.all false
namespace Go.Sx
open Go Go.Proofs Tryz
set_option maxRecDepth 100000

/-! ## math/big: Int.Exp -/
theorem w18e : wds 18 = [18] := wds_one (by decide) (by decide)
theorem tExpN2 {G : Base} {H : Heap} {F F' : SV} (hx : Sl H F eU (wds 10)) (hy : Sl H F' eU (wds 18)) : SC G Tryz.prog 74 [.slice none 0 0, .pointer none, F.val, F'.val, .slice none 0 0, .bool false] (Row SV.nil eU [] :: Row SV.nil eU [] :: Row SV.nil eU [] :: H) (fun v H' => ∃ (F : SV) (all : List Nat), v = (F.up (wds 1000000000000000000).length).val ∧ NW F all 1000000000000000000 ∧ H' = Row F eU all :: H) := by
  rw [w10e] at hx
  rw [w18e] at hy
  exact tExpNN.mono fun v' H' ⟨F, all, h1, h2, h3⟩ => ⟨F, all, by rw [h1, wds_word (by decide) (by decide)], h2, h3⟩
theorem tIntExp {G : Base} {H R R2 R3 : Heap} {a b c : Nat} [ha : Rem H Vr a [.bool false, .slice none 0 0] R] [hb : Rem R Bg b 10 R2] [hc : Rem R2 Bg c 18 R3] : SC G Tryz.prog 44 [.pointer (some ⟨a, 0, none⟩), .pointer (some ⟨b, 0, none⟩), .pointer (some ⟨c, 0, none⟩), .pointer none, .bool false] H (fun v' H' => v' = .pointer (some ⟨a, 0, none⟩) ∧ H' = Bg a 1000000000000000000 :: R3) := by
  refine SC.lss (HSub.rem ha (HSub.keep (HSub.rem hb (HSub.keep (HSub.rem hc HSub.refl))))) ?_
  have hen : ∀ (q0 : Array Value) w, (callFunc 44 q0).run Tryz.prog w = .ok (.enter 44 q0) w := fun _ _ => by kernel_rfl
  refine sc_bg b hen fun F' all' hn' => sc_bg c hen fun F2' all2' hn2' => ?_
  refine SC.lss (HSub.add (A := Row SV.nil eU []) (.inl ⟨rfl, rfl, rfl⟩) (HSub.add (A := Row SV.nil eU []) (.inl ⟨rfl, rfl, rfl⟩) (HSub.add (A := Row SV.nil eU []) (.inl ⟨rfl, rfl, rfl⟩) HSub.refl))) ?_
  refine SC.out (sc_walk Tryz.func44 rfl Tryz.ntmps44 (by kernel_rfl) (Nat.le_of_ble_eq_true rfl) ?_)
  refine ws_ (wr_ (e_ asn (k:=on_ (qn_ (ws_ (wr_ (e_ mv (k:=e_ nck (k:=e_ fla (k:=e_ ldv (k:=e_ asn (k:=on_ (qn_ (?_))))))))))))))
  refine ws_ (ws_ (wr_ (e_ mv (k:=e_ nck (k:=e_ fla (k:=e_ ldv (k:=on_ (qn_ (wi_ (k:=fun h1=>?_) (m:=fun h1=>?_))))))))))
  · cases h1 -- DONE
  refine wk_ (qn_ (ws_ (wr_ (e_ mv (k:=e_ nck (k:=e_ fla (k:=e_ ldv (k:=e_ asn (k:=on_ (qn_ (ws_ (wr_ (e_ asn (k:=?_))))))))))))))
  refine on_ (qn_ (ws_ (ws_ (wr_ (e_ mv (k:=?_))))))
  refine e_ (ev_neq_ptr_nil rfl) (k:=?_)
  refine on_ (qn_ (wi_ (k:=fun h2=>?_) (m:=fun h2=>?_)))
  · cases h2 -- DONE
  refine wk_ (qn_ (ws_ (wr_ (e_ mv (k:=e_ mv (k:=e_ nck (k:=e_ fla (k:=e_ ldv (k:=e_ mv (k:=e_ mv (k:=e_ mv (k:=e_ mv (k:=?_)))))))))))))
  refine s_ (st_call (vs := [_, _, _, _, _, _]) rfl (tExpN2 (hn'.sl inferInstance) (hn2'.sl inferInstance))) (k:=?_)
  rintro _ _ ⟨F, all, rfl, hn, rfl⟩
  refine e_ nck (k:=e_ fla (k:=sto (k:=on_ (qn_ (ws_ (wr_ (e_ mv (k:=e_ mv (k:=e_ nck (k:=e_ fla (k:=e_ ldv (k:=e_ (lnn (hs:=hn.sl inferInstance)) (k:=e_ igt (k:=?_))))))))))))))
  refine e_ mv (k:=sg_and 5 96 (k:=fun h3=>eg_ mv (k:=eg_ nck (k:=eg_ fla (k:=eg_ ldv (k:=e_ pkt (k:=on_ (edq))))))) (q:=e_ mv (k:=sg_and 4 101 (c:=false) (k:=fun h5=>?_) (q:=?_))))
  · exfalso; exact absurd (h5).2 (by decide) -- DONE
  refine e_ mv (k:=sg_and 6 108 (c:=false) (k:=fun h7=>?_) (q:=?_))
  · exfalso; exact absurd (h7).2 (by decide) -- DONE
  simp only [Bool.and_false]
  refine e_ nck (k:=e_ fla (k:=sto (k:=on_ (qn_ (ws_ (ws_ (wr_ (e_ mv (k:=e_ nck (k:=e_ fla (k:=e_ ldv (k:=e_ mv (k:=sg_and 4 119 (c:=false) (k:=fun h9=>?_) (q:=?_))))))))))))))
  · exfalso; have h9 := h9; exact absurd h9 (by decide) -- DONE
  refine on_ (qn_ (wi_ (k:=fun h10=>?_) (m:=fun h10=>?_)))
  · exact absurd (h10).1 (by decide) -- DONE
  refine wk_ (qn_ (ws_ (wr_ (e_ mv (k:=e_ asn (k:=on_ (qn_ (wt_ (rt_ Tryz.results44 (k:=?_))))))))))
  exact ⟨_, HSub.bgI hn (hsb), rfl, rfl⟩
theorem tExp {G : Base} {H R R2 R3 : Heap} {a b c : Nat} [ha : Rem H Vr a [.bool false, .slice none 0 0] R] [hb : Rem R Bg b 10 R2] [hc : Rem R2 Bg c 18 R3] : SC G Tryz.prog 21 [.pointer (some ⟨a, 0, none⟩), .pointer (some ⟨b, 0, none⟩), .pointer (some ⟨c, 0, none⟩), .pointer none] H (fun v' H' => v' = .pointer (some ⟨a, 0, none⟩) ∧ H' = Bg a 1000000000000000000 :: R3) := by
  refine SC.out (sc_walk Tryz.func21 rfl Tryz.ntmps21 (by kernel_rfl) (Nat.le_of_ble_eq_true rfl) ?_)
  refine ws_ (wr_ (e_ asn (k:=on_ (qn_ (ws_ (wr_ (e_ mv (k:=e_ mv (k:=e_ mv (k:=e_ mv (k:=?_)))))))))))
  refine cp_ (vs:=[_,_,_,_,_]) rfl (tIntExp (b := b) (c := c)) (k:=e_ asn (k:=on_ (qn_ (wt_ (rt_ Tryz.results21 (k:=?_))))))
  exact ⟨_, HSub.refl, rfl, rfl⟩
end Go.Sx
