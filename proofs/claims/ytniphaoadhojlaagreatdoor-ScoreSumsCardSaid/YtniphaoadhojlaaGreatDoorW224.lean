import Derived.Test.YtniphaoadhojlaaGreatDoorFx
import Derived.Test.YtniphaoadhojlaaGreatDoorSxP
import Derived.Test.YtniphaoadhojlaaGreatDoorW223
set_option linter.all false
namespace Go.Sx
open Go Go.Proofs Tryz
set_option maxRecDepth 100000

/-! ## concordlaw12.fixed -/
theorem tP15 {G : Base} {H : Heap} [hg : Glb G H] : SC G Tryz.prog 7 [.string ⟨#[49, 46, 53]⟩] H (fun v H' => v = .tuple #[.int .u64 393216, .nilIface] ∧ H' = H) :=
  (tParseE (q := ⟨#[49, 46, 53]⟩) (r := ⟨#[53]⟩) (by decide +kernel) (by decide) (by decide) (by decide +kernel) (by decide +kernel) (by decide) (by decide) (by decide) (by decide)).mono fun v H' ⟨h1, h2⟩ => ⟨by rw [h1, if_pos (by decide)], h2⟩
theorem tP150 {G : Base} {H : Heap} [hg : Glb G H] : SC G Tryz.prog 7 [.string ⟨#[49, 46, 53, 48]⟩] H (fun v H' => v = .tuple #[.int .u64 0, G.err 12] ∧ H' = H) :=
  (tParseE (q := ⟨#[49, 46, 53, 48]⟩) (r := ⟨#[53, 48]⟩) (by decide +kernel) (by decide) (by decide) (by decide +kernel) (by decide +kernel) (by decide) (by decide) (by decide) (by decide)).mono fun v H' ⟨h1, h2⟩ => ⟨by rw [h1, if_neg (by decide)], h2⟩
theorem text_1 : textL 1 = byts ⟨#[48, 46, 48, 48, 48, 48, 48, 51, 56, 49, 52, 54, 57, 55, 50, 54, 53, 54, 50, 53]⟩ := by
  rw [textL, dec_small (by decide)]
  decide
theorem tText1 {G : Base} {H : Heap} : SC G Tryz.prog 12 [.int .u64 1] H (fun v H' => v = .string ⟨#[48, 46, 48, 48, 48, 48, 48, 51, 56, 49, 52, 54, 57, 55, 50, 54, 53, 54, 50, 53]⟩ ∧ H' = H) :=
  (tText (x := 1) (by decide)).mono fun v H' ⟨⟨q, h1, h2⟩, h3⟩ => ⟨by rw [h1, byts_inj.1 (h2.trans text_1)], h3⟩
theorem tFixed {G : Base} {H : Heap} [hg : Glb G H] [ErrT G] [hb : BigG H] : SC G Tryz.prog 4 [] H (fun v H' => v = .bool true ∧ H' = H) := by
  refine SC.out (sc_walk Tryz.func4 rfl Tryz.ntmps4 (by kernel_rfl) (Nat.le_of_ble_eq_true rfl) ?_)
  refine ws_ (wr_ (e_ asn (k:=on_ (qn_ (ws_ (wr_ (?_)))))))
  refine cp_ (vs:=[_]) rfl (tP15) (k:=e_ mv (k:=e_ exr (k:=e_ exr (k:=e_ asn (k:=e_ asn (k:=on_ (qn_ (ws_ (wr_ (?_))))))))))
  refine cp_ (vs:=[_]) rfl (tP150) (k:=e_ mv (k:=e_ exr (k:=e_ exr (k:=e_ asn (k:=e_ asn (k:=on_ (qn_ (ws_ (ws_ (wr_ (e_ mv (k:=?_))))))))))))
  refine e_ ((by first | exact ev_neq_nil_nil rfl | exact ev_neq_nil_val rfl)) (k:=?_)
  refine e_ mv (k:=sg_or 3 18 (k:=fun h1=>eg_ mv (k:=eg_ ine (k:=e_ pkf (k:=on_ (edq))))) (q:=e_ mv (k:=sg_or 4 23 (k:=fun h2=>eg_ mv (k:=cpg_ (vs:=[_]) (hc:=(tNumV)) (k:=eg_ ine (k:=e_ pkf (k:=on_ (edq)))))) (q:=on_ (qn_ (wi_ (k:=fun h3=>?_) (m:=fun h3=>?_)))))))
  · exfalso; rcases h3 with (h9 | h9) | h9
    · cases h9
    · exact h9 trivial
    · exact h9 trivial -- DONE
  refine wk_ (qn_ (ws_ (wr_ (?_))))
  refine cp_ (vs:=[_]) rfl (tLog10) (k:=e_ ieq (k:=e_ mv (k:=sg_and 3 29 (k:=fun h4=>cpg_ (vs:=[_,_]) (hc:=(tIdf)) (k:=eg_ ieq (k:=e_ pkt (k:=on_ (edq))))) (q:=e_ mv (k:=sg_and 3 33 (k:=fun h5=>cpg_ (vs:=[_,_,_]) (hc:=(tSat)) (k:=eg_ ieq (k:=e_ pkt (k:=on_ (edq))))) (q:=e_ mv (k:=sg_and 3 37 (k:=fun h6=>cpg_ (vs:=[_]) (hc:=(tText1)) (k:=eg_ seq_ (k:=e_ pkt (k:=on_ (edq))))) (q:=e_ asn (k:=on_ (qn_ (wt_ (rt_ Tryz.results4 (k:=?_)))))))))))))
  exact ⟨_, hsb, vb (by decide), rfl⟩
end Go.Sx
