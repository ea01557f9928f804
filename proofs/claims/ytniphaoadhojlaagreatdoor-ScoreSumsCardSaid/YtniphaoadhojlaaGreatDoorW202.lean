import Derived.Test.YtniphaoadhojlaaGreatDoorFx
import Derived.Test.YtniphaoadhojlaaGreatDoorSxP
import Derived.Test.YtniphaoadhojlaaGreatDoorW201
set_option linter.all false
namespace Go.Sx
open Go Go.Proofs Tryz
set_option maxRecDepth 100000

theorem set_mid (o mid post : List Nat) (v : Nat) (h : o.length < mid.length) : (o ++ mid.drop o.length ++ post).set o.length v = (o ++ [v]) ++ mid.drop (o.length + 1) ++ post := by
  rw [List.append_assoc, List.set_append, if_neg (Nat.lt_irrefl _), Nat.sub_self, List.drop_eq_getElem_cons h, List.cons_append, List.set_cons_zero]
  simp
/-- The slice sx reads as xs beyond what has been written over. -/
def RdA (R : Heap) (F : SV) (mid post : List Nat) (sx : SV) (xs : List Nat) : Prop := ∀ o : List Nat, o.length ≤ mid.length → ∃ ys : List Nat, Sl (Row F eU (o ++ mid.drop o.length ++ post) :: R) sx eU ys ∧ ys.length = xs.length ∧ ∀ j, o.length ≤ j → ys[j]? = xs[j]?
theorem RdA.apart {R : Heap} {F : SV} {mid post : List Nat} {sx : SV} {xs : List Nat} (h : Sl R sx eU xs) : RdA R F mid post sx xs := fun o _ => ⟨xs, inferInstance, rfl, fun _ _ => rfl⟩
theorem row_up {R : Heap} {F : SV} {o mid post : List Nat} (hF : Full F) (ho : o.length ≤ mid.length) : Sl (Row F eU (o ++ mid.drop o.length ++ post) :: R) (F.up mid.length) eU (o ++ mid.drop o.length) := by
  have hl : (o ++ mid.drop o.length).length = mid.length := by rw [List.length_append, List.length_drop]; omega
  have := Sl.up (Sl.row (H := R) (s := F) (e := eU) (xs := o ++ mid.drop o.length ++ post)) hF.nc (n := mid.length) (by rw [List.length_append]; omega)
  rwa [List.take_append_of_le_length (by omega), List.take_of_length_le (by omega)] at this
theorem RdA.self {R : Heap} {F : SV} {mid post : List Nat} (hF : Full F) : RdA R F mid post (F.up mid.length) mid := fun o ho => ⟨_, row_up hF ho, by rw [List.length_append, List.length_drop]; omega, fun j hj => by
  rw [List.getElem?_append_right hj, List.getElem?_drop]; congr 1; omega⟩
theorem tMulAddVWW {G : Base} {H R : Heap} {F sx : SV} {mid post xs : List Nat} {u r : Nat} [hr : RemR H F eU (mid ++ post) R] (hF : Full F) (hx : RdA R F mid post sx xs) (hl : xs.length = mid.length) (hx9 : xs.length ≤ 1000000) (hw : Wd xs) (hy : u < B64) (hr9 : r < B64) : SC G Tryz.prog 37 [(F.up mid.length).val, sx.val, .int .u64 (u : Int), .int .u64 (r : Int)] H (fun v H' => ∃ (o : List Nat) (c : Nat), v = .int .u64 (c : Int) ∧ o.length = mid.length ∧ Wd o ∧ c < B64 ∧ wv o + B64 ^ mid.length * c = wv xs * u + r ∧ H' = Row F eU (o ++ post) :: R) := by
  refine SC.lss (HSub.remR hr HSub.refl) ?_
  obtain ⟨ys0, hs0, hl0, _⟩ := hx [] (Nat.zero_le _)
  have hz0 := row_up (R := R) (F := F) (o := []) (mid := mid) (post := post) hF (Nat.zero_le _)
  simp only [List.nil_append, List.length_nil, List.drop_zero] at hs0 hz0
  refine SC.out (sc_walk Tryz.func37 rfl Tryz.ntmps37 (by kernel_rfl) (Nat.le_of_ble_eq_true rfl) ?_)
  refine ws_ (wr_ (e_ asn (k:=on_ (qn_ (ws_ (ws_ (wr_ (e_ mv (k:=e_ lnn (k:=e_ mv (k:=e_ lnn (k:=e_ ine (k:=on_ (?_))))))))))))))
  refine qn_ (wi_ (k:=fun h1=>?_) (m:=fun h1=>?_))
  · exfalso; have h9 := h1; omega -- DONE
  refine wk_ (qn_ (ws_ (wr_ (e_ mv (k:=e_ asn (k:=on_ (qn_ (ws_ (ws_ (wr_ (e_ mv (k:=e_ lnn (k:=e_ mv (k:=?_))))))))))))))
  refine on_ (qn_ (wb_ (wl2_ (Nat × (List Nat) × Nat) (fun y => y.2.1.length = y.1 ∧ y.1 ≤ mid.length ∧ Wd y.2.1 ∧ y.2.2 < B64 ∧ wv y.2.1 + B64 ^ y.1 * y.2.2 = wv (xs.take y.1) * u + r) (fun y => [(8, .int .u64 ((y.2.2 : Nat) : Int)), (19, .int .i64 ((y.1 : Nat) : Int))]) [(0, _), (1, _), (2, _), (18, _)] (fun y => [Row F eU (y.2.1 ++ mid.drop y.1 ++ post)]) _ (fun y => mid.length - y.1) ((0, [], r)) (h0:=?_) (k:=?_))))
  · try dsimp only
    exact ⟨rfl, Nat.zero_le _, Wd.nil, hr9, by simp [wv]⟩
  rintro ⟨i, o, c⟩ ⟨hoi, hi, hwo, hc, hv⟩
  try dsimp only [List.cons_append, List.nil_append] at *
  refine ws_ (wr_ (e_ ilt (k:=on_ (qn_ (ws_ (wi_ (k:=fun h2=>?_) (m:=fun h2=>?_)))))))
  · have hi2 : i < mid.length := by have h9 := h2; omega
    obtain ⟨x, hxi⟩ : ∃ x, xs[i]? = some x := ⟨_, List.getElem?_eq_getElem (by omega)⟩
    have hxb := hw.get hxi
    subst hoi
    obtain ⟨ys, hsl, hyl, hyg⟩ := hx o (by omega)
    have hget : ys[o.length]? = some x := by rw [hyg _ (Nat.le_refl _)]; exact hxi
    have hzi := row_up (R := R) (F := F) (o := o) (mid := mid) (post := post) hF (by omega)
    have hol : (o ++ mid.drop o.length).length = mid.length := by rw [List.length_append, List.length_drop]; omega
    have hoa : (o ++ mid.drop o.length ++ post).length = mid.length + post.length := by rw [List.length_append, hol]
    have hcl := carry_lt hxb hy hc
    have hst := mulAdd_step rfl hxi hv
    refine wk_ (qn_ (ws_ (wb_ (ws_ (wr_ (e_ mv (k:=e_ asn (k:=on_ (qn_ (wr_ (e_ mv (k:=e_ mv (k:=e_ mv (k:=?_))))))))))))))
    refine e_ mv (k:=e_ ixa (k:=e_ (lel (hy:=hget)) (k:=e_ mv (k:=e_ mv (k:=?_)))))
    refine cp_ (vs:=[_,_,_]) rfl (tMulAddWWW hxb hy hc) (k:=e_ mv (k:=e_ exr (k:=e_ exr (k:=e_ asn (k:=e_ ixa (k:=?_))))))
    refine s_ (st_store_el (s := F) (i := o.length) rfl rfl rfl (by omega)) (k:=?_)
    rintro _ _ ⟨rfl, rfl⟩
    rw [set_mid _ _ _ _ hi2]
    refine on_ (bn_ (qn_ (wr_ (e_ iad (k:=e_ mv (k:=on_ (?_)))))))
    refine ln_ ((o.length + 1, o ++ [(x * u + c) % B64], (x * u + c) / B64)) (k:=?_)
    try dsimp only
    exact ⟨by simp, by omega, hwo.app (Wd.cons (Nat.mod_lt _ (by decide)) Wd.nil), hcl, hst⟩
  obtain rfl : i = mid.length := by have h9 := h2; omega
  rw [List.drop_length, List.append_nil]
  rw [← hl, List.take_length, hl] at hv
  refine we_ (qe_ (le_ (bh_ (qn_ (wt_ (rt_ Tryz.results37 (k:=?_)))))))
  exact ⟨_, hsb, o, c, rfl, hoi, hwo, hc, hv, rfl⟩
end Go.Sx
