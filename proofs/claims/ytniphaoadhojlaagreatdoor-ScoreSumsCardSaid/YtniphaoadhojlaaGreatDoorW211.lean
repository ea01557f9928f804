import Derived.Test.YtniphaoadhojlaaGreatDoorFx
import Derived.Test.YtniphaoadhojlaaGreatDoorSxP
import Derived.Test.YtniphaoadhojlaaGreatDoorW210
set_option linter.all false
namespace Go.Sx
open Go Go.Proofs Tryz
set_option maxRecDepth 100000

abbrev E18 : Nat := 1000000000000000000
theorem tDivWVW {G : Base} {H R : Heap} {F sx : SV} {mid post xs : List Nat} [hr : RemR H F eU (mid ++ post) R] (hF : Full F) (hfc : mid.length + post.length = F.c) [hx : Sl R sx eU xs] (hl : xs.length = mid.length) (hl1 : 0 < mid.length) (hx9 : xs.length ≤ 1000000) (hw : Wd xs) : SC G Tryz.prog 115 [(F.up mid.length).val, .int .u64 0, sx.val, .int .u64 1000000000000000000] H (fun v H' => ∃ (z : List Nat) (r : Nat), v = .int .u64 (r : Int) ∧ z.length = mid.length ∧ Wd z ∧ r < 1000000000000000000 ∧ wv xs = wv z * 1000000000000000000 + r ∧ H' = Row F eU (z ++ post) :: R) := by
  refine SC.lss (HSub.remR hr HSub.refl) ?_
  haveI hz0 := row_upto (R := R) (F := F) (xs := mid) (post := post) hF hfc
  refine SC.out (sc_walk Tryz.func115 rfl Tryz.ntmps115 (by kernel_rfl) (Nat.le_of_ble_eq_true rfl) ?_)
  refine ws_ (wr_ (e_ asn (k:=on_ (qn_ (ws_ (wr_ (e_ mv (k:=e_ asn (k:=on_ (qn_ (ws_ (ws_ (wr_ (?_))))))))))))))
  refine e_ mv (k:=e_ lnn (k:=e_ ieq (k:=on_ (qn_ (wi_ (k:=fun h1=>?_) (m:=fun h1=>?_))))))
  · obtain ⟨x, rfl⟩ : ∃ x, xs = [x] := by
      match xs, (show xs.length = 1 by have h9 := h1; omega) with
      | [a], _ => exact ⟨a, rfl⟩
    have hxb : x < 18446744073709551616 := hw x List.mem_cons_self
    obtain ⟨p0, rfl⟩ : ∃ p0, mid = [p0] := by
      match mid, hl.symm with
      | [a], _ => exact ⟨a, rfl⟩
    refine ws_ (wr_ (e_ mv (k:=e_ mv (k:=e_ (ixa (i:=0)) (k:=e_ (lel (hy:=(show [x][0]? = some x from rfl))) (k:=e_ mv (k:=?_)))))))
    refine cp_ (vs:=[_,_,_]) rfl (tDivA (lo := x) (y0 := 1000000000000000000) hxb (by decide) (by decide)) (k:=e_ mv (k:=e_ exr (k:=e_ exr (k:=e_ asn (k:=e_ asn (k:=on_ (qn_ (ws_ (wr_ (e_ mv (k:=e_ mv (k:=e_ (ixa (i:=0)) (k:=?_)))))))))))))
    refine s_ (st_store_el (s := F) (i := 0) rfl rfl rfl (by simp)) (k:=?_)
    rintro _ _ ⟨rfl, rfl⟩
    refine on_ (qn_ (ws_ (wr_ (e_ mv (k:=e_ asn (k:=on_ (qn_ (wt_ (qr_ (rt_ Tryz.results115 (k:=?_)))))))))))
    exact ⟨_, hsb, [x / 1000000000000000000], x % 1000000000000000000, rfl, rfl, Wd.cons (by simp only [B64]; omega) Wd.nil, Nat.mod_lt _ (by decide), by simp only [wv, B64]; omega, rfl⟩
  refine wk_ (qn_ (ws_ (wr_ (e_ mv (k:=?_)))))
  refine cp_ (vs:=[_]) rfl (tRecip) (k:=e_ asn (k:=on_ (qn_ (ws_ (ws_ (wr_ (e_ mv (k:=e_ lnn (k:=?_)))))))))
  refine e_ (evq isb (congrArg (Value.int .i64) (show _ = ((mid.length : Nat) : Int) - 1 from rfl))) (k:=?_)
  refine e_ asn (k:=on_ (qn_ (wb_ (wl2_ (Nat × (List Nat) × Nat) (fun y => y.1 + y.2.1.length = mid.length ∧ Wd y.2.1 ∧ y.2.2 < 1000000000000000000 ∧ wv (xs.drop y.1) = wv y.2.1 * 1000000000000000000 + y.2.2) (fun y => [(8, .int .u64 (y.2.2 : Int)), (12, .int .i64 (((y.1 : Nat) : Int) - 1))]) [(0, _), (2, _), (3, _), (11, _)] (fun y => [Row F eU (mid.take y.1 ++ y.2.1 ++ post)]) R (fun y => y.1) ((mid.length, [], 0)) (hh:=?_) (h0:=?_) (k:=?_)))))
  · try dsimp only
    rw [List.take_length, List.append_nil]
    exact hsb
  · try dsimp only
    exact ⟨by simp, Wd.nil, by decide, by rw [← hl, List.drop_length]; rfl⟩
  rintro ⟨k, z, r⟩ ⟨hk, hwz, hr9, hv⟩
  try dsimp only [List.cons_append, List.nil_append] at *
  refine ws_ (ws_ (wr_ (e_ mv (k:=e_ ige (k:=on_ (qn_ (wi_ (k:=fun h2=>?_) (m:=fun h2=>?_))))))))
  · obtain ⟨j, rfl⟩ : ∃ j, k = j + 1 := ⟨k - 1, by have h9 := h2; omega⟩
    obtain ⟨x, hxj⟩ : ∃ x, xs[j]? = some x := ⟨_, List.getElem?_eq_getElem (by omega)⟩
    have hxb : x < 18446744073709551616 := hw.get hxj
    have htl : (mid.take (j + 1)).length = j + 1 := by rw [List.length_take]; omega
    have htz : (mid.take (j + 1) ++ z).length = mid.length := by rw [List.length_append, htl]; omega
    haveI hz1 : Sl (Row F eU (mid.take (j + 1) ++ z ++ post) :: R) (F.up mid.length) eU (mid.take (j + 1) ++ z) := by
      have := row_upto (R := R) (F := F) (xs := mid.take (j + 1) ++ z) (post := post) hF (by omega)
      rwa [htz] at this
    have hst := div_step hxj (q := (r * B64 + x) / 1000000000000000000) rfl hv (by decide)
    refine wk_ (qn_ (ws_ (wb_ (wr_ (e_ mv (k:=e_ mv (k:=e_ mv (k:=e_ mv (k:=e_ mv (k:=e_ (ixa (i := j) (hj := by omega)) (k:=e_ (lel (hy:=hxj)) (k:=e_ mv (k:=e_ mv (k:=?_))))))))))))))
    refine cp_ (vs:=[_,_,_,_]) rfl (tDivWW (x1 := r) (x0 := x) hr9 hxb) (k:=e_ mv (k:=e_ exr (k:=e_ exr (k:=e_ (ixa (i := j) (hj := by omega)) (k:=?_)))))
    refine s_ (st_store_el (s := F) (i := j) rfl rfl rfl (by rw [List.length_append]; omega)) (k:=?_)
    rintro _ _ ⟨rfl, rfl⟩
    rw [show (mid.take (j + 1) ++ z ++ post).set j ((r * B64 + x) / 1000000000000000000) = mid.take j ++ ((r * B64 + x) / 1000000000000000000 :: z) ++ post by
      obtain ⟨m, hm⟩ : ∃ m, mid[j]? = some m := ⟨_, List.getElem?_eq_getElem (by omega)⟩
      rw [List.take_add_one, hm]
      have hlj : (mid.take j).length = j := by rw [List.length_take]; omega
      rw [List.append_assoc, List.append_assoc, List.set_append, if_neg (by omega), hlj, Nat.sub_self]
      simp]
    refine e_ asn (k:=on_ (bn_ (qn_ (wr_ (e_ mv (k:=?_))))))
    refine e_ (evq isb (congrArg (Value.int .i64) (show _ = ((j : Nat) : Int) - 1 from by omega))) (k:=?_)
    refine e_ asn (k:=on_ (?_))
    refine ln_ ((j, ((r * B64 + x) / 1000000000000000000 :: z), (r * B64 + x) % 1000000000000000000)) (k:=?_)
    try dsimp only
    exact ⟨by simp; omega, Wd.cons (by simp only [B64]; omega) hwz, Nat.mod_lt _ (by decide), hst⟩
  obtain rfl : k = 0 := by have h9 := h2; omega
  rw [List.take_zero, List.nil_append]
  rw [List.drop_zero] at hv
  refine we_ (qe_ (le_ (bh_ (qn_ (ws_ (wr_ (e_ mv (k:=e_ asn (k:=on_ (qn_ (wt_ (rt_ Tryz.results115 (k:=?_)))))))))))))
  exact ⟨_, hsb, z, r, rfl, by omega, hwz, hr9, hv, rfl⟩
end Go.Sx
