import Derived.Test.YtniphaoadhojlaaGreatDoorFx
import Derived.Test.YtniphaoadhojlaaGreatDoorSxP
import Derived.Test.YtniphaoadhojlaaGreatDoorW200
set_option linter.all false
namespace Go.Sx
open Go Go.Proofs Tryz
set_option maxRecDepth 100000

/-! ## math/big: long numbers in rows -/
/-- The number x stands at the beginning of the row F, which holds all. -/
structure NW (F : SV) (all : List Nat) (x : Nat) : Prop where
  fl : Full F
  wd : Wd all
  len : all.length = F.c
  tk : all.take (wds x).length = wds x
  le : (wds x).length ≤ F.c
theorem NW.nil : NW SV.nil [] 0 := ⟨.nil, .nil, rfl, by rw [wds_zero]; rfl, by rw [wds_zero]; exact Nat.zero_le _⟩
theorem NW.zero {F : SV} {all : List Nat} (h1 : Full F) (h2 : Wd all) (h3 : all.length = F.c) : NW F all 0 := ⟨h1, h2, h3, by rw [wds_zero]; rfl, by rw [wds_zero]; exact Nat.zero_le _⟩
theorem NW.sl {F : SV} {all : List Nat} {x : Nat} (h : NW F all x) {H : Heap} (hs : Sl H F eU all) : Sl H (F.up (wds x).length) eU (wds x) := by
  have := Sl.up hs h.fl.nc (n := (wds x).length) (by rw [h.len]; exact h.le)
  rw [h.tk] at this; exact this
theorem sc_nil {G : Base} {P : Program} {f : FuncId} {args : List Value} {K : Value → Heap → Prop} {H : Heap} {α : Type} (e : Enc α) (h : SC G P f args (Row SV.nil e [] :: H) K) : SC G P f args H K := h.heap fun _ hw => hw.nilRow e
theorem tMake {G : Base} {H : Heap} {F : SV} {n k : Nat} (hF : Full F) (hk : k ≤ 1000000) : SC G Tryz.prog 58 [(F.up n).val, .int .i64 (k : Int)] H (fun v H' => (k ≤ F.c ∧ v = (F.up k).val ∧ H' = H) ∨ (F.c < k ∧ ∃ (F' : SV) (m : Nat), v = (F'.up k).val ∧ Full F' ∧ F'.c = m ∧ k ≤ m ∧ m ≤ k + 4 ∧ H' = Row F' eU (List.replicate m 0) :: H)) := by
  refine SC.out (sc_walk Tryz.func58 rfl Tryz.ntmps58 (by kernel_rfl) (Nat.le_of_ble_eq_true rfl) ?_)
  refine ws_ (wr_ (e_ asn (k:=on_ (qn_ (ws_ (ws_ (wr_ (e_ mv (k:=e_ mv (k:=?_))))))))))
  refine e_ (ev_capu rfl) (k:=?_)
  refine e_ ile (k:=on_ (qn_ (wi_ (k:=fun h1=>?_) (m:=fun h1=>?_))))
  · refine ws_ (wr_ (e_ mv (k:=e_ mv (k:=?_))))
    refine e_ (ev_slu rfl hF k trivial ⟨_, _, rfl, rfl⟩ (by have h9 := h1; omega)) (k:=?_)
    refine e_ asn (k:=on_ (qn_ (wt_ (qr_ (rt_ Tryz.results58 (k:=?_))))))
    exact ⟨_, hsb, .inl ⟨by have h9 := h1; omega, rfl, rfl⟩⟩
  refine wk_ (qn_ (ws_ (ws_ (wr_ (e_ mv (k:=e_ ieq (k:=on_ (qn_ (wi_ (k:=fun h2=>?_) (m:=fun h2=>?_))))))))))
  · refine ws_ (wr_ (?_))
    refine s_ (st_makeU rfl rfl 1 1 rfl rfl rfl (by decide) (by decide) (by decide)) (k:=?_)
    rintro _ _ ⟨F2, rfl, hF2, hc2, rfl⟩
    refine e_ asn (k:=on_ (qn_ (wt_ (qr_ (rt_ Tryz.results58 (k:=?_))))))
    obtain rfl : k = 1 := by have h9 := h2; omega
    exact ⟨_, hsb, .inr ⟨by have h9 := h1; omega, F2, 1, rfl, hF2, hc2, by omega, by omega, rfl⟩⟩
  refine wk_ (qn_ (ws_ (wr_ (e_ mv (k:=e_ mv (k:=e_ iad (k:=?_)))))))
  refine s_ (st_makeU rfl rfl k (k + 4) rfl rfl rfl (by omega) (by omega) (by omega)) (k:=?_)
  rintro _ _ ⟨F2, rfl, hF2, hc2, rfl⟩
  refine e_ asn (k:=on_ (qn_ (wt_ (rt_ Tryz.results58 (k:=?_)))))
  exact ⟨_, hsb, .inr ⟨by have h9 := h1; omega, F2, k + 4, rfl, hF2, hc2, by omega, by omega, rfl⟩⟩
theorem tNorm {G : Base} {H : Heap} {F : SV} {n : Nat} {xs : List Nat} (hF : Full F) (hc : xs.length ≤ F.c) (hx9 : xs.length ≤ 1000000) (hw : Wd xs) [hs : Sl H (F.up n) eU xs] : SC G Tryz.prog 61 [(F.up n).val] H (fun v H' => v = (F.up (wds (wv xs)).length).val ∧ H' = H) := by
  refine SC.out (sc_walk Tryz.func61 rfl Tryz.ntmps61 (by kernel_rfl) (Nat.le_of_ble_eq_true rfl) ?_)
  refine ws_ (wr_ (e_ asn (k:=on_ (qn_ (ws_ (wr_ (e_ mv (k:=e_ lnn (k:=e_ asn (k:=on_ (qn_ (ws_ (wb_ (?_))))))))))))))
  refine wl2_ (Nat) (fun y => y ≤ xs.length ∧ wv (xs.take y) = wv xs) (fun y => [(3, .int .i64 ((y : Nat) : Int))]) [(0, _)] (fun y => []) _ (fun y => y) (xs.length) (h0:=?_) (k:=?_)
  · try dsimp only
    exact ⟨Nat.le_refl _, by rw [List.take_length]⟩
  rintro i ⟨hi, hv⟩
  try dsimp only [List.cons_append, List.nil_append] at *
  obtain ⟨w, hw0⟩ : ∃ w, 0 < i → xs[i - 1]? = some w := ⟨xs.getD (i - 1) 0, fun h => by rw [List.getD_eq_getElem?_getD, List.getElem?_eq_getElem (by omega)]; rfl⟩
  refine ws_ (ws_ (wr_ (e_ mv (k:=e_ igt (k:=e_ mv (k:=sg_and 7 15 (c:=decide ((w : Int) = 0)) (k:=fun h2=>?_) (q:=?_)))))))
  · have hi0 : 0 < i := by have h9 := h2; omega
    have hw1 := hw0 hi0
    refine eg_ mv (k:=eg_ mv (k:=?_))
    refine eg_ (evq isb (congrArg (Value.int .i64) (show _ = ((i - 1 : Nat) : Int) from by omega))) (k:=?_)
    refine eg_ ixa (k:=eg_ (lel (hy:=hw1)) (k:=eg_ ieq (k:=e_ pkt (k:=on_ (edq)))))
  refine on_ (qn_ (wi_ (k:=fun h3=>?_) (m:=fun h3=>?_)))
  · obtain ⟨c1, c2⟩ := h3
    obtain rfl : w = 0 := by omega
    obtain ⟨j, rfl⟩ : ∃ j, i = j + 1 := ⟨i - 1, by omega⟩
    have hj := hw0 (by omega)
    rw [Nat.add_sub_cancel] at hj
    refine wk_ (qn_ (wb_ (wr_ (e_ mv (k:=?_)))))
    refine e_ (evq isb (congrArg (Value.int .i64) (show _ = ((j : Nat) : Int) from by omega))) (k:=?_)
    refine e_ asn (k:=on_ (bn_ (?_)))
    refine ln_ (j) (k:=?_)
    try dsimp only
    exact ⟨by omega, by rw [← hv, wv_top0 hj]⟩
  have hfin := norm_take hw hi hv fun h x hx => by
    rw [hw0 h] at hx
    have h9 := h3
    rcases Decidable.em (0 < i) with h8 | h8
    · rintro rfl; cases hx; first | exact h9 ⟨by omega, rfl⟩ | simp at h9; omega
    · omega
  have hil : (wds (wv xs)).length = i := by rw [← hfin, List.length_take, Nat.min_eq_left hi]
  refine we_ (qe_ (le_ (bh_ (qn_ (ws_ (wr_ (e_ mv (k:=e_ mv (k:=?_)))))))))
  refine e_ (ev_slu rfl hF i ⟨_, rfl⟩ ⟨_, _, rfl, rfl⟩ (by omega)) (k:=?_)
  refine e_ asn (k:=on_ (qn_ (wt_ (rt_ Tryz.results61 (k:=?_)))))
  exact ⟨_, hsb, by rw [hil]; rfl, rfl⟩
end Go.Sx
