import Derived.Test.YtniphaoadhojlaaGreatDoorFx
import Derived.Test.YtniphaoadhojlaaGreatDoorSxP
import Derived.Test.YtniphaoadhojlaaGreatDoorSxDg
import Derived.Test.YtniphaoadhojlaaGreatDoorW219
set_option linter.all false
namespace Go.Sx
open Go Go.Proofs Tryz
set_option maxRecDepth 100000

/-! ## math/big: 10 ^ 18 -/
theorem tStk {G : Base} {H : Heap} : SC G Tryz.prog 77 [] H (fun v H' => ∃ b, v = .pointer (some ⟨b, 0, none⟩) ∧ H' = Vr b [.pointer none] :: H) := by
  refine SC.out (sc_walk Tryz.func77 rfl Tryz.ntmps77 (by kernel_rfl) (Nat.le_of_ble_eq_true rfl) ?_)
  refine ws_ (wr_ (e_ asn (k:=on_ (qn_ (ws_ (wr_ (e_ (bld []) (k:=bxx (k:=fun b2=>?_)))))))))
  refine e_ asn (k:=on_ (qn_ (wt_ (rt_ Tryz.results77 (k:=?_)))))
  exact ⟨_, hsb, b2, rfl, rfl⟩
theorem tFree {G : Base} {H : Heap} {b : Nat} [HasV H b [.pointer none]] : SC G Tryz.prog 78 [.pointer (some ⟨b, 0, none⟩)] H (fun v H' => v = .tuple #[] ∧ H' = H) := by
  refine SC.out (sc_walk Tryz.func78 rfl Tryz.ntmps78 (by kernel_rfl) (Nat.le_of_ble_eq_true rfl) ?_)
  refine ws_ (wr_ (e_ mv (k:=e_ nck (k:=e_ fla (k:=e_ ldv (k:=e_ asn (k:=on_ (qn_ (ws_ (wr_ (e_ mv (k:=?_))))))))))))
  refine e_ (ev_neq_ptr_nil rfl) (k:=?_)
  refine on_ (qn_ (wi_ (k:=fun h1=>?_) (m:=fun h1=>?_)))
  · cases h1 -- DONE
  refine wk_ (rt_ Tryz.results78 (k:=?_))
  exact ⟨_, hsb, rfl, rfl⟩
def zE (i : Nat) : Nat := [10, 100, 10000, 1000000000, 1000000000000000000].getD i 10
def sE (i : Nat) : Nat := [100, 10000, 100000000, 1000000000000000000].getD i 0
def vE (i : Nat) : Nat := [2305843009213693952, 4611686018427387904, 9223372036854775808, 0, 0].getD i 0
theorem zE_ok : ∀ i : Fin 5, zE i.val ≠ 0 ∧ zE i.val < 18446744073709551616 := by decide
theorem sE_ok : ∀ i : Fin 4, zE i.val * zE i.val = sE i.val ∧ sE i.val ≠ 0 ∧ sE i.val < 18446744073709551616 ∧ vE i.val * 2 ^ 1 % 18446744073709551616 = vE (i.val + 1) ∧ vE i.val < 18446744073709551616 := by decide
theorem vE_bit : ∀ i : Fin 4, (vE i.val &&& 9223372036854775808 = 0 ↔ i.val ≠ 2) ∧ (i.val ≠ 2 → sE i.val = zE (i.val + 1)) := by decide
theorem w10e : wds 10 = [10] := wds_one (by decide) (by decide)
theorem w10 : Wd [10] := by have := wds_wd 10; rw [w10e] at this; exact this
theorem NW.sl1 {F : SV} {all : List Nat} {x : Nat} (h : NW F all x) (h0 : x ≠ 0) (hx : x < B64) {H : Heap} (hs : Sl H F eU all) : Sl H (F.up 1) eU (wds x) := by
  have := h.sl hs
  rw [wds_word h0 hx] at this
  exact this
theorem tSqrE {G : Base} {H R : Heap} {F F2 : SV} {all all2 : List Nat} {n i : Nat} {q : Value} [hr : RemR H F2 eU all2 R] [hs : Sl R F eU all] (hi : i < 4) (hn : NW F all (zE i)) (hF2 : Full F2) (hl2 : all2.length = F2.c) (hw2 : Wd all2) : SC G Tryz.prog 66 [(F2.up n).val, q, (F.up 1).val] H (fun v' H' => ∃ (F' : SV) (all' : List Nat), v' = (F'.up 1).val ∧ NW F' all' (sE i) ∧ H' = Row F' eU all' :: R) := by
  obtain ⟨h0, h1⟩ := zE_ok ⟨i, by omega⟩
  obtain ⟨e0, e1, e2, _, _⟩ := sE_ok ⟨i, hi⟩
  refine (tSqr1 hF2 hl2 hw2 (.inl (hn.sl1 h0 h1 hs)) h0 h1).mono fun v' H' ⟨F', all', a1, a2, a3⟩ => ⟨F', all', ?_, ?_, a3⟩
  · rw [a1, e0, wds_word e1 e2]
  · rw [← e0]; exact a2
theorem tMulE {G : Base} {H R : Heap} {F F2 sx : SV} {all all2 : List Nat} {n : Nat} {q : Value} [hr : RemR H F2 eU all2 R] [hs : Sl R F eU all] [hx : Sl R sx eU [10]] (hn : NW F all 100000000) (hF2 : Full F2) (hl2 : all2.length = F2.c) (hw2 : Wd all2) : SC G Tryz.prog 67 [(F2.up n).val, q, (F.up 1).val, sx.val] H (fun v' H' => ∃ (F' : SV) (all' : List Nat), v' = (F'.up 1).val ∧ NW F' all' 1000000000 ∧ H' = Row F' eU all' :: R) := by
  refine (tNMul (u := 10) (v := 100000000) hF2 hl2 hw2 (.inl (hn.sl1 (by decide) (by decide) hs)) (hy := by rw [w10e]; exact hx) (by decide) (by decide) (by rw [wds_word (by decide) (by decide)]; decide)).mono fun v' H' ⟨F', all', a1, a2, a3⟩ => ⟨F', all', ?_, a2, a3⟩
  rw [a1, wds_word (by decide) (by decide)]
theorem tNormE {G : Base} {H : Heap} {F : SV} {all : List Nat} (hn : NW F all 1000000000000000000) [hs : Sl H F eU all] : SC G Tryz.prog 61 [(F.up 1).val] H (fun v H' => v = (F.up 1).val ∧ H' = H) := by
  haveI := hn.sl1 (by decide) (by decide) hs
  have hw1 : (wds 1000000000000000000).length = 1 := wds_word (by decide) (by decide)
  exact (tNorm (xs := wds 1000000000000000000) hn.fl hn.le (by rw [hw1]; decide) (wds_wd _)).mono fun v' H' ⟨h1, h2⟩ => ⟨by rw [h1, wv_wds, hw1], h2⟩
theorem qFree {G : Base} {H : Heap} {b : Nat} [HasV H b [.pointer none]] : QuietD G Tryz.prog 78 #[.pointer (some ⟨b, 0, none⟩)] H := by
  refine quiet_walk (args := [.pointer (some ⟨b, 0, none⟩)]) Tryz.func78 rfl Tryz.ntmps78 (Nat.le_of_ble_eq_true rfl) ?_
  refine ws_ (wr_ (e_ mv (k:=e_ nck (k:=e_ fla (k:=e_ ldv (k:=e_ asn (k:=on_ (qn_ (ws_ (wr_ (e_ mv (k:=?_))))))))))))
  refine e_ (ev_neq_ptr_nil rfl) (k:=?_)
  refine on_ (qn_ (wi_ (k:=fun h1=>?_) (m:=fun h1=>?_)))
  · cases h1
  refine wk_ (rt_ Tryz.results78 (k:=?_))
  exact ⟨rfl, hsb⟩
end Go.Sx
