import Derived.Test.YtniphaoadhojlaaGreatDoorFx
import Derived.Test.YtniphaoadhojlaaGreatDoorSxP
import Derived.Test.YtniphaoadhojlaaGreatDoorW224
set_option linter.all false
namespace Go.Sx
open Go Go.Proofs Tryz
set_option maxRecDepth 100000

/-! ## score.Add, score.Mul -/
def addS (a b : Nat) : Nat := min (a + b) 9223372036854775808
def mulS (a b : Nat) : Nat := min (a * b) 9223372036854775808
theorem tAddS {G : Base} {H : Heap} {a b : Nat} (ha : a < 18446744073709551616) (hb : b < 18446744073709551616) : SC G Tryz.prog 5 [.int .u64 (a : Int), .int .u64 (b : Int)] H (fun v H' => v = .int .u64 ((addS a b : Nat) : Int) ∧ H' = H) := by
  refine SC.out (sc_walk Tryz.func5 rfl Tryz.ntmps5 (by kernel_rfl) (Nat.le_of_ble_eq_true rfl) ?_)
  refine ws_ (wr_ (e_ asn (k:=on_ (qn_ (ws_ (wr_ (e_ mv (k:=e_ mv (k:=?_)))))))))
  refine s_ (st_ext (vs := [_, _, _]) Tryz.func13 (by kernel_rfl) rfl (by kernel_rfl) (by kernel_rfl) rfl (fun w => run_add64 a b 0 (by decide) w)) (k:=?_)
  rintro _ _ ⟨rfl, rfl⟩
  refine e_ mv (k:=e_ exr (k:=e_ exr (k:=e_ asn (k:=e_ asn (k:=on_ (qn_ (ws_ (ws_ (wr_ (e_ mv (k:=e_ ine (k:=on_ (qn_ (?_))))))))))))))
  refine wi_ (k:=fun h1=>?_) (m:=fun h1=>?_)
  · have h9 : ¬ (a + b + 0) / B64 = 0 := by have h8 := h1; omega
    have h7 : addS a b = 9223372036854775808 := by unfold addS; unfold B64 at h9; omega
    refine ws_ (wr_ (e_ asn (k:=on_ (qn_ (wt_ (qr_ (rt_ Tryz.results5 (k:=?_))))))))
    exact ⟨_, hsb, by rw [h7]; rfl, rfl⟩
  have h9 : (a + b + 0) / B64 = 0 := by have h8 := h1; omega
  have h7 : min (((a + b + 0) % B64 : Nat) : Int) 9223372036854775808 = ((addS a b : Nat) : Int) := by unfold addS; unfold B64 at h9 ⊢; omega
  refine wk_ (qn_ (ws_ (wr_ (e_ mv (k:=?_)))))
  refine e_ (evq (ev_min rfl rfl) (congrArg (Value.int .u64) h7)) (k:=?_)
  refine e_ asn (k:=on_ (qn_ (wt_ (rt_ Tryz.results5 (k:=?_)))))
  exact ⟨_, hsb, rfl, rfl⟩
theorem tMulS {G : Base} {H : Heap} {a b : Nat} (ha : a < 18446744073709551616) (hb : b < 18446744073709551616) : SC G Tryz.prog 6 [.int .u64 (a : Int), .int .u64 (b : Int)] H (fun v H' => v = .int .u64 ((mulS a b : Nat) : Int) ∧ H' = H) := by
  refine SC.out (sc_walk Tryz.func6 rfl Tryz.ntmps6 (by kernel_rfl) (Nat.le_of_ble_eq_true rfl) ?_)
  refine ws_ (wr_ (e_ asn (k:=on_ (qn_ (ws_ (wr_ (e_ mv (k:=e_ mv (k:=?_)))))))))
  refine cp_ (vs:=[_,_]) rfl (tMul64 ha hb) (k:=e_ mv (k:=e_ exr (k:=e_ exr (k:=e_ asn (k:=e_ asn (k:=on_ (qn_ (ws_ (ws_ (wr_ (e_ mv (k:=e_ ine (k:=on_ (?_))))))))))))))
  refine qn_ (wi_ (k:=fun h1=>?_) (m:=fun h1=>?_))
  · have h9 : ¬ a * b / B64 = 0 := by have h8 := h1; omega
    have h7 : mulS a b = 9223372036854775808 := by unfold mulS; unfold B64 at h9; generalize a * b = z at *; omega
    refine ws_ (wr_ (e_ asn (k:=on_ (qn_ (wt_ (qr_ (rt_ Tryz.results6 (k:=?_))))))))
    exact ⟨_, hsb, by rw [h7]; rfl, rfl⟩
  have h9 : a * b / B64 = 0 := by have h8 := h1; omega
  have h7 : min ((a * b % B64 : Nat) : Int) 9223372036854775808 = ((mulS a b : Nat) : Int) := by unfold mulS; unfold B64 at h9 ⊢; generalize a * b = z at *; omega
  refine wk_ (qn_ (ws_ (wr_ (e_ mv (k:=?_)))))
  refine e_ (evq (ev_min rfl rfl) (congrArg (Value.int .u64) h7)) (k:=?_)
  refine e_ asn (k:=on_ (qn_ (wt_ (rt_ Tryz.results6 (k:=?_)))))
  exact ⟨_, hsb, rfl, rfl⟩
end Go.Sx
