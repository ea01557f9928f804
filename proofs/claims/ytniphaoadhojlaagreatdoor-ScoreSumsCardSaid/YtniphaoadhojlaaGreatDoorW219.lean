import Derived.Test.YtniphaoadhojlaaGreatDoorFx
import Derived.Test.YtniphaoadhojlaaGreatDoorSxP
import Derived.Test.YtniphaoadhojlaaGreatDoorSxU
import Derived.Test.YtniphaoadhojlaaGreatDoorW218
set_option linter.all false
namespace Go.Sx
open Go Go.Proofs Tryz
set_option maxRecDepth 100000

/-! ## concordnum.Num of score.ErrValue -/
class ErrT (G : Base) : Prop where
  out : G.eT = 136
theorem comp368 : ∃ k, Tryz.prog.info? 136 = some k ∧ k.comparable = true := by
  have h : (Tryz.prog.info? 136).map (·.comparable) = some true := by kernel_rfl
  cases hk : Tryz.prog.info? 136 with
  | none => rw [hk] at h; cases h
  | some k => rw [hk] at h; exact ⟨k, rfl, by simpa using h⟩
section
variable {G : Base} {t : Tm} {H : Heap} {dst : Option Tmp} {ty : TypeId} {pos : String} {after : Array Edge} {g : Option (Nat × Bool)}
theorem ev_eql_eT {T U : TypeId} {x y : Operand} {i j : Nat} {ms : Array (String × TypeId)} [he : ErrT G] [hT : Und Tryz.prog T (.interface ms)] [hg : Glb G H] [h1 : Lt24 i] [h2 : Lt24 j] (hx : evo t x = some (G.err i)) (hy : evo t y = some (G.err j)) : Ev G Tryz.prog ⟨dst, .binOp .eql T x y U, ty, pos, after, g⟩ t H (.bool (decide (i = j))) :=
  haveI : Und Tryz.prog G.eT (.pointer 138) := ⟨by rw [he.out]; exact Tryz.underlying136⟩
  ev_eql_err (by rw [he.out]; exact comp368) (by decide) hg.inj hx hy
end
theorem tNumV {G : Base} {H : Heap} [hg : Glb G H] [ErrT G] : SC G Tryz.prog 8 [G.err 12] H (fun v H' => v = .int .i64 13 ∧ H' = H) := by
  refine SC.out (sc_walk Tryz.func8 rfl Tryz.ntmps8 (by kernel_rfl) (Nat.le_of_ble_eq_true rfl) ?_)
  refine ws_ (wr_ (e_ asn (k:=on_ (qn_ (ws_ (ws_ (wr_ (e_ mv (k:=on_ (qn_ (wb_ (ws_ (wr_ (?_))))))))))))))
  refine e_ (ev_eql_nil_val rfl) (k:=?_)
  refine e_ asn (k:=on_ (qn_ (ir_ (k:=fun h1=>?_) (m:=fun h1=>?_))))
  · cases h1 -- DONE
  refine ws_ (wr_ (e_ ldv (k:=?_)))
  refine e_ (ev_eql_eT rfl rfl) (k:=?_)
  refine e_ asn (k:=on_ (qn_ (wi_ (k:=fun h2=>?_) (m:=fun h2=>?_))))
  · exact absurd h2 (by decide) -- DONE
  refine ws_ (wr_ (e_ ldv (k:=?_)))
  refine e_ (ev_eql_eT rfl rfl) (k:=?_)
  refine e_ asn (k:=on_ (qn_ (wi_ (k:=fun h3=>?_) (m:=fun h3=>?_))))
  · exact absurd h3 (by decide) -- DONE
  refine ws_ (wr_ (e_ ldv (k:=?_)))
  refine e_ (ev_eql_eT rfl rfl) (k:=?_)
  refine e_ asn (k:=on_ (qn_ (wi_ (k:=fun h4=>?_) (m:=fun h4=>?_))))
  · exact absurd h4 (by decide) -- DONE
  refine ws_ (wr_ (e_ ldv (k:=?_)))
  refine e_ (ev_eql_eT rfl rfl) (k:=?_)
  refine e_ asn (k:=on_ (qn_ (wi_ (k:=fun h5=>?_) (m:=fun h5=>?_))))
  · exact absurd h5 (by decide) -- DONE
  refine ws_ (wr_ (e_ ldv (k:=?_)))
  refine e_ (ev_eql_eT rfl rfl) (k:=?_)
  refine e_ asn (k:=on_ (qn_ (wi_ (k:=fun h6=>?_) (m:=fun h6=>?_))))
  · exact absurd h6 (by decide) -- DONE
  refine ws_ (wr_ (e_ ldv (k:=?_)))
  refine e_ (ev_eql_eT rfl rfl) (k:=?_)
  refine e_ asn (k:=on_ (qn_ (wi_ (k:=fun h7=>?_) (m:=fun h7=>?_))))
  · exact absurd h7 (by decide) -- DONE
  refine ws_ (wr_ (e_ ldv (k:=?_)))
  refine e_ (ev_eql_eT rfl rfl) (k:=?_)
  refine e_ asn (k:=on_ (qn_ (wi_ (k:=fun h8=>?_) (m:=fun h8=>?_))))
  · exact absurd h8 (by decide) -- DONE
  refine ws_ (wr_ (e_ ldv (k:=?_)))
  refine e_ (ev_eql_eT rfl rfl) (k:=?_)
  refine e_ asn (k:=on_ (qn_ (wi_ (k:=fun h9=>?_) (m:=fun h9=>?_))))
  · exact absurd h9 (by decide) -- DONE
  refine ws_ (wr_ (e_ ldv (k:=?_)))
  refine e_ (ev_eql_eT rfl rfl) (k:=?_)
  refine e_ asn (k:=on_ (qn_ (wi_ (k:=fun h10=>?_) (m:=fun h10=>?_))))
  · exact absurd h10 (by decide) -- DONE
  refine ws_ (wr_ (e_ ldv (k:=?_)))
  refine e_ (ev_eql_eT rfl rfl) (k:=?_)
  refine e_ asn (k:=on_ (qn_ (wi_ (k:=fun h11=>?_) (m:=fun h11=>?_))))
  · exact absurd h11 (by decide) -- DONE
  refine ws_ (wr_ (e_ ldv (k:=?_)))
  refine e_ (ev_eql_eT rfl rfl) (k:=?_)
  refine e_ asn (k:=on_ (qn_ (wi_ (k:=fun h12=>?_) (m:=fun h12=>?_))))
  · exact absurd h12 (by decide) -- DONE
  refine ws_ (wr_ (e_ ldv (k:=?_)))
  refine e_ (ev_eql_eT rfl rfl) (k:=?_)
  refine e_ asn (k:=on_ (qn_ (wi_ (k:=fun h13=>?_) (m:=fun h13=>?_))))
  · exact absurd h13 (by decide) -- DONE
  refine ws_ (wr_ (e_ ldv (k:=?_)))
  refine e_ (ev_eql_eT rfl rfl) (k:=?_)
  refine e_ asn (k:=on_ (qn_ (wi_ (k:=fun h14=>?_) (m:=fun h14=>?_))))
  · refine ws_ (wr_ (e_ asn (k:=on_ (qn_ (wt_ (br_ (qr_ (rt_ Tryz.results8 (k:=?_)))))))))
    exact ⟨_, HSub.refl, rfl, rfl⟩
  exact absurd trivial h14 -- DONE
end Go.Sx
