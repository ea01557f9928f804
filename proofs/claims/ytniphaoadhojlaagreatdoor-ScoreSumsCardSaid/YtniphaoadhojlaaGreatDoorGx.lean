set_option linter.all false
namespace Go.Sx
/-- Where error number i lies. -/
def gix : Nat → Nat := fun i => [11, 8, 1, 2, 3, 4, 5, 6, 7, 9, 10, 12, 0, 13, 14, 15, 16, 17, 18, 19, 20, 21, 22, 23].getD i 0
/-- The errors that the row lists. -/
def gokB (i : Nat) : Bool := decide (i < 24) && !([] : List Nat).contains i
theorem gok_lt {i : Nat} (h : gokB i = true) : i < 24 := by
  unfold gokB at h
  simp only [Bool.and_eq_true, decide_eq_true_eq] at h
  exact h.1
class Lt24 (i : Nat) : Prop where
  out : gokB i = true
instance : Lt24 0 := ⟨by decide⟩
instance : Lt24 1 := ⟨by decide⟩
instance : Lt24 2 := ⟨by decide⟩
instance : Lt24 3 := ⟨by decide⟩
instance : Lt24 4 := ⟨by decide⟩
instance : Lt24 5 := ⟨by decide⟩
instance : Lt24 6 := ⟨by decide⟩
instance : Lt24 7 := ⟨by decide⟩
instance : Lt24 8 := ⟨by decide⟩
instance : Lt24 9 := ⟨by decide⟩
instance : Lt24 10 := ⟨by decide⟩
instance : Lt24 11 := ⟨by decide⟩
instance : Lt24 12 := ⟨by decide⟩
instance : Lt24 13 := ⟨by decide⟩
instance : Lt24 14 := ⟨by decide⟩
instance : Lt24 15 := ⟨by decide⟩
instance : Lt24 16 := ⟨by decide⟩
instance : Lt24 17 := ⟨by decide⟩
instance : Lt24 18 := ⟨by decide⟩
instance : Lt24 19 := ⟨by decide⟩
instance : Lt24 20 := ⟨by decide⟩
instance : Lt24 21 := ⟨by decide⟩
instance : Lt24 22 := ⟨by decide⟩
instance : Lt24 23 := ⟨by decide⟩
end Go.Sx
