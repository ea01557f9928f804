set_option linter.all false
namespace Go.Sx

/-! ## Long numbers: words of 64 bits, the lowest first -/
abbrev B64 : Nat := 18446744073709551616
def wv : List Nat → Nat
  | [] => 0
  | x :: xs => x + B64 * wv xs
def Wd (xs : List Nat) : Prop := ∀ x ∈ xs, x < B64
theorem Wd.nil : Wd [] := fun _ h => by cases h
theorem Wd.cons {x : Nat} {xs : List Nat} (h : x < B64) (hs : Wd xs) : Wd (x :: xs) := fun y hy => by
  rcases List.mem_cons.1 hy with rfl | hy
  · exact h
  · exact hs y hy
theorem Wd.app {a b : List Nat} (ha : Wd a) (hb : Wd b) : Wd (a ++ b) := fun y hy => by
  rcases List.mem_append.1 hy with hy | hy
  · exact ha y hy
  · exact hb y hy
theorem Wd.get {xs : List Nat} (h : Wd xs) {i x : Nat} (hx : xs[i]? = some x) : x < B64 := h x (List.mem_of_getElem? hx)
theorem Wd.take {xs : List Nat} (h : Wd xs) (n : Nat) : Wd (xs.take n) := fun y hy => h y (List.mem_of_mem_take hy)
theorem Wd.drop {xs : List Nat} (h : Wd xs) (n : Nat) : Wd (xs.drop n) := fun y hy => h y (List.mem_of_mem_drop hy)
theorem Wd.set {xs : List Nat} (h : Wd xs) {i x : Nat} (hx : x < B64) : Wd (xs.set i x) := fun y hy => by
  rcases List.mem_or_eq_of_mem_set hy with hy | rfl
  · exact h y hy
  · exact hx
theorem Wd.zeros (n : Nat) : Wd (List.replicate n 0) := fun y hy => by
  rw [(List.mem_replicate.1 hy).2]; decide
theorem wv_app : ∀ a b : List Nat, wv (a ++ b) = wv a + B64 ^ a.length * wv b := by
  intro a
  induction a with
  | nil => intro b; simp [wv]
  | cons x a ih =>
    intro b
    rw [List.cons_append, wv, ih, wv, List.length_cons, Nat.pow_succ, Nat.mul_add, Nat.add_assoc, ← Nat.mul_assoc, Nat.mul_comm B64 (B64 ^ a.length)]
theorem wv_snoc (a : List Nat) (x : Nat) : wv (a ++ [x]) = wv a + B64 ^ a.length * x := by
  rw [wv_app]; simp [wv]
theorem wv_zeros (n : Nat) : wv (List.replicate n 0) = 0 := by
  induction n with
  | zero => rfl
  | succ n ih => rw [List.replicate_succ, wv, ih]; rfl
theorem wv_lt : ∀ {xs : List Nat}, Wd xs → wv xs < B64 ^ xs.length := by
  intro xs
  induction xs with
  | nil => intro _; simp [wv]
  | cons x xs ih =>
    intro h
    have h1 := ih fun y hy => h y (List.mem_cons_of_mem _ hy)
    have h2 := h x (List.mem_cons_self)
    rw [wv, List.length_cons, Nat.pow_succ]
    have : B64 * (wv xs + 1) ≤ B64 * B64 ^ xs.length := Nat.mul_le_mul_left _ h1
    rw [Nat.mul_comm (B64 ^ xs.length)]
    rw [Nat.mul_add] at this
    omega
theorem wv_take {xs : List Nat} {i x : Nat} (h : xs[i]? = some x) : wv (xs.take (i + 1)) = wv (xs.take i) + B64 ^ i * x := by
  have hi := (List.getElem?_eq_some_iff.1 h).1
  rw [List.take_add_one, h]
  show wv (xs.take i ++ [x]) = _
  rw [wv_snoc, List.length_take, Nat.min_eq_left (by omega)]
theorem wv_drop {xs : List Nat} {i x : Nat} (h : xs[i]? = some x) : wv (xs.drop i) = x + B64 * wv (xs.drop (i + 1)) := by
  obtain ⟨h1, h2⟩ := List.getElem?_eq_some_iff.1 h
  rw [List.drop_eq_getElem_cons h1, wv, h2]
/-- The words of a number. -/
def wds (n : Nat) : List Nat := if h : n = 0 then [] else n % B64 :: wds (n / B64)
  termination_by n
  decreasing_by exact Nat.div_lt_self (Nat.pos_of_ne_zero h) (by decide)
theorem wds_zero : wds 0 = [] := by rw [wds, dif_pos rfl]
theorem wds_pos {n : Nat} (h : n ≠ 0) : wds n = n % B64 :: wds (n / B64) := by rw [wds, dif_neg h]
theorem wds_one {n : Nat} (h : n ≠ 0) (h2 : n < B64) : wds n = [n] := by
  rw [wds_pos h, Nat.mod_eq_of_lt h2, Nat.div_eq_of_lt h2, wds_zero]
theorem wds_nil {n : Nat} : wds n = [] ↔ n = 0 := by
  constructor
  · intro h
    by_cases h0 : n = 0
    · exact h0
    · rw [wds_pos h0] at h; cases h
  · rintro rfl; exact wds_zero
theorem wds_wd : ∀ n, Wd (wds n) := by
  intro n
  induction n using Nat.strongRecOn with
  | _ n ih =>
    by_cases h : n = 0
    · subst h; rw [wds_zero]; exact Wd.nil
    · rw [wds_pos h]; exact Wd.cons (Nat.mod_lt _ (by decide)) (ih _ (Nat.div_lt_self (Nat.pos_of_ne_zero h) (by decide)))
theorem wv_wds : ∀ n, wv (wds n) = n := by
  intro n
  induction n using Nat.strongRecOn with
  | _ n ih =>
    by_cases h : n = 0
    · subst h; rw [wds_zero]; rfl
    · rw [wds_pos h, wv, ih _ (Nat.div_lt_self (Nat.pos_of_ne_zero h) (by decide)), Nat.add_comm, Nat.div_add_mod]
theorem wds_len : ∀ (k n : Nat), n < B64 ^ k → (wds n).length ≤ k := by
  intro k
  induction k with
  | zero => intro n h; have : n = 0 := by simpa using h
            subst this; rw [wds_zero]; simp
  | succ k ih =>
    intro n h
    by_cases h0 : n = 0
    · subst h0; rw [wds_zero]; simp
    · rw [wds_pos h0, List.length_cons]
      have := ih (n / B64) (Nat.div_lt_of_lt_mul (by rw [Nat.pow_succ, Nat.mul_comm] at h; exact h))
      omega
theorem wds_ge {k n : Nat} (h : k < (wds n).length) : B64 ^ k ≤ n := by
  rcases Nat.lt_or_ge n (B64 ^ k) with h1 | h1
  · have := wds_len k n h1; omega
  · exact h1
/-- Words whose highest one is not 0 are the number's own. -/
theorem wds_wv : ∀ {xs : List Nat}, Wd xs → (∀ x, xs.getLast? = some x → x ≠ 0) → wds (wv xs) = xs := by
  intro xs
  induction xs with
  | nil => intro _ _; rw [wv, wds_zero]
  | cons x xs ih =>
    intro h hl
    have hx := h x List.mem_cons_self
    have hs : Wd xs := fun y hy => h y (List.mem_cons_of_mem _ hy)
    have hi := ih hs fun y hy => by
      refine hl y ?_
      cases xs with
      | nil => cases hy
      | cons z zs => rw [List.getLast?_cons_cons]; exact hy
    have hne : wv (x :: xs) ≠ 0 := by
      intro h0
      rw [wv] at h0
      simp only [B64] at h0
      have hx0 : x = 0 := by omega
      have hw0 : wv xs = 0 := by omega
      rw [hw0, wds_zero] at hi
      subst hi
      exact hl x rfl hx0
    have hm : wv (x :: xs) % B64 = x := by rw [wv, Nat.add_mul_mod_self_left, Nat.mod_eq_of_lt hx]
    have hd : wv (x :: xs) / B64 = wv xs := by rw [wv, Nat.add_mul_div_left _ _ (by decide), Nat.div_eq_of_lt hx, Nat.zero_add]
    rw [wds_pos hne, hm, hd, hi]
/-- Zeros on top are of no weight. -/
theorem wv_top0 {xs : List Nat} {i : Nat} (h : xs[i]? = some 0) : wv (xs.take (i + 1)) = wv (xs.take i) := by
  rw [wv_take h, Nat.mul_zero, Nat.add_zero]

/-! ### Rounds of the loops -/
theorem mulAdd_step {o xs : List Nat} {i x y c r : Nat} (hl : o.length = i) (hx : xs[i]? = some x) (h : wv o + B64 ^ i * c = wv (xs.take i) * y + r) :
    wv (o ++ [(x * y + c) % B64]) + B64 ^ (i + 1) * ((x * y + c) / B64) = wv (xs.take (i + 1)) * y + r := by
  have h1 := Nat.div_add_mod (x * y + c) B64
  have h2 : B64 ^ i * ((x * y + c) % B64) + B64 ^ (i + 1) * ((x * y + c) / B64) = B64 ^ i * (x * y + c) := by
    rw [Nat.pow_succ, Nat.mul_assoc, ← Nat.mul_add, Nat.add_comm, h1]
  rw [wv_snoc, hl, wv_take hx, Nat.add_assoc, h2, Nat.mul_add, Nat.add_mul]
  have : B64 ^ i * (x * y) = B64 ^ i * x * y := by rw [Nat.mul_assoc]
  omega
theorem carry_lt {x y c : Nat} (hx : x < B64) (hy : y < B64) (hc : c < B64) : (x * y + c) / B64 < B64 := by
  apply Nat.div_lt_of_lt_mul
  have : x * y ≤ (B64 - 1) * (B64 - 1) := Nat.mul_le_mul (by omega) (by omega)
  simp only [B64] at *
  omega
theorem addMul_step {o zs xs : List Nat} {i x z m c : Nat} (hl : o.length = i) (hx : xs[i]? = some x) (hz : zs[i]? = some z) (h : wv o + B64 ^ i * c = wv (zs.take i) + wv (xs.take i) * m) :
    wv (o ++ [(x * m + z + c) % B64]) + B64 ^ (i + 1) * ((x * m + z + c) / B64) = wv (zs.take (i + 1)) + wv (xs.take (i + 1)) * m := by
  have h1 := Nat.div_add_mod (x * m + z + c) B64
  have h2 : B64 ^ i * ((x * m + z + c) % B64) + B64 ^ (i + 1) * ((x * m + z + c) / B64) = B64 ^ i * (x * m + z + c) := by
    rw [Nat.pow_succ, Nat.mul_assoc, ← Nat.mul_add, Nat.add_comm, h1]
  rw [wv_snoc, hl, wv_take hx, wv_take hz, Nat.add_assoc, h2, Nat.mul_add, Nat.mul_add, Nat.add_mul]
  have : B64 ^ i * (x * m) = B64 ^ i * x * m := by rw [Nat.mul_assoc]
  omega
theorem carry2_lt {x y z c : Nat} (hx : x < B64) (hy : y < B64) (hz : z < B64) (hc : c < B64) : (x * y + z + c) / B64 < B64 := by
  apply Nat.div_lt_of_lt_mul
  have : x * y ≤ (B64 - 1) * (B64 - 1) := Nat.mul_le_mul (by omega) (by omega)
  simp only [B64] at *
  omega
theorem add_step {o xs ys : List Nat} {i x y c : Nat} (hl : o.length = i) (hx : xs[i]? = some x) (hy : ys[i]? = some y) (h : wv o + B64 ^ i * c = wv (xs.take i) + wv (ys.take i)) :
    wv (o ++ [(x + y + c) % B64]) + B64 ^ (i + 1) * ((x + y + c) / B64) = wv (xs.take (i + 1)) + wv (ys.take (i + 1)) := by
  have h1 := Nat.div_add_mod (x + y + c) B64
  have h2 : B64 ^ i * ((x + y + c) % B64) + B64 ^ (i + 1) * ((x + y + c) / B64) = B64 ^ i * (x + y + c) := by
    rw [Nat.pow_succ, Nat.mul_assoc, ← Nat.mul_add, Nat.add_comm, h1]
  rw [wv_snoc, hl, wv_take hx, wv_take hy, Nat.add_assoc, h2, Nat.mul_add, Nat.mul_add]
  omega
theorem sub_step {o xs ys : List Nat} {i x y c : Nat} (hl : o.length = i) (hx : xs[i]? = some x) (hy : ys[i]? = some y) (hxb : x < B64) (hyb : y < B64) (hc : c ≤ 1) (h : wv o + wv (ys.take i) = wv (xs.take i) + B64 ^ i * c) :
    wv (o ++ [(x + B64 - y - c) % B64]) + wv (ys.take (i + 1)) = wv (xs.take (i + 1)) + B64 ^ (i + 1) * (if x < y + c then 1 else 0) := by
  have h1 : (x + B64 - y - c) % B64 + y + c = x + B64 * (if x < y + c then 1 else 0) := by
    split
    · rw [Nat.mod_eq_of_lt (by omega)]; omega
    · rw [show x + B64 - y - c = (x - y - c) + B64 by omega, Nat.add_mod_right, Nat.mod_eq_of_lt (by omega)]; omega
  have h2 : B64 ^ i * ((x + B64 - y - c) % B64) + B64 ^ i * y + B64 ^ i * c = B64 ^ i * x + B64 ^ (i + 1) * (if x < y + c then 1 else 0) := by
    rw [← Nat.mul_add, ← Nat.mul_add, h1, Nat.mul_add, Nat.pow_succ, Nat.mul_assoc]
  rw [wv_snoc, hl, wv_take hx, wv_take hy]
  omega
theorem div_step {z xs : List Nat} {i x y r q : Nat} (hx : xs[i]? = some x) (hq : q = (r * B64 + x) / y) (h : wv (xs.drop (i + 1)) = wv (z) * y + r) (hy : 0 < y) :
    wv (xs.drop i) = wv (q :: z) * y + (r * B64 + x) % y := by
  rw [wv_drop hx, wv, h, hq]
  have h1 := Nat.div_add_mod (r * B64 + x) y
  generalize (r * B64 + x) / y = a at *
  generalize (r * B64 + x) % y = b at *
  rw [Nat.add_mul, Nat.mul_add, Nat.mul_assoc]
  rw [Nat.mul_comm y a] at h1
  rw [Nat.mul_comm r B64] at h1
  omega
/-- Division of two words by 10^18 (times 16, so that the highest bit is set) by its reciprocal. -/
theorem divWW_law {x1 x0 : Nat} (h1 : x1 < 16000000000000000000) (h0 : x0 < B64) :
    let d := 16000000000000000000
    let m := 2820903858849102350
    let t := (m * x1 + x0) / B64 + x1
    t < B64 ∧ d * t ≤ x1 * B64 + x0 ∧ x1 * B64 + x0 - d * t < B64 + d := by
  simp only [B64] at *
  refine ⟨?_, ?_, ?_⟩ <;> omega
end Go.Sx
namespace Go.Sx
theorem norm_take {xs : List Nat} (h : Wd xs) {i : Nat} (hi : i ≤ xs.length) (hv : wv (xs.take i) = wv xs) (ht : 0 < i → ∀ x, xs[i - 1]? = some x → x ≠ 0) : xs.take i = wds (wv xs) := by
  rw [← hv]
  refine (wds_wv (h.take i) fun x hx => ?_).symm
  rcases Nat.eq_zero_or_pos i with rfl | hp
  · simp at hx
  · refine ht hp x ?_
    rw [List.getLast?_eq_getElem?, List.length_take, Nat.min_eq_left hi, List.getElem?_take_of_lt (by omega)] at hx
    exact hx
theorem wds_wv_le {xs : List Nat} (h : Wd xs) : (wds (wv xs)).length ≤ xs.length := wds_len _ _ (wv_lt h)
theorem norm_at {xs : List Nat} (h : Wd xs) : xs.take (wds (wv xs)).length = wds (wv xs) := by
  -- by the highest word that is not 0
  obtain ⟨i, hi, hv, ht⟩ : ∃ i, i ≤ xs.length ∧ wv (xs.take i) = wv xs ∧ (0 < i → ∀ x, xs[i - 1]? = some x → x ≠ 0) := by
    have key : ∀ k, k ≤ xs.length → wv (xs.take k) = wv xs → ∃ i, i ≤ xs.length ∧ wv (xs.take i) = wv xs ∧ (0 < i → ∀ x, xs[i - 1]? = some x → x ≠ 0) := by
      intro k
      induction k with
      | zero => intro h1 h2; exact ⟨0, h1, h2, fun h => absurd h (by decide)⟩
      | succ k ih =>
        intro h1 h2
        by_cases h0 : xs[k]? = some 0
        · exact ih (by omega) (by rw [← h2, wv_top0 h0])
        · exact ⟨k + 1, h1, h2, fun _ x hx => by rw [Nat.add_sub_cancel] at hx; rintro rfl; exact h0 hx⟩
    exact key xs.length (Nat.le_refl _) (by rw [List.take_length])
  have := norm_take h hi hv ht
  have hl : (wds (wv xs)).length = i := by rw [← this, List.length_take, Nat.min_eq_left hi]
  rw [hl, this]
end Go.Sx
namespace Go.Sx
theorem hi_lo (P a b : Nat) (hb : b < 18446744073709551616) (h : (P + b) / 18446744073709551616 + a < 18446744073709551616) : (P / 18446744073709551616 + a + (P % 18446744073709551616 + b + 0) / 18446744073709551616) % 18446744073709551616 = (P + b) / 18446744073709551616 + a := by
  have : (P + b) / 18446744073709551616 = P / 18446744073709551616 + (P % 18446744073709551616 + b + 0) / 18446744073709551616 := by omega
  omega
theorem sub_lo (a b Z : Nat) (hb : b < 18446744073709551616) (hZ : Z ≤ a * 18446744073709551616 + b) : (b + 18446744073709551616 - Z % 18446744073709551616 - 0) % 18446744073709551616 = (a * 18446744073709551616 + b - Z) % 18446744073709551616 := by omega
theorem sub_hi (a b Z : Nat) (hb : b < 18446744073709551616) (ha : a < 18446744073709551616) (hZ : Z ≤ a * 18446744073709551616 + b) : (a + 18446744073709551616 - Z / 18446744073709551616 - (if b < Z % 18446744073709551616 + 0 then 1 else 0)) % 18446744073709551616 = (a * 18446744073709551616 + b - Z) / 18446744073709551616 := by
  obtain ⟨z1, hz1⟩ : ∃ z1, z1 = Z / 18446744073709551616 := ⟨_, rfl⟩
  obtain ⟨z0, hz0⟩ : ∃ z0, z0 = Z % 18446744073709551616 := ⟨_, rfl⟩
  have hzz : Z = z1 * 18446744073709551616 + z0 := by omega
  have hz9 : z0 < 18446744073709551616 := by omega
  rw [← hz1, ← hz0]
  subst hzz
  clear hz1 hz0
  split
  · have h1 : z1 + 1 ≤ a := by omega
    have e1 : (a + 18446744073709551616 - z1 - 1) % 18446744073709551616 = a - z1 - 1 := by omega
    have e2 : a * 18446744073709551616 + b - (z1 * 18446744073709551616 + z0) = (a - z1 - 1) * 18446744073709551616 + (b + 18446744073709551616 - z0) := by omega
    rw [e1, e2]; omega
  · have h1 : z1 ≤ a := by omega
    have e1 : (a + 18446744073709551616 - z1 - 0) % 18446744073709551616 = a - z1 := by omega
    have e2 : a * 18446744073709551616 + b - (z1 * 18446744073709551616 + z0) = (a - z1) * 18446744073709551616 + (b - z0) := by omega
    rw [e1, e2]; omega
end Go.Sx
