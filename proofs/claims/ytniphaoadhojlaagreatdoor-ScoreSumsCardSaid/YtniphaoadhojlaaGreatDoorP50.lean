set_option linter.all false
namespace Go.Sx

/-! ## The texts of scores: plain -/
/-- Decimal digits, the highest first. -/
def dec (n : Nat) : List Nat := if h : n < 10 then [48 + n] else dec (n / 10) ++ [48 + n % 10]
  termination_by n
theorem dec_small {n : Nat} (h : n < 10) : dec n = [48 + n] := by rw [dec, dif_pos h]
theorem dec_big {n : Nat} (h : ¬ n < 10) : dec n = dec (n / 10) ++ [48 + n % 10] := by rw [dec, dif_neg h]
theorem dec_ne (n : Nat) : dec n ≠ [] := by
  by_cases h : n < 10
  · rw [dec_small h]; simp
  · rw [dec_big h]; simp
theorem dec_len : ∀ (k n : Nat), n < 10 ^ (k + 1) → (dec n).length ≤ k + 1 := by
  intro k
  induction k with
  | zero => intro n h; rw [dec_small (by simpa using h)]; simp
  | succ k ih =>
    intro n h
    by_cases h1 : n < 10
    · rw [dec_small h1]; simp
    · rw [dec_big h1, List.length_append]
      have := ih (n / 10) (by rw [Nat.pow_succ] at h; omega)
      simp; omega
theorem dec_dig : ∀ (n : Nat), ∀ c ∈ dec n, 48 ≤ c ∧ c ≤ 57 := by
  intro n
  induction n using Nat.strongRecOn with
  | _ n ih =>
    intro c hc
    by_cases h : n < 10
    · rw [dec_small h] at hc; simp at hc; omega
    · rw [dec_big h, List.mem_append] at hc
      rcases hc with hc | hc
      · exact ih (n / 10) (by omega) c hc
      · simp at hc; omega
/-- The digits behind the point of r parts of 2^18. -/
def fracL : Nat → Nat → List Nat
  | 0, _ => []
  | k + 1, r => if r = 0 then [] else (48 + r * 10 / 262144) :: fracL k (r * 10 % 262144)
theorem frac_len : ∀ (k r : Nat), (fracL k r).length ≤ k := by
  intro k
  induction k with
  | zero => intro r; simp [fracL]
  | succ k ih =>
    intro r
    rw [fracL]
    split
    · simp
    · have := ih (r * 10 % 262144); simp; omega
theorem frac_dig : ∀ (k r : Nat), r < 262144 → ∀ c ∈ fracL k r, 48 ≤ c ∧ c ≤ 57 := by
  intro k
  induction k with
  | zero => intro r _ c hc; simp [fracL] at hc
  | succ k ih =>
    intro r hr c hc
    rw [fracL] at hc
    split at hc
    · simp at hc
    · rcases List.mem_cons.1 hc with rfl | hc
      · omega
      · exact ih _ (by omega) c hc
/-- More rounds change nothing. -/
theorem frac_more : ∀ (k r : Nat), r * 2 ^ k % 262144 = 0 → r < 262144 → fracL (k + 1) r = fracL k r := by
  intro k
  induction k with
  | zero => intro r h hr; have : r = 0 := by omega
            subst this; rfl
  | succ k ih =>
    intro r h hr
    rw [fracL, fracL.eq_def (k + 1) r]
    simp only
    by_cases h0 : r = 0
    · rw [if_pos h0, if_pos h0]
    · rw [if_neg h0, if_neg h0, ih _ ?_ (by omega)]
      rw [Nat.mod_mul_mod]
      rw [show r * 10 * 2 ^ k = r * 2 ^ (k + 1) * 5 by rw [Nat.pow_succ]; generalize 2 ^ k = x; rw [Nat.mul_assoc, Nat.mul_assoc, Nat.mul_assoc]; congr 1; omega]
      rw [Nat.mul_mod, h]
/-- A score's text. -/
def textL (x : Nat) : List Nat := dec (x / 262144) ++ (if x % 262144 = 0 then [] else 46 :: fracL 18 (x % 262144))
theorem text_len {x : Nat} (h : x < 18446744073709551616) : (textL x).length ≤ 33 := by
  have h1 := dec_len 13 (x / 262144) (by omega)
  have h2 := frac_len 18 (x % 262144)
  rw [textL, List.length_append]
  split
  · simp; omega
  · simp; omega
/-- The number of a decimal text, below 2^46. -/
def numF : Nat → List Nat → Option Nat
  | n, [] => some n
  | n, c :: cs => if 48 ≤ c ∧ c ≤ 57 then (if n * 10 + (c - 48) < 70368744177664 then numF (n * 10 + (c - 48)) cs else none) else none
def numL (s : List Nat) : Option Nat := if s = [] then none else numF 0 s
theorem numF_snoc (c : Nat) : ∀ (s : List Nat) (n : Nat), numF n (s ++ [c]) = (numF n s).bind fun m => numF m [c] := by
  intro s
  induction s with
  | nil => intro n; rfl
  | cons d s ih =>
    intro n
    rw [List.cons_append, numF, numF]
    split
    · split
      · exact ih _
      · rfl
    · rfl
theorem num_dec : ∀ n, n < 70368744177664 → numF 0 (dec n) = some n := by
  intro n
  induction n using Nat.strongRecOn with
  | _ n ih =>
    intro hn
    by_cases h : n < 10
    · rw [dec_small h]
      simp [numF]; omega
    · rw [dec_big h, numF_snoc, ih (n / 10) (by omega) (by omega)]
      simp [numF]; omega
/-- The text ahead of the first point, and what stands behind it. -/
def cutL : List Nat → List Nat × List Nat
  | [] => ([], [])
  | c :: cs => if c = 46 then ([], cs) else (c :: (cutL cs).1, (cutL cs).2)
theorem cut_none : ∀ (s : List Nat), (∀ c ∈ s, c ≠ 46) → cutL s = (s, []) := by
  intro s
  induction s with
  | nil => intro _; rfl
  | cons c s ih =>
    intro h
    rw [cutL, if_neg (h c (by simp)), ih fun d hd => h d (by simp [hd])]
theorem cut_at : ∀ (s r : List Nat), (∀ c ∈ s, c ≠ 46) → cutL (s ++ 46 :: r) = (s, r) := by
  intro s
  induction s with
  | nil => intro r _; simp [cutL]
  | cons c s ih =>
    intro r h
    rw [List.cons_append, cutL, if_neg (h c (by simp)), ih r fun d hd => h d (by simp [hd])]
/-- The first k digits of a text, missing ones 0, as a whole number. -/
def digF (s : List Nat) : Nat → Int
  | 0 => 0
  | k + 1 => digF s k * 10 + (if k < s.length then ((s.getD k 0 : Nat) : Int) - 48 else 0)
theorem digF_shift (c : Nat) (s : List Nat) : ∀ k, digF (c :: s) (k + 1) = ((c : Int) - 48) * 10 ^ k + digF s k := by
  intro k
  induction k with
  | zero => simp [digF]
  | succ k ih =>
    rw [digF, ih, digF]
    simp only [List.length_cons, Nat.add_lt_add_iff_right, List.getD_cons_succ]
    have : ((c : Int) - 48) * 10 ^ (k + 1) = ((c : Int) - 48) * 10 ^ k * 10 := by rw [Int.pow_succ, Int.mul_assoc]
    omega
theorem digF_nil : ∀ k, digF [] k = 0 := by
  intro k
  induction k with
  | zero => rfl
  | succ k ih => rw [digF, ih]; simp
theorem dig_frac : ∀ (k r : Nat), r < 262144 → r * 2 ^ k % 262144 = 0 → digF (fracL k r) k * 262144 = (r : Int) * 10 ^ k := by
  intro k
  induction k with
  | zero => intro r h hr; have : r = 0 := by omega
            subst this; simp [digF]
  | succ k ih =>
    intro r hr h
    rw [fracL]
    by_cases h0 : r = 0
    · rw [if_pos h0, h0, digF_nil]; simp
    · rw [if_neg h0, digF_shift]
      have h1 := ih (r * 10 % 262144) (by omega) (by
        rw [Nat.mod_mul_mod, show r * 10 * 2 ^ k = r * 2 ^ (k + 1) * 5 by rw [Nat.pow_succ]; generalize 2 ^ k = x; rw [Nat.mul_assoc, Nat.mul_assoc, Nat.mul_assoc]; congr 1; omega, Nat.mul_mod, h])
      have h2 : (((48 + r * 10 / 262144 : Nat) : Int) - 48) = ((r * 10 / 262144 : Nat) : Int) := by omega
      rw [h2, Int.add_mul, h1]
      have h3 : (r : Int) * 10 = ((r * 10 / 262144 : Nat) : Int) * 262144 + ((r * 10 % 262144 : Nat) : Int) := by omega
      rw [Int.pow_succ, show (r : Int) * (10 ^ k * 10) = ((r : Int) * 10) * 10 ^ k by rw [Int.mul_assoc, Int.mul_comm (10 ^ k) 10], h3, Int.add_mul]
      congr 1
      rw [Int.mul_right_comm]
/-- What a text's score is. -/
def scoreL (t : List Nat) : Option Nat :=
  match numL (cutL t).1 with
  | none => none
  | some w =>
    if 18 < (cutL t).2.length then none
    else
      let p := Int.tdiv (digF (cutL t).2 18 * 262144) 1000000000000000000
      if p < 0 ∨ 262144 ≤ p then none
      else if textL (w * 262144 + p.toNat) = t then some (w * 262144 + p.toNat) else none
theorem score_text {x : Nat} (h : x < 18446744073709551616) : scoreL (textL x) = some x := by
  have hd : ∀ c ∈ dec (x / 262144), c ≠ 46 := fun c hc => by have := dec_dig _ c hc; omega
  have hn : numL (dec (x / 262144)) = some (x / 262144) := by rw [numL, if_neg (dec_ne _), num_dec _ (by omega)]
  have hc : cutL (textL x) = (dec (x / 262144), fracL 18 (x % 262144)) := by
    rw [textL]
    split
    · rename_i h0; rw [List.append_nil, cut_none _ hd, h0]; rfl
    · exact cut_at _ _ hd
  have hp : digF (fracL 18 (x % 262144)) 18 * 262144 = ((x % 262144 : Nat) : Int) * 10 ^ 18 := dig_frac 18 _ (by omega) (by omega)
  rw [scoreL, hc]
  simp only [hn]
  rw [if_neg (by have := frac_len 18 (x % 262144); omega), hp]
  have hq : Int.tdiv (((x % 262144 : Nat) : Int) * 10 ^ 18) 1000000000000000000 = ((x % 262144 : Nat) : Int) := by
    rw [show (10 : Int) ^ 18 = 1000000000000000000 by decide, Int.mul_tdiv_cancel _ (by decide)]
  rw [hq, if_neg (by omega), Int.toNat_natCast, show x / 262144 * 262144 + x % 262144 = x by omega, if_pos rfl]
theorem score_sound {t : List Nat} {v : Nat} (h : scoreL t = some v) : textL v = t := by
  unfold scoreL at h
  split at h
  · cases h
  · split at h
    · cases h
    · simp only at h
      split at h
      · cases h
      · split at h
        · rename_i h4; cases h; exact h4
        · cases h
theorem text_inj {x y : Nat} (hx : x < 18446744073709551616) (hy : y < 18446744073709551616) : textL x = textL y ↔ x = y := by
  constructor
  · intro h
    have h1 := score_text hx
    rw [h, score_text hy] at h1
    exact (Option.some.inj h1).symm
  · rintro rfl; rfl
end Go.Sx
