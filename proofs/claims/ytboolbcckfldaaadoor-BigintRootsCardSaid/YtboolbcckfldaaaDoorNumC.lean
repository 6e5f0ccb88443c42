/- Multiplying and shifting digits. Plain mathematics. -/
import Derived.Test.YtboolbcckfldaaaDoorNumB
namespace Go.Proofs.YtboolbcckfldaaaDoor
set_option linter.unusedVariables false

/-- a digit gets something more, with a carry -/
theorem digit_add (M : Nat) (zs : List Nat) (j s c e : Nat) (hj : j < zs.length) (h : s + M * c = gd zs j + e) : val M (zs.set j s) + M ^ (j + 1) * c = val M zs + M ^ j * e := by
  have h1 := val_set M zs j s hj
  have h2 := congrArg (M ^ j * ·) h
  simp only [Nat.mul_add, ← Nat.mul_assoc] at h2
  rw [Nat.pow_succ]
  omega

/-- a carry lies within the digits -/
theorem carry_in {M : Nat} (hM : 2 ≤ M) {z T n i : Nat} (h : z + M ^ i * 1 = T) (hT : T < M ^ n) : i < n := by
  rcases Nat.lt_or_ge i n with h' | h'
  · exact h'
  · have : M ^ n ≤ M ^ i := Nat.pow_le_pow_right (by omega) h'
    omega

theorem pow_pos' {M : Nat} (hM : 2 ≤ M) (n : Nat) : 0 < M ^ n := Nat.pow_pos (by omega)

theorem put_start (M : Nat) (zs : List Nat) (a p s1 c1 s2 c2 : Nat) (ha : a + 1 < zs.length) (h1 : s1 + M * c1 = gd zs a + p % M) (h2 : s2 + M * c2 = gd zs (a + 1) + p / M + c1) :
    val M ((zs.set a s1).set (a + 1) s2) + M ^ (a + 1 + 1) * c2 = val M zs + M ^ a * p := by
  have e1 := digit_add M zs a s1 c1 (p % M) (by omega) h1
  have e2 := digit_add M (zs.set a s1) (a + 1) s2 c2 (p / M + c1) (by rw [List.length_set]; exact ha) (by rw [gd_set_ne _ _ (by omega)]; omega)
  rw [e2, Nat.mul_add]
  have e3 := Nat.mod_add_div (p) M
  have e4 := congrArg (M ^ a * ·) e3
  simp only [Nat.mul_add, ← Nat.mul_assoc] at e4
  have e5 : M ^ (a + 1) * (p / M) = M ^ a * M * (p / M) := by rw [Nat.pow_succ]
  omega

/-- the rows of a product -/
theorem mul_row (M i k P Yk x y Z : Nat) (h : Z = P + M ^ i * (x * Yk)) : Z + M ^ (i + k) * (x * y) = P + M ^ i * (x * (Yk + M ^ k * y)) := by
  rw [h, Nat.pow_add]
  rw [Nat.mul_add x, Nat.mul_add (M ^ i)]
  have : M ^ i * (x * (M ^ k * y)) = M ^ i * M ^ k * (x * y) := by
    rw [Nat.mul_left_comm x (M ^ k) y, ← Nat.mul_assoc (M ^ i) (M ^ k)]
  omega

theorem mul_bound {M : Nat} (hM : 2 ≤ M) {xs ys : List Nat} (dx : Dig M xs) (dy : Dig M ys) (i k : Nat) (hi : i < xs.length) (hk : k ≤ ys.length) :
    val M (xs.take i) * val M ys + M ^ i * (gd xs i * val M (ys.take k)) < M ^ (xs.length + ys.length + 1) := by
  have h1 : val M (ys.take k) ≤ val M ys := by
    have := val_split M ys k hk
    omega
  have h2 : M ^ i * (gd xs i * val M (ys.take k)) ≤ M ^ i * gd xs i * val M ys := by
    rw [← Nat.mul_assoc]; exact Nat.mul_le_mul_left _ h1
  have h3 : val M (xs.take i) * val M ys + M ^ i * gd xs i * val M ys = val M (xs.take (i + 1)) * val M ys := by
    rw [val_take_succ', Nat.add_mul]
  have h4 : val M (xs.take (i + 1)) < M ^ xs.length := by
    have h5 := val_lt (dx.take (i + 1))
    exact Nat.lt_of_lt_of_le h5 (Nat.pow_le_pow_right (by omega) (by rw [List.length_take]; omega))
  have h6 := val_lt dy
  have h7 : val M (xs.take (i + 1)) * val M ys ≤ M ^ xs.length * M ^ ys.length := Nat.mul_le_mul (Nat.le_of_lt h4) (Nat.le_of_lt h6)
  have h8 : M ^ xs.length * M ^ ys.length < M ^ (xs.length + ys.length + 1) := by
    rw [← Nat.pow_add]; exact Nat.pow_lt_pow_right (by omega) (by omega)
  omega

/-- shifting: digit by digit -/
theorem shift_low {M : Nat} (zs xs : List Nat) (i p : Nat) (hp : p ≤ M) (dx : Dig M xs) (hi : i < xs.length) (h : val M zs = val M (xs.take i) * p) : gd zs i < p ∨ p = 0 := by
  rcases Nat.eq_zero_or_pos p with h0 | h0
  · exact .inr h0
  · left
    have h1 := gd_le_val M zs i
    have h2 := val_lt (dx.take i)
    rw [List.length_take, Nat.min_eq_left (Nat.le_of_lt hi)] at h2
    have h3 : val M (xs.take i) * p < M ^ i * p := Nat.mul_lt_mul_of_pos_right h2 h0
    have h4 : M ^ i * gd zs i < M ^ i * p := by omega
    exact Nat.lt_of_mul_lt_mul_left h4

theorem shift_high {M : Nat} (hM : 2 ≤ M) (zs xs : List Nat) (i p j : Nat) (hp : p ≤ M) (dx : Dig M xs) (hj : i + 1 ≤ j) (hi : i ≤ xs.length) (h : val M zs = val M (xs.take i) * p) : gd zs j = 0 := by
  have h1 := gd_le_val M zs j
  have h2 := val_lt (dx.take i)
  rw [List.length_take, Nat.min_eq_left hi] at h2
  have h3 : val M (xs.take i) * p < M ^ j * 1 := by
    have h4 : val M (xs.take i) * p ≤ val M (xs.take i) * M := Nat.mul_le_mul_left _ hp
    have h5 : val M (xs.take i) * M < M ^ i * M := Nat.mul_lt_mul_of_pos_right h2 (by omega)
    have h6 : M ^ (i + 1) ≤ M ^ j := Nat.pow_le_pow_right (by omega) hj
    rw [Nat.pow_succ] at h6; omega
  have h4 : M ^ j * gd zs j < M ^ j * 1 := by omega
  have := Nat.lt_of_mul_lt_mul_left h4
  omega

theorem shift_step {M : Nat} (hM : 2 ≤ M) (zs xs : List Nat) (i p : Nat) (hi : i + 1 < zs.length) (hp : p ≤ M) (dx : Dig M xs) (hx : i < xs.length) (h : val M zs = val M (xs.take i) * p) :
    val M ((zs.set i (gd zs i + gd xs i * p % M)).set (i + 1) (gd xs i * p / M)) = val M (xs.take (i + 1)) * p := by
  have h0 : gd zs (i + 1) = 0 := shift_high hM zs xs i p (i + 1) hp dx (Nat.le_refl _) (Nat.le_of_lt hx) h
  have h1 := val_set M zs i (gd zs i + gd xs i * p % M) (by omega)
  have h2 := val_set M (zs.set i (gd zs i + gd xs i * p % M)) (i + 1) (gd xs i * p / M) (by rw [List.length_set]; exact hi)
  rw [gd_set_ne _ _ (by omega), h0] at h2
  rw [val_take_succ', Nat.add_mul, ← h]
  have h3 := Nat.mod_add_div (gd xs i * p) M
  have h4 := congrArg (M ^ i * ·) h3
  simp only [Nat.mul_add, ← Nat.mul_assoc] at h4 h1
  rw [Nat.pow_succ] at h2
  omega

end Go.Proofs.YtboolbcckfldaaaDoor
