/- Long division: the quotient's digits from the top; shifting back; the length in bits. Plain mathematics. -/
import Derived.Test.YtboolbcckfldaaaDoorNumE
namespace Go.Proofs.YtboolbcckfldaaaDoor
set_option linter.unusedVariables false

/-- the part that is divided next is small enough -/
theorem long_seg {M V j n : Nat} (hM : 2 ≤ M) {zs pre us post : List Nat} (hz : zs = pre ++ (us ++ post)) (hp : pre.length = j) (hu : us.length = n + 1) (hlt : val M zs < V * M ^ (j + 1)) : val M us < M * V := by
  have hv : val M zs = val M pre + M ^ j * (val M us + M ^ (n + 1) * val M post) := by rw [hz, val_append, val_append, hp, hu]
  have h1 : M ^ j * (val M us + M ^ (n + 1) * val M post) < M ^ j * (V * M) := by
    have e : V * M ^ (j + 1) = M ^ j * (V * M) := by rw [Nat.pow_succ, Nat.mul_left_comm]
    rw [← e]
    exact Nat.lt_of_le_of_lt (by rw [hv]; exact Nat.le_add_left _ _) hlt
  have h2 := Nat.lt_of_mul_lt_mul_left h1
  rw [Nat.mul_comm M V]
  exact Nat.lt_of_le_of_lt (Nat.le_add_right _ _) h2

/-- a digit is divided off: what is left of the number, and what the quotient gets -/
theorem long_step {M V U j n : Nat} (hM : 2 ≤ M) {zs qs pre us us' post : List Nat} (hz : zs = pre ++ (us ++ post)) (hp : pre.length = j) (hu : us.length = n + 1) (hu' : us'.length = n + 1) (dz : Dig M zs) (hVn : V < M ^ n) (hV : 0 < V) (hj : j < qs.length)
    (hI : U = V * M ^ (j + 1) * val M (qs.drop (j + 1)) + val M zs) (hlt : val M zs < V * M ^ (j + 1)) (hus : val M us' = val M us % V) :
    val M us < M * V ∧ U = V * M ^ j * val M ((qs.set j (val M us / V)).drop j) + val M (pre ++ (us' ++ post)) ∧ val M (pre ++ (us' ++ post)) < V * M ^ j := by
  have hv : val M zs = val M pre + M ^ j * (val M us + M ^ (n + 1) * val M post) := by rw [hz, val_append, val_append, hp, hu]
  have hv' : val M (pre ++ (us' ++ post)) = val M pre + M ^ j * (val M us' + M ^ (n + 1) * val M post) := by rw [val_append, val_append, hp, hu']
  have hpre : val M pre < M ^ j := by
    have : Dig M pre := fun x hx => dz x (by rw [hz]; exact List.mem_append_left _ hx)
    have := val_lt this
    rwa [hp] at this
  have hjp : 0 < M ^ j := Nat.pow_pos (by omega)
  have h1 : M ^ j * (val M us + M ^ (n + 1) * val M post) < M ^ j * (V * M) := by
    have e : V * M ^ (j + 1) = M ^ j * (V * M) := by rw [Nat.pow_succ, Nat.mul_left_comm]
    rw [← e]
    exact Nat.lt_of_le_of_lt (by rw [hv]; exact Nat.le_add_left _ _) hlt
  have h2 := Nat.lt_of_mul_lt_mul_left h1
  have hpost : val M post = 0 := by
    rcases Nat.eq_zero_or_pos (val M post) with h | h
    · exact h
    · exfalso
      have h3 : M ^ (n + 1) * 1 ≤ M ^ (n + 1) * val M post := Nat.mul_le_mul_left _ h
      have h4 : V * M < M ^ n * M := Nat.mul_lt_mul_of_pos_right hVn (by omega)
      rw [← Nat.pow_succ] at h4
      exact Nat.lt_irrefl _ (Nat.lt_of_lt_of_le (Nat.lt_of_le_of_lt (Nat.le_trans (by rw [Nat.mul_one] at h3; exact h3) (Nat.le_add_left _ _)) h2) (Nat.le_of_lt h4))
  rw [hpost, Nat.mul_zero, Nat.add_zero] at hv hv' h2
  have hdm := Nat.div_add_mod (val M us) V
  rw [← hus] at hdm
  refine ⟨by rw [Nat.mul_comm]; exact h2, ?_, ?_⟩
  · rw [hv', hI, hv, val_drop M _ j (by rw [List.length_set]; exact hj), gd_set_eq _ hj, List.drop_set_of_lt (by omega)]
    have e1 : V * M ^ (j + 1) * val M (qs.drop (j + 1)) = V * M ^ j * (M * val M (qs.drop (j + 1))) := by
      rw [Nat.pow_succ, ← Nat.mul_assoc V, Nat.mul_assoc (V * M ^ j)]
    have e2 : M ^ j * val M us = V * M ^ j * (val M us / V) + M ^ j * val M us' := by
      conv => lhs; rw [← hdm]
      rw [Nat.mul_add, ← Nat.mul_assoc, Nat.mul_comm (M ^ j) V]
    rw [e1, e2, Nat.mul_add]; omega
  · rw [hv']
    have h3 : val M us' + 1 ≤ V := by rw [hus]; exact Nat.mod_lt _ hV
    have h4 : M ^ j * (val M us' + 1) ≤ M ^ j * V := Nat.mul_le_mul_left _ h3
    rw [Nat.mul_add] at h4
    rw [Nat.mul_comm V]; omega

theorem long_end {U V Q R x y p : Nat} (hp : 0 < p) (hU : U = x * p) (hV : V = y * p) (h : U = V * Q + R) (hR : R < V) : Q = x / y ∧ R = (x % y) * p := by
  have hy : 0 < y := by
    rcases Nat.eq_zero_or_pos y with h0 | h0
    · subst h0; rw [Nat.zero_mul] at hV; omega
    · exact h0
  have h1 : Q = U / V := by
    rw [h, Nat.mul_add_div (by omega), Nat.div_eq_of_lt hR]; rfl
  have h2 : R = U % V := by
    rw [h, Nat.mul_add_mod, Nat.mod_eq_of_lt hR]
  rw [h1, h2, hU, hV]
  exact ⟨Nat.mul_div_mul_right x y hp, Nat.mul_mod_mul_right p x y⟩

theorem val_digit (M : Nat) (hM : 2 ≤ M) (zs : List Nat) (d : Dig M zs) (i : Nat) : val M zs / M ^ i = gd zs i + M * (gd zs (i + 1) + M * (val M zs / M ^ (i + 2))) := by
  have key : ∀ i, val M zs / M ^ i = gd zs i + M * (val M zs / M ^ (i + 1)) := by
    intro i
    have h1 : gd zs i = val M zs / M ^ i % M := by
      have := digs_gd hM (val M zs) i
      rw [digs_val hM d] at this
      rw [← this]
      rcases Nat.lt_or_ge i (trimL zs).length with h | h
      · conv => rhs; rw [trimL_take]
        rw [gd_take h]
      · rw [gd_behind h]
        have h2 := gd_le_val M zs i
        rcases Nat.eq_zero_or_pos (gd zs i) with h3 | h3
        · exact h3
        · exfalso
          have h4 : M ^ i * 1 ≤ M ^ i * gd zs i := Nat.mul_le_mul_left _ h3
          have h5 := val_lt d.trimL
          rw [val_trimL] at h5
          have h6 : M ^ (trimL zs).length ≤ M ^ i := Nat.pow_le_pow_right (by omega) h
          omega
    rw [h1, Nat.pow_succ, ← Nat.div_div_eq_div_mul]
    exact (Nat.mod_add_div _ _).symm
  rw [key i, key (i + 1)]

/-- a digit of a number that is shifted back -/
theorem unshift_digit {M p h : Nat} (hM : 2 ≤ M) (hp : 0 < p) (hh : M = p * h) (zs : List Nat) (d : Dig M zs) (i : Nat) : (gd zs (i + 1) * M + gd zs i) / p % M = val M zs / p / M ^ i % M := by
  rw [Nat.div_div_eq_div_mul, Nat.mul_comm p, ← Nat.div_div_eq_div_mul, val_digit M hM zs d i]
  have e : gd zs i + M * (gd zs (i + 1) + M * (val M zs / M ^ (i + 2))) = (gd zs (i + 1) * M + gd zs i) + p * (M * (h * (val M zs / M ^ (i + 2)))) := by
    generalize val M zs / M ^ (i + 2) = W
    rw [Nat.mul_add, ← Nat.add_assoc, Nat.mul_comm M (gd zs (i + 1)), Nat.add_comm (gd zs i)]
    congr 1
    rw [← Nat.mul_assoc M M W]
    conv => lhs; rw [show M * M = p * h * M by rw [← hh]]
    rw [Nat.mul_assoc, Nat.mul_assoc, Nat.mul_left_comm h M W]
  rw [e, Nat.add_mul_div_left _ _ hp, Nat.add_mul_mod_self_left]

theorem take_mod (M : Nat) (X i : Nat) : X % M ^ (i + 1) = X % M ^ i + M ^ i * (X / M ^ i % M) := by
  rw [Nat.pow_succ, Nat.mod_mul]

/-- the highest digit of a number that is shifted to the left end -/
theorem top_shift {M n y p : Nat} (hM : 2 ≤ M) {vs : List Nat} (d : Dig M vs) (hl : vs.length = n + 1) (hv : val M vs = y * p) (hy : M ^ n * ((M + 1) / 2) ≤ y * p) : (M + 1) / 2 ≤ gd vs n := by
  have h1 := val_split M vs n (by omega)
  have h2 := val_drop M vs n (by omega)
  rw [List.drop_of_length_le (show vs.length ≤ n + 1 by omega)] at h2
  simp only [val, Nat.mul_zero, Nat.add_zero] at h2
  have h3 := val_lt (d.take n)
  rw [List.length_take, Nat.min_eq_left (by omega)] at h3
  rw [h2] at h1
  have h4 : M ^ n * ((M + 1) / 2) < M ^ n * (gd vs n + 1) := by rw [Nat.mul_add, Nat.mul_one]; omega
  have := Nat.lt_of_mul_lt_mul_left h4
  omega

end Go.Proofs.YtboolbcckfldaaaDoor
