/- Long division: a guessed digit of the quotient is right or too great by one. Plain mathematics. -/
import Derived.Test.YtboolbcckfldaaaDoorNumD
namespace Go.Proofs.YtboolbcckfldaaaDoor
set_option linter.unusedVariables false

theorem guess_not_below {U V P t2 v2 qt : Nat} (hP : 0 < P) (hU : U < (t2 + 1) * P) (hV : v2 * P ≤ V) (h : qt * V ≤ U) : qt * v2 ≤ t2 := by
  have h1 : qt * (v2 * P) ≤ qt * V := Nat.mul_le_mul_left _ hV
  rw [← Nat.mul_assoc] at h1
  have h2 : qt * v2 * P < (t2 + 1) * P := by omega
  have := Nat.lt_of_mul_lt_mul_right h2
  omega

theorem guess_near {U V P t2 v2 q qt : Nat} (hP : 0 < P) (hU : t2 * P ≤ U) (hV : V < (v2 + 1) * P) (hq : q * v2 ≤ t2) (hqv : q ≤ v2 + 1) (h : U < (qt + 1) * V) : q ≤ qt + 1 := by
  rcases Nat.lt_or_ge (qt + 1) q with h' | h'
  · exfalso
    obtain ⟨m, rfl⟩ : ∃ m, q = m + 1 := ⟨q - 1, by omega⟩
    have h1 : (qt + 1) * V ≤ m * V := Nat.mul_le_mul_right _ (by omega)
    have h2 : m * V ≤ m * ((v2 + 1) * P) := Nat.mul_le_mul_left _ (Nat.le_of_lt hV)
    have h3 : (m + 1) * v2 * P ≤ t2 * P := Nat.mul_le_mul_right _ hq
    have h4 : (m + 1) * v2 * P < m * (v2 + 1) * P := by rw [← Nat.mul_assoc] at h2; omega
    have h5 := Nat.lt_of_mul_lt_mul_right h4
    rw [Nat.add_mul, Nat.mul_add] at h5
    omega
  · exact h'

theorem sub_mul_arith (M P q x y carry b s b' X Y Z : Nat) (h : Z + q * Y = X + P * (carry + b)) (h2 : s + (carry + q * y) % M + b = x + M * b') :
    Z + P * s + q * (Y + P * y) = X + P * x + P * M * ((carry + q * y) / M + b') := by
  have h3 := Nat.mod_add_div (carry + q * y) M
  have h4 : s + q * y + carry + b = x + M * ((carry + q * y) / M + b') := by rw [Nat.mul_add]; omega
  have h5 := congrArg (P * ·) h4
  simp only [Nat.mul_add, ← Nat.mul_assoc] at h5 h ⊢
  have h6 : q * P * y = P * q * y := by rw [Nat.mul_comm q P]
  omega

theorem sub_mul_step (M : Nat) (zs us vs : List Nat) (i q carry b s b' : Nat) (hi : i < zs.length) (h : val M (zs.take i) + q * val M (vs.take i) = val M (us.take i) + M ^ i * (carry + b)) (h2 : s + (carry + q * gd vs i) % M + b = gd us i + M * b') :
    val M ((zs.set i s).take (i + 1)) + q * val M (vs.take (i + 1)) = val M (us.take (i + 1)) + M ^ (i + 1) * ((carry + q * gd vs i) / M + b') := by
  rw [val_set_take M s hi, val_take_succ', val_take_succ', Nat.pow_succ]
  exact sub_mul_arith M (M ^ i) q _ _ carry b s b' _ _ _ h h2

theorem carry_le {M q carry y : Nat} (hM : 0 < M) (hc : carry ≤ q) (hy : y < M) : (carry + q * y) / M ≤ q := by
  apply Nat.le_of_lt_succ
  rw [Nat.div_lt_iff_lt_mul hM]
  have : q * y ≤ q * (M - 1) := Nat.mul_le_mul_left _ (by omega)
  obtain ⟨m, rfl⟩ : ∃ m, M = m + 1 := ⟨M - 1, by omega⟩
  simp only [Nat.add_sub_cancel] at this
  rw [Nat.succ_mul, Nat.mul_add]; omega

/-- the part of a list that begins at a place -/
theorem set_mid (pre us post : List Nat) (i x : Nat) (h : i < us.length) : (pre ++ (us ++ post)).set (pre.length + i) x = pre ++ (us.set i x ++ post) := by
  rw [List.set_append_right _ _ (by omega), Nat.add_sub_cancel_left, List.set_append_left _ _ h]
theorem gd_mid (pre us post : List Nat) (i : Nat) (h : i < us.length) : gd (pre ++ (us ++ post)) (pre.length + i) = gd us i := by
  rw [gd_append_right (by omega), Nat.add_sub_cancel_left, gd_append_left h]

/-- the two first digits of a number -/
theorem top_two {M : Nat} (hM : 2 ≤ M) {vs : List Nat} (n : Nat) (hn : vs.length = n + 2) (d : Dig M vs) :
    (gd vs (n + 1) * M + gd vs n) * M ^ n ≤ val M vs ∧ val M vs < (gd vs (n + 1) * M + gd vs n + 1) * M ^ n := by
  have h1 := val_split M vs n (by omega)
  have h2 := val_drop M vs n (by omega)
  have h3 := val_drop M vs (n + 1) (by omega)
  rw [List.drop_of_length_le (show vs.length ≤ n + 1 + 1 by omega)] at h3
  simp only [val, Nat.mul_zero, Nat.add_zero] at h3
  have h4 := val_lt (d.take n)
  rw [List.length_take, Nat.min_eq_left (by omega)] at h4
  rw [h1, h2, h3]
  have e : M ^ n * (gd vs n + M * gd vs (n + 1)) = (gd vs (n + 1) * M + gd vs n) * M ^ n := by
    rw [Nat.mul_comm (M ^ n), Nat.add_comm (gd vs n), Nat.mul_comm M]
  rw [e, Nat.add_mul (gd vs (n + 1) * M + gd vs n) 1, Nat.one_mul]
  omega
theorem top_three {M : Nat} (hM : 2 ≤ M) {us : List Nat} (n : Nat) (hn : us.length = n + 3) (d : Dig M us) :
    ((gd us (n + 2) * M + gd us (n + 1)) * M + gd us n) * M ^ n ≤ val M us ∧ val M us < ((gd us (n + 2) * M + gd us (n + 1)) * M + gd us n + 1) * M ^ n := by
  have h1 := val_split M us n (by omega)
  have h2 := val_drop M us n (by omega)
  have h3 := val_drop M us (n + 1) (by omega)
  have h5 := val_drop M us (n + 1 + 1) (by omega)
  rw [List.drop_of_length_le (show us.length ≤ n + 1 + 1 + 1 by omega)] at h5
  simp only [val, Nat.mul_zero, Nat.add_zero] at h5
  have h4 := val_lt (d.take n)
  rw [List.length_take, Nat.min_eq_left (by omega)] at h4
  rw [h1, h2, h3, h5]
  have e : M ^ n * (gd us n + M * (gd us (n + 1) + M * gd us (n + 1 + 1))) = ((gd us (n + 2) * M + gd us (n + 1)) * M + gd us n) * M ^ n := by
    rw [Nat.mul_comm (M ^ n), Nat.add_comm (gd us n), Nat.mul_comm M, Nat.add_comm (gd us (n + 1)), Nat.mul_comm M]
  rw [e, Nat.add_mul _ 1, Nat.one_mul]
  omega

/-- what the correcting loop keeps: q v1 + r is the top; the quotient is not below -/
def GInv (v1 top qt q r : Nat) : Prop := q * v1 + r = top ∧ r < 4294967296 ∧ qt ≤ q ∧ q ≤ 4294967297
/-- the guess, after the loop that corrects it -/
def Guessed (v1 v0 top u0 qt q : Nat) : Prop := q < 4294967296 ∧ qt ≤ q ∧ q * (v1 * 4294967296 + v0) ≤ top * 4294967296 + u0

theorem two_mul_top (q v1 v0 M : Nat) : q * (v1 * M + v0) = q * v1 * M + q * v0 := by rw [Nat.mul_add, Nat.mul_assoc]

theorem ginv_down {v1 v0 top u0 qt q r : Nat} (h : GInv v1 top qt q r) (hK : qt * (v1 * 4294967296 + v0) ≤ top * 4294967296 + u0) (hqM : qt < 4294967296) (hc : 4294967296 ≤ q ∨ r * 4294967296 + u0 < q * v0) :
    1 ≤ q ∧ qt ≤ q - 1 ∧ (q - 1) * v1 + (r + v1) = top := by
  obtain ⟨h1, h2, h3, h4⟩ := h
  have hlt : qt < q := by
    rcases hc with hc | hc
    · omega
    · rcases Nat.lt_or_ge qt q with h' | h'
      · exact h'
      · exfalso
        have : qt = q := by omega
        subst this
        rw [two_mul_top] at hK
        have : (qt * v1 + r) * 4294967296 = top * 4294967296 := by rw [h1]
        rw [Nat.add_mul] at this
        omega
  refine ⟨by omega, by omega, ?_⟩
  obtain ⟨m, rfl⟩ : ∃ m, q = m + 1 := ⟨q - 1, by omega⟩
  rw [Nat.add_mul, Nat.one_mul] at h1
  rw [Nat.add_sub_cancel]; omega

theorem guess_exit {v1 v0 top u0 qt q r : Nat} (h : GInv v1 top qt q r) (hq : q < 4294967296) (ht : q * v0 ≤ r * 4294967296 + u0) : Guessed v1 v0 top u0 qt q := by
  obtain ⟨h1, h2, h3, h4⟩ := h
  refine ⟨hq, h3, ?_⟩
  rw [two_mul_top]
  have : (q * v1 + r) * 4294967296 = top * 4294967296 := by rw [h1]
  rw [Nat.add_mul] at this
  omega

theorem guess_break {v1 v0 top u0 qt q r : Nat} (hq : qt ≤ q) (h : q * v1 + r = top) (hr : 4294967296 ≤ r) (hv1 : 0 < v1) (hv0 : v0 < 4294967296) (htop : top ≤ v1 * 4294967296 + 4294967295) : Guessed v1 v0 top u0 qt q := by
  have hqM : q < 4294967296 := by
    have h1 : q * v1 < v1 * 4294967296 := by omega
    rw [Nat.mul_comm q v1] at h1
    exact Nat.lt_of_mul_lt_mul_left h1
  refine ⟨hqM, hq, ?_⟩
  rw [two_mul_top]
  have h2 : (q * v1 + r) * 4294967296 = top * 4294967296 := by rw [h]
  rw [Nat.add_mul] at h2
  have h3 : q * v0 ≤ 4294967296 * 4294967296 := Nat.mul_le_mul (Nat.le_of_lt hqM) (Nat.le_of_lt hv0)
  omega

theorem ginv_start {v1 top qt : Nat} (hv1 : 2147483648 ≤ v1) (hv : v1 < 4294967296) (htop : top ≤ v1 * 4294967296 + 4294967295) (hqt : qt * v1 ≤ top) : GInv v1 top qt (top / v1) (top % v1) := by
  have h1 := Nat.mod_lt top (show 0 < v1 by omega)
  refine ⟨?_, by omega, ?_, ?_⟩
  · rw [Nat.mul_comm]; exact Nat.div_add_mod top v1
  · rw [Nat.le_div_iff_mul_le (by omega)]; exact hqt
  · have : top / v1 < 4294967298 := by
      rw [Nat.div_lt_iff_lt_mul (by omega)]; omega
    omega

/-- what the two numbers of a step of the long division say of their first digits -/
theorem guess_facts {us vs : List Nat} (n : Nat) (hu : us.length = n + 3) (hv : vs.length = n + 2) (du : Dig 4294967296 us) (dv : Dig 4294967296 vs) (hn : 2147483648 ≤ gd vs (n + 1)) (h : val 4294967296 us < 4294967296 * val 4294967296 vs) :
    val 4294967296 us / val 4294967296 vs < 4294967296 ∧
    (val 4294967296 us / val 4294967296 vs) * (gd vs (n + 1) * 4294967296 + gd vs n) ≤ (gd us (n + 2) * 4294967296 + gd us (n + 1)) * 4294967296 + gd us n ∧
    gd us (n + 2) * 4294967296 + gd us (n + 1) ≤ gd vs (n + 1) * 4294967296 + 4294967295 ∧
    (val 4294967296 us / val 4294967296 vs) * gd vs (n + 1) ≤ gd us (n + 2) * 4294967296 + gd us (n + 1) := by
  have hP : 0 < 4294967296 ^ n := Nat.pow_pos (by decide)
  have hV := top_two (by decide) n hv dv
  have hU := top_three (by decide) n hu du
  have gv0 := dv.gd (by decide) n
  have gu1 := du.gd (by decide) (n + 1)
  have gu0 := du.gd (by decide) n
  have hV0 : 0 < val 4294967296 vs := by
    have : 1 * 4294967296 ^ n ≤ (gd vs (n + 1) * 4294967296 + gd vs n) * 4294967296 ^ n := Nat.mul_le_mul_right _ (by omega)
    omega
  have hq : val 4294967296 us / val 4294967296 vs < 4294967296 := by rw [Nat.div_lt_iff_lt_mul hV0]; exact h
  have hk := guess_not_below hP hU.2 hV.1 (Nat.div_mul_le_self (val 4294967296 us) (val 4294967296 vs))
  have htop : gd us (n + 2) ≤ gd vs (n + 1) := by
    have h1 : ((gd us (n + 2) * 4294967296 + gd us (n + 1)) * 4294967296 + gd us n) * 4294967296 ^ n < 4294967296 * ((gd vs (n + 1) * 4294967296 + gd vs n + 1) * 4294967296 ^ n) :=
      Nat.lt_of_le_of_lt hU.1 (Nat.lt_of_lt_of_le h (Nat.mul_le_mul_left _ (Nat.le_of_lt hV.2)))
    rw [← Nat.mul_assoc] at h1
    have := Nat.lt_of_mul_lt_mul_right h1
    omega
  refine ⟨hq, hk, by omega, ?_⟩
  generalize val 4294967296 us / val 4294967296 vs = qt at *
  rw [two_mul_top] at hk
  have h1 : qt * gd vs (n + 1) * 4294967296 < (gd us (n + 2) * 4294967296 + gd us (n + 1) + 1) * 4294967296 := by omega
  have := Nat.lt_of_mul_lt_mul_right h1
  omega

/-- a guess is right or too great by one -/
theorem guess_good {us vs : List Nat} (n q : Nat) (hu : us.length = n + 3) (hv : vs.length = n + 2) (du : Dig 4294967296 us) (dv : Dig 4294967296 vs) (hn : 2147483648 ≤ gd vs (n + 1))
    (h : Guessed (gd vs (n + 1)) (gd vs n) (gd us (n + 2) * 4294967296 + gd us (n + 1)) (gd us n) (val 4294967296 us / val 4294967296 vs) q) : q ≤ val 4294967296 us / val 4294967296 vs + 1 := by
  have hP : 0 < 4294967296 ^ n := Nat.pow_pos (by decide)
  have hV := top_two (by decide) n hv dv
  have hU := top_three (by decide) n hu du
  have hV0 : 0 < val 4294967296 vs := by
    have : 1 * 4294967296 ^ n ≤ (gd vs (n + 1) * 4294967296 + gd vs n) * 4294967296 ^ n := Nat.mul_le_mul_right _ (by omega)
    omega
  obtain ⟨h1, h2, h3⟩ := h
  exact guess_near hP hU.1 hV.2 h3 (by omega) (by
    rw [Nat.add_mul, Nat.one_mul]
    have := Nat.div_add_mod (val 4294967296 us) (val 4294967296 vs)
    have h4 := Nat.mod_lt (val 4294967296 us) hV0
    rw [Nat.mul_comm] at this; omega)

/-- the end of a step: the guess was right, and the rest is what is left -/
theorem step_right {U V q Z Mn b : Nat} (hV : 0 < V) (h : Z + q * V = U + Mn * b) (hb : b = 0) (hZ : Z < Mn) (hq1 : U / V ≤ q) : q = U / V ∧ Z = U % V := by
  subst hb
  have h1 : Z + q * V = U := by omega
  have h2 : q ≤ U / V := by rw [Nat.le_div_iff_mul_le hV]; omega
  have h3 : q = U / V := by omega
  refine ⟨h3, ?_⟩
  have := Nat.div_add_mod U V
  rw [Nat.mul_comm, ← h3] at this; omega

/-- the guess was too great by one -/
theorem step_over {U V q Z Mn b : Nat} (hV : 0 < V) (h : Z + q * V = U + Mn * b) (hb : b = 1) (hZ : Z < Mn) (hq1 : U / V ≤ q) (hq2 : q ≤ U / V + 1) : q = U / V + 1 ∧ Z + V = U % V + Mn := by
  subst hb
  have h0 := Nat.div_add_mod U V
  rw [Nat.mul_comm] at h0
  have h2 : q ≠ U / V := by
    rintro rfl
    have := Nat.mod_lt U hV
    omega
  have h3 : q = U / V + 1 := by omega
  refine ⟨h3, ?_⟩
  rw [h3, Nat.add_mul, Nat.one_mul] at h
  omega

theorem mid_len {pre us post : List Nat} {b : Nat} (h : us.length = b) (i : Nat) (hi : i < b) : pre.length + i < (pre ++ (us ++ post)).length := by
  rw [List.length_append, List.length_append]; omega
theorem Dig.mid {B : Nat} {us : List Nat} (h : Dig B us) (i x : Nat) (hx : x < B) : Dig B (us.set i x) := h.set i x hx
theorem val_full (M : Nat) (us : List Nat) (k : Nat) (h : us.length ≤ k) : val M (us.take k) = val M us := by rw [List.take_of_length_le h]

/-- adding back: the sum with its last digit cut to size -/
theorem add_back_end {M : Nat} (hM : 2 ≤ M) (us' us : List Nat) (V c Z n R : Nat) (hl : us'.length = n + 1) (hg : gd us' n = gd us n) (h : val M (us'.take n) + M ^ n * c = val M (us.take n) + V) (hZ : val M us = Z) (hlu : us.length = n + 1) (hR : Z + V = R + M ^ (n + 1)) (hRl : R < M ^ (n + 1)) (d : Dig M us') (dz : Dig M us) :
    val M (us'.set n ((gd us' n + c) % M)) = R := by
  have h1 := val_set_take M (xs := us') (k := n) ((gd us' n + c) % M) (by omega)
  rw [List.take_of_length_le (by rw [List.length_set]; omega)] at h1
  have h2 := val_take_succ' M us n
  rw [List.take_of_length_le (by omega), hZ] at h2
  have h3 := Nat.mod_add_div (gd us' n + c) M
  have h4 := congrArg (M ^ n * ·) h3
  simp only [Nat.mul_add, ← Nat.mul_assoc] at h4
  have h5 : val M (us'.set n ((gd us' n + c) % M)) < M ^ (n + 1) := by
    have := val_lt (d.set n _ (Nat.mod_lt _ (by omega) : (gd us' n + c) % M < M))
    rwa [List.length_set, hl] at this
  rw [hg] at h1 h3 h4 h5 ⊢
  generalize val M (us'.set n ((gd us n + c) % M)) = X at *
  -- X + M^(n+1) * k = R + M^(n+1)
  have h6 : X + M ^ n * M * ((gd us n + c) / M) = R + M ^ (n + 1) := by omega
  rw [← Nat.pow_succ] at h6
  generalize (gd us n + c) / M = k at *
  generalize M ^ (n + 1) = P at *
  rcases Nat.lt_or_ge k 1 with hk | hk
  · have : k = 0 := by omega
    subst this; omega
  · rcases Nat.lt_or_ge k 2 with hk2 | hk2
    · have : k = 1 := by omega
      subst this; omega
    · have : P * 2 ≤ P * k := Nat.mul_le_mul_left _ hk2
      omega

end Go.Proofs.YtboolbcckfldaaaDoor
