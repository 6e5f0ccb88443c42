/- More on digits: what one changed digit does to the value; bytes and words; comparing from the top; borrowing. Plain mathematics. -/
import Derived.Test.YtboolbcckfldaaaDoorNum
namespace Go.Proofs.YtboolbcckfldaaaDoor
set_option linter.unusedVariables false

theorem val_set (B : Nat) (xs : List Nat) (j x : Nat) (h : j < xs.length) : val B (xs.set j x) + B ^ j * gd xs j = val B xs + B ^ j * x := by
  induction xs generalizing j with
  | nil => simp at h
  | cons y ys ih =>
    cases j with
    | zero => simp [val, gd]; omega
    | succ j =>
      have := ih j (by simpa using h)
      simp only [List.set_cons_succ, val]
      have e : gd (y :: ys) (j + 1) = gd ys j := by simp [gd]
      rw [e, Nat.pow_succ]
      have h2 := congrArg (B * ·) this
      simp only [Nat.mul_add] at h2
      have e1 : B ^ j * B * gd ys j = B * (B ^ j * gd ys j) := by rw [Nat.mul_comm (B ^ j) B, Nat.mul_assoc]
      have e2 : B ^ j * B * x = B * (B ^ j * x) := by rw [Nat.mul_comm (B ^ j) B, Nat.mul_assoc]
      rw [e1, e2]; omega

theorem gd_le_val (B : Nat) (xs : List Nat) (j : Nat) : B ^ j * gd xs j ≤ val B xs := by
  induction xs generalizing j with
  | nil => simp [gd]
  | cons y ys ih =>
    cases j with
    | zero => simp [val, gd]
    | succ j =>
      have e : gd (y :: ys) (j + 1) = gd ys j := by simp [gd]
      rw [e, Nat.pow_succ, Nat.mul_comm (B ^ j) B, Nat.mul_assoc]
      have := Nat.mul_le_mul_left B (ih j)
      simp only [val]; omega

/-- a string's bytes, the last one first -/
def rb (s : ByteArray) : List Nat := (s.data.toList.map UInt8.toNat).reverse
/-- the number with these bytes -/
def sv (s : ByteArray) : Nat := val 256 (rb s)
theorem rb_length (s : ByteArray) : (rb s).length = s.size := by
  simp only [rb, List.length_reverse, List.length_map, Array.length_toList]; rfl
theorem rb_Dig (s : ByteArray) : Dig 256 (rb s) := fun x hx => by
  simp only [rb, List.mem_reverse, List.mem_map] at hx
  obtain ⟨c, _, rfl⟩ := hx
  exact c.toNat_lt
theorem gd_rb (s : ByteArray) (k : Nat) (h : k < s.size) : gd (rb s) k = (s[s.size - 1 - k]'(by omega)).toNat := by
  rw [gd_get (by rw [rb_length]; exact h)]
  simp only [rb, List.getElem_reverse, List.getElem_map, List.length_map]
  congr 1

/-- the bytes of a word, put in one after the other -/
theorem of_digit {M : Nat} (zs L : List Nat) (j r : Nat) (hM : M = 256 ^ 4) (hv : val M zs = val 256 (L.take (4 * j + r))) (hd : Dig 256 L) : gd zs j < 256 ^ r := by
  have h1 := gd_le_val M zs j
  have h2 := val_lt (hd.take (4 * j + r))
  have h3 : val 256 (L.take (4 * j + r)) < 256 ^ (4 * j + r) := Nat.lt_of_lt_of_le h2 (Nat.pow_le_pow_right (by decide) (by rw [List.length_take]; omega))
  rw [Nat.pow_add, Nat.pow_mul, ← hM] at h3
  have h4 : M ^ j * gd zs j < M ^ j * 256 ^ r := by omega
  exact Nat.lt_of_mul_lt_mul_left h4

theorem of_step {M : Nat} (zs L : List Nat) (j r : Nat) (hM : M = 256 ^ 4) (hj : j < zs.length) (hv : val M zs = val 256 (L.take (4 * j + r))) :
    val M (zs.set j (gd zs j + gd L (4 * j + r) * 256 ^ r)) = val 256 (L.take (4 * j + r + 1)) := by
  have h1 := val_set M zs j (gd zs j + gd L (4 * j + r) * 256 ^ r) hj
  rw [val_take_succ', Nat.pow_add, Nat.pow_mul, ← hM, ← hv]
  rw [Nat.mul_add] at h1
  have e : M ^ j * (gd L (4 * j + r) * 256 ^ r) = M ^ j * 256 ^ r * gd L (4 * j + r) := by
    rw [Nat.mul_comm (gd L (4 * j + r)), Nat.mul_assoc]
  rw [e] at h1; omega

/-- two numbers of one length are compared from the top -/
theorem val_top_lt {B : Nat} {xs ys : List Nat} {k : Nat} (dx : Dig B xs) (dy : Dig B ys) (hk : k < xs.length) (hl : xs.length = ys.length) (he : val B (xs.drop (k + 1)) = val B (ys.drop (k + 1))) (h : gd xs k < gd ys k) : val B xs < val B ys := by
  rw [val_split B xs k (Nat.le_of_lt hk), val_split B ys k (by omega), val_drop B xs k hk, val_drop B ys k (by omega), he]
  have h1 := val_lt (dx.take k)
  rw [List.length_take, Nat.min_eq_left (Nat.le_of_lt hk)] at h1
  have h2 : B ^ k * (gd xs k + 1) ≤ B ^ k * gd ys k := Nat.mul_le_mul_left _ h
  simp only [Nat.mul_add] at h2 ⊢
  omega

theorem val_drop_eq {B : Nat} {xs ys : List Nat} {k : Nat} (hk : k < xs.length) (hl : xs.length = ys.length) (he : val B (xs.drop (k + 1)) = val B (ys.drop (k + 1))) (h : gd xs k = gd ys k) : val B (xs.drop k) = val B (ys.drop k) := by
  rw [val_drop B xs k hk, val_drop B ys k (by omega), he, h]

theorem digs_len_lt {B : Nat} (hB : 2 ≤ B) {x y : Nat} (h : (digs B x).length < (digs B y).length) : x < y := by
  have h1 := lt_pow_digs hB x
  have h2 := pow_le_of_digs hB h
  omega

/-- a digit of a difference -/
theorem less_arith (M P b x y s b' X Y Z : Nat) (h : Z + Y = X + P * b) (h2 : s + y + b = x + M * b') : Z + P * s + (Y + P * y) = (X + P * x) + P * M * b' := by
  have := congrArg (P * ·) h2
  simp only [Nat.mul_add, ← Nat.mul_assoc] at this
  omega
theorem less_step (M : Nat) (zs xs ys : List Nat) (k b s b' : Nat) (hk : k < zs.length) (h : val M (zs.take k) + val M (ys.take k) = val M (xs.take k) + M ^ k * b) (h2 : s + gd ys k + b = gd xs k + M * b') :
    val M ((zs.set k s).take (k + 1)) + val M (ys.take (k + 1)) = val M (xs.take (k + 1)) + M ^ (k + 1) * b' := by
  rw [val_set_take M s hk, val_take_succ', val_take_succ', Nat.pow_succ]
  exact less_arith M (M ^ k) b _ _ s b' _ _ _ h h2
theorem less_end {M : Nat} (hM : 2 ≤ M) (zs xs ys : List Nat) (b : Nat) (hl : zs.length = xs.length) (hy : ys.length ≤ xs.length) (hd : Dig M zs) (hle : val M ys ≤ val M xs) (hb : b ≤ 1) (h : val M (zs.take xs.length) + val M (ys.take xs.length) = val M (xs.take xs.length) + M ^ xs.length * b) :
    trimL zs = digs M (val M xs - val M ys) := by
  rw [List.take_of_length_le (by omega), List.take_of_length_le hy, List.take_of_length_le (Nat.le_refl _)] at h
  have h1 := val_lt hd
  rw [hl] at h1
  have hb0 : b = 0 := by
    rcases Nat.lt_or_ge 0 b with h3 | h3
    · obtain rfl : b = 1 := by omega
      omega
    · omega
  subst hb0
  have : val M zs = val M xs - val M ys := by omega
  rw [← this]; exact (digs_val hM hd).symm

/-- a digit of a quotient by one digit: from the top -/
theorem small_step (M d : Nat) (hd : 0 < d) (xs zs : List Nat) (k r : Nat) (hk : k < xs.length) (hl : zs.length = xs.length) (h : val M (xs.drop (k + 1)) = d * val M (zs.drop (k + 1)) + r) :
    val M (xs.drop k) = d * val M ((zs.set k ((r * M + gd xs k) / d)).drop k) + (r * M + gd xs k) % d := by
  rw [val_drop M xs k hk, val_drop M _ k (by simp; omega), gd_set_eq _ (by omega), List.drop_set_of_lt (by omega), h]
  have h1 := Nat.div_add_mod (r * M + gd xs k) d
  rw [Nat.mul_add, Nat.mul_add]
  have e1 : M * (d * val M (zs.drop (k + 1))) = d * (M * val M (zs.drop (k + 1))) := Nat.mul_left_comm _ _ _
  have e2 : M * r = r * M := Nat.mul_comm _ _
  omega

theorem drop_set_self_lt {xs : List Nat} {k j x : Nat} (h : k < j) : (xs.set k x).drop j = xs.drop j := List.drop_set_of_lt h

end Go.Proofs.YtboolbcckfldaaaDoor
