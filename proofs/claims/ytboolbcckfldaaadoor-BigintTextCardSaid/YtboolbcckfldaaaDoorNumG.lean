/- Square roots by Newton's steps, and numbers with one bit. -/
import Derived.Test.YtboolbcckfldaaaDoorWalkQ
namespace Go.Proofs.YtboolbcckfldaaaDoor

theorem sq_le_of {x m : Nat} : 4 * (x * m) ≤ (x + m) * (x + m) := by
  have h : ∀ a d : Nat, 4 * (a * (a + d)) ≤ (a + (a + d)) * (a + (a + d)) := fun a d => by
    have e : (a + (a + d)) * (a + (a + d)) = 4 * (a * (a + d)) + d * d := by
      simp only [Nat.mul_add, Nat.add_mul, Nat.mul_comm d a]; omega
    omega
  rcases Nat.le_total x m with h1 | h1
  · obtain ⟨d, rfl⟩ := Nat.le.dest h1; exact h x d
  · obtain ⟨d, rfl⟩ := Nat.le.dest h1
    have := h m d
    rw [Nat.mul_comm (m + d) m, Nat.add_comm (m + d) m]; exact this

theorem sqrt_step {n x : Nat} (hx : 0 < x) : n < ((x + n / x) / 2 + 1) * ((x + n / x) / 2 + 1) := by
  have h1 : n < x * (n / x + 1) := by
    have := Nat.div_add_mod n x
    have := Nat.mod_lt n hx
    rw [Nat.mul_add]; omega
  have h2 := sq_le_of (x := x) (m := n / x + 1)
  have h3 : x + (n / x + 1) ≤ 2 * ((x + n / x) / 2 + 1) := by omega
  generalize (x + n / x) / 2 + 1 = y at *
  generalize x + (n / x + 1) = s at *
  have h4 : s * s ≤ (2 * y) * (2 * y) := Nat.mul_le_mul h3 h3
  have h5 : (2 * y) * (2 * y) = 4 * (y * y) := by
    rw [Nat.mul_assoc, Nat.mul_left_comm y 2 y]; omega
  omega

theorem sqrt_end {n x : Nat} (h : x ≤ (x + n / x) / 2) : x * x ≤ n := by
  have h1 : x ≤ n / x := by omega
  have := Nat.mul_le_mul_left x h1
  have := Nat.div_mul_le_self n x
  rw [Nat.mul_comm] at this
  omega

theorem sqrt_uniq {n a b : Nat} (ha : a * a ≤ n) (ha' : n < (a + 1) * (a + 1)) (hb : b * b ≤ n) (hb' : n < (b + 1) * (b + 1)) : a = b := by
  have h : ∀ a b : Nat, a * a ≤ n → n < (b + 1) * (b + 1) → a ≤ b := fun a b h1 h2 => by
    apply Nat.le_of_not_lt
    intro hlt
    have := Nat.mul_le_mul (show b + 1 ≤ a from hlt) (show b + 1 ≤ a from hlt)
    omega
  exact Nat.le_antisymm (h a b ha hb') (h b a hb ha')

theorem set_top (m d : Nat) : (List.replicate (m + 1) 0).set m d = List.replicate m 0 ++ [d] := by
  rw [List.replicate_succ', List.set_append_right _ _ (by simp)]
  simp
theorem trimL_set_top (m d : Nat) (hd : d ≠ 0) : trimL ((List.replicate (m + 1) 0).set m d) = (List.replicate (m + 1) 0).set m d := by
  rw [set_top, trimL_snoc_pos _ _ hd]
theorem val_set_top (M m d : Nat) : val M ((List.replicate (m + 1) 0).set m d) = M ^ m * d := by
  rw [set_top, val_append, val_replicate, List.length_replicate]
  simp [val]
/-- the digits of a power of 2 -/
theorem digs_pow2 (k : Nat) : (List.replicate (k / 32 + 1) 0).set (k / 32) (2 ^ (k % 32)) = digs 4294967296 (2 ^ k) := by
  have hlt : 2 ^ (k % 32) < 4294967296 := by
    have : (2 : Nat) ^ (k % 32) < 2 ^ 32 := Nat.pow_lt_pow_right (by decide) (Nat.mod_lt _ (by decide))
    exact this
  have hd : Dig 4294967296 ((List.replicate (k / 32 + 1) 0).set (k / 32) (2 ^ (k % 32))) := (Dig.replicate (by decide) _).set _ _ hlt
  have h := digs_val (B := 4294967296) (by decide) hd
  rw [trimL_set_top _ _ (Nat.pos_iff_ne_zero.1 (Nat.pow_pos (by decide))), val_set_top] at h
  rw [← h]
  congr 1
  rw [show (4294967296 : Nat) = 2 ^ 32 from rfl, ← Nat.pow_mul, ← Nat.pow_add]
  congr 1; omega
theorem nbits_lt (n : Nat) : n < 2 ^ (2 * ((nbits n + 1) / 2)) := by
  have h : n < 2 ^ nbits n := by
    unfold nbits
    split
    · omega
    · exact Nat.lt_log2_self
  exact Nat.lt_of_lt_of_le h (Nat.pow_le_pow_right (by decide) (by omega))
end Go.Proofs.YtboolbcckfldaaaDoor
