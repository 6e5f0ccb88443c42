/- Decimal numerals in pieces of nine digits. -/
import Derived.Lib.ItoaMem
import Derived.Lib.Repeat
namespace Go.Proofs.YtboolbcckfldaaaDoor
open Go.Lib

/-- the last k decimal digits -/
def padL : Nat → Nat → List UInt8
  | 0, _ => []
  | k + 1, n => padL k (n / 10) ++ [UInt8.ofNat (48 + n % 10)]

theorem dec_big {n : Nat} (h : 10 ≤ n) : decDigits n = decDigits (n / 10) ++ [UInt8.ofNat (48 + n % 10)] := by
  rw [decDigits, dif_neg (by omega)]

theorem dec_pad : ∀ (k n : Nat), 10 ^ k ≤ n → decDigits n = decDigits (n / 10 ^ k) ++ padL k n
  | 0, n, _ => by simp [padL]
  | k + 1, n, h => by
    have hp : 1 ≤ 10 ^ k := Nat.one_le_pow _ _ (by decide)
    rw [Nat.pow_succ] at h
    rw [dec_big (by omega), dec_pad k (n / 10) (by omega), padL, Nat.div_div_eq_div_mul, Nat.pow_succ, Nat.mul_comm 10, List.append_assoc]

theorem padL_zero : ∀ k, padL k 0 = List.replicate k 48
  | 0 => rfl
  | k + 1 => by
    rw [padL, Nat.zero_div, padL_zero k, List.replicate_succ']
    rfl

theorem padL_small : ∀ (k r : Nat), r < 10 ^ (k + 1) → padL (k + 1) r = List.replicate (k + 1 - (decDigits r).length) 48 ++ decDigits r ∧ (decDigits r).length ≤ k + 1
  | 0, r, h => by
    have h' : r < 10 := by simpa using h
    rw [decDigits_one h', padL, padL, Nat.mod_eq_of_lt h']
    simp
  | k + 1, r, h => by
    by_cases h' : r < 10
    · rw [decDigits_one h', padL, Nat.div_eq_of_lt h', padL_zero, Nat.mod_eq_of_lt h']
      simp
    · have hlt : r / 10 < 10 ^ (k + 1) := by rw [Nat.pow_succ] at h; omega
      obtain ⟨h1, h2⟩ := padL_small k (r / 10) hlt
      rw [padL, h1, dec_big (by omega : 10 ≤ r), List.length_append, List.length_singleton, List.append_assoc]
      exact ⟨by rw [show k + 1 + 1 - ((decDigits (r / 10)).length + 1) = k + 1 - (decDigits (r / 10)).length by omega], by omega⟩

theorem padL_mod : ∀ (k n : Nat), padL k (n % 10 ^ k) = padL k n
  | 0, _ => rfl
  | k + 1, n => by
    rw [padL, padL]
    have h1 : n % 10 ^ (k + 1) / 10 = n / 10 % 10 ^ k := by
      rw [Nat.pow_succ, Nat.mul_comm, Nat.mod_mul_right_div_self]
    have h2 : n % 10 ^ (k + 1) % 10 = n % 10 := by
      rw [Nat.pow_succ]; exact Nat.mod_mul_left_mod _ _ _
    rw [h1, h2, padL_mod k (n / 10)]

theorem repeat_zero48 : ∀ c, repeatL [48] c = List.replicate c 48
  | 0 => rfl
  | c + 1 => by rw [repeatL, repeat_zero48 c]; rfl

/-- one step of Print -/
theorem dec_chunk {n : Nat} (h : 1000000000 ≤ n) : decDigits n = decDigits (n / 1000000000) ++ (List.replicate (9 - (decDigits (n % 1000000000)).length) 48 ++ decDigits (n % 1000000000)) ∧ (decDigits (n % 1000000000)).length ≤ 9 := by
  have h1 := dec_pad 9 n h
  have h2 := padL_small 8 (n % 1000000000) (Nat.mod_lt _ (by decide))
  have h3 := padL_mod 9 n
  rw [show (10 : Nat) ^ 9 = 1000000000 from rfl] at h1 h3
  rw [h1, ← h3, h2.1]
  exact ⟨rfl, h2.2⟩
theorem nDigits_le : ∀ (k u : Nat), u < 10 ^ (k + 1) → nDigits u ≤ k + 1
  | 0, u, h => by rw [nDigits_small (by simpa using h)]; omega
  | k + 1, u, h => by
    by_cases h' : u < 10
    · rw [nDigits_small h']; omega
    · rw [nDigits_big h']
      have := nDigits_le k (u / 10) (by rw [Nat.pow_succ] at h; omega)
      omega
theorem dec_len {k u : Nat} (hk : 1 ≤ k) (h : u < 256 ^ k) : (decDigits u).length ≤ 3 * k := by
  rw [decDigits_length]
  have h1 : (256 : Nat) ^ k ≤ (10 ^ 3) ^ k := Nat.pow_le_pow_left (by decide) k
  rw [← Nat.pow_mul] at h1
  have h2 := nDigits_le (3 * k - 1) u (by rw [show 3 * k - 1 + 1 = 3 * k by omega]; omega)
  omega
end Go.Proofs.YtboolbcckfldaaaDoor
