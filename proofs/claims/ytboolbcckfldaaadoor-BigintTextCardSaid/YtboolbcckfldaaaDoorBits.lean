/- Machine arithmetic with carries: Add32, Sub32, Mul32 and Div32 of math/bits return sums, differences, products and quotients of 32-bit words. -/
import Derived.Test.YtboolbcckfldaaaDoorMem
import Derived.Deep.QuietTactic
import Derived.BigQuiet
namespace Go.Proofs.YtboolbcckfldaaaDoor
open Go.RowKit

theorem ret_tup2 {k j : IntKind} {a b c d : Int} (h : a = b) (h' : c = d) : Ending.returned (.tuple #[.int k a, .int j c]) = .returned (.tuple #[.int k b, .int j d]) := by rw [h, h']

theorem top_bit (n : Nat) (h : n < 4294967296) : n / 2147483648 = if n.testBit 31 then 1 else 0 := by
  rw [Nat.testBit_eq_decide_div_mod_eq]
  have : n / 2 ^ 31 % 2 = n / 2147483648 := by
    rw [show (2 ^ 31 : Nat) = 2147483648 from rfl]; omega
  rw [this]
  by_cases h1 : n / 2147483648 = 1
  · simp [h1]
  · simp [h1]; omega
theorem top_bit' (n : Nat) (h : n < 4294967296) : n.testBit 31 = decide (2147483648 ≤ n) := by
  have := top_bit n h
  by_cases h1 : 2147483648 ≤ n
  · by_cases h2 : n.testBit 31 = true
    · simp [h1, h2]
    · simp [h2] at this; omega
  · by_cases h2 : n.testBit 31 = true
    · simp [h2] at this; omega
    · simp [h1]; simpa using h2

theorem borrow_nat (x y c d : Nat) (hx : x < 4294967296) (hy : y < 4294967296) (hc : c ≤ 1) (hd : (d : Int) = ((x : Int) - y - c) % 4294967296) :
    ((((((4294967295 ^^^ x) &&& y) ||| ((4294967295 ^^^ (x ^^^ y)) &&& d)) / 2147483648 : Nat)) : Int) = -(((x : Int) - y - c) / 4294967296) := by
  have hd' : d < 4294967296 := by omega
  have hlt : (((4294967295 ^^^ x) &&& y) ||| ((4294967295 ^^^ (x ^^^ y)) &&& d)) < 4294967296 := by
    apply Nat.or_lt_two_pow (n := 32)
    · exact Nat.lt_of_le_of_lt Nat.and_le_right (by omega)
    · exact Nat.lt_of_le_of_lt Nat.and_le_right (by omega)
  rw [top_bit _ hlt]
  simp only [Nat.testBit_or, Nat.testBit_and, Nat.testBit_xor, top_bit' x hx, top_bit' y hy, top_bit' d hd', show (4294967295 : Nat).testBit 31 = true from by decide]
  by_cases h1 : 2147483648 ≤ x <;> by_cases h2 : 2147483648 ≤ y <;> by_cases h3 : 2147483648 ≤ d <;> simp [h1, h2, h3] <;> omega

theorem borrow_int (x y c : Int) (hx : 0 ≤ x) (hx' : x < 4294967296) (hy : 0 ≤ y) (hy' : y < 4294967296) (hc : 0 ≤ c) (hc' : c ≤ 1) :
    bits BinOp.or IntKind.u32 (bits BinOp.and IntKind.u32 (bits BinOp.xor IntKind.u32 IntKind.u32.max x) y) (bits BinOp.and IntKind.u32 (bits BinOp.xor IntKind.u32 IntKind.u32.max (bits BinOp.xor IntKind.u32 x y)) ((x - y - c) % 4294967296)) / 2147483648 = -((x - y - c) / 4294967296) := by
  obtain ⟨X, rfl⟩ := Int.eq_ofNat_of_zero_le hx
  obtain ⟨Y, rfl⟩ := Int.eq_ofNat_of_zero_le hy
  obtain ⟨C, rfl⟩ := Int.eq_ofNat_of_zero_le hc
  obtain ⟨D, hD⟩ : ∃ D : Nat, (D : Int) = ((X : Int) - Y - C) % 4294967296 := ⟨(((X : Int) - Y - C) % 4294967296).toNat, by omega⟩
  rw [← hD, show IntKind.u32.max = ((4294967295 : Nat) : Int) from rfl]
  have l1 : X ^^^ Y < 4294967296 := Nat.xor_lt_two_pow (n := 32) (by omega) (by omega)
  have l2 : 4294967295 ^^^ X < 4294967296 := Nat.xor_lt_two_pow (n := 32) (by omega) (by omega)
  have l3 : 4294967295 ^^^ (X ^^^ Y) < 4294967296 := Nat.xor_lt_two_pow (n := 32) (by omega) (by omega)
  have l4 : (4294967295 ^^^ X) &&& Y < 4294967296 := Nat.lt_of_le_of_lt Nat.and_le_right (by omega)
  have l5 : (4294967295 ^^^ (X ^^^ Y)) &&& D < 4294967296 := Nat.lt_of_le_of_lt Nat.and_le_right (by omega)
  rw [u32_xor_nat X Y (by omega) (by omega), u32_xor_nat _ X (by omega) (by omega), u32_xor_nat _ (X ^^^ Y) (by omega) l1, u32_and_nat _ Y l2 (by omega), u32_and_nat _ D l3 (by omega), u32_or_nat _ _ l4 l5]
  rw [← borrow_nat X Y C D (by omega) (by omega) (by omega) hD]
  exact (Int.natCast_ediv _ _).symm

set_option maxHeartbeats 400000 in
theorem add32_any (x y c : Int) (w : World) (hx : 0 ≤ x) (hx' : x < 4294967296) (hy : 0 ≤ y) (hy' : y < 4294967296) (hc : 0 ≤ c) (hc' : c ≤ 1) :
    Calls Tryd.prog 64 #[.int .u32 x, .int .u32 y, .int .u32 c] w fun e w' => e = .returned (.tuple #[.int .u32 ((x + y + c) % 4294967296), .int .u32 ((x + y + c) / 4294967296)]) ∧ w = w' := by
  go_enter Tryd.func64, Tryd.ntmps64
  go_wp2
  go_ret2
  exact ⟨rfl, rfl⟩

theorem mul_lt32 {x y : Int} (hx : 0 ≤ x) (hx' : x < 4294967296) (hy : 0 ≤ y) (hy' : y < 4294967296) : 0 ≤ x * y ∧ x * y ≤ 18446744065119617025 := by
  refine ⟨Int.mul_nonneg hx hy, ?_⟩
  have := Int.mul_le_mul (show x ≤ 4294967295 by omega) (show y ≤ 4294967295 by omega) hy (by omega)
  omega

set_option maxHeartbeats 400000 in
theorem mul32_any (x y : Int) (w : World) (hx : 0 ≤ x) (hx' : x < 4294967296) (hy : 0 ≤ y) (hy' : y < 4294967296) :
    Calls Tryd.prog 82 #[.int .u32 x, .int .u32 y] w fun e w' => e = .returned (.tuple #[.int .u32 ((x * y) / 4294967296), .int .u32 ((x * y) % 4294967296)]) ∧ w = w' := by
  have hm := mul_lt32 hx hx' hy hy'
  obtain ⟨hm1, hm2⟩ := hm
  go_enter Tryd.func82, Tryd.ntmps82
  go_wp2
  go_ret2
  exact ⟨ret_tup2 (by omega) (by omega), rfl⟩

set_option maxHeartbeats 400000 in
theorem sub32_any (x y c : Int) (w : World) (hx : 0 ≤ x) (hx' : x < 4294967296) (hy : 0 ≤ y) (hy' : y < 4294967296) (hc : 0 ≤ c) (hc' : c ≤ 1) :
    Calls Tryd.prog 65 #[.int .u32 x, .int .u32 y, .int .u32 c] w fun e w' => e = .returned (.tuple #[.int .u32 ((x - y - c) % 4294967296), .int .u32 (-((x - y - c) / 4294967296))]) ∧ w = w' := by
  go_enter Tryd.func65, Tryd.ntmps65
  go_wp2_with (fail)
  · go_ret2
    exact ⟨ret_tup2 rfl (borrow_int x y c hx hx' hy hy' hc hc'), rfl⟩
  all_goals (exfalso; revert h; decide)

theorem sub32_no (x y c : Int) (w : World) (hx : 0 ≤ x) (hx' : x < 4294967296) (hy : 0 ≤ y) (hy' : y < 4294967296) (hc : 0 ≤ c) (hc' : c ≤ 1) (h : y + c ≤ x) :
    Calls Tryd.prog 65 #[.int .u32 x, .int .u32 y, .int .u32 c] w fun e w' => e = .returned (.tuple #[.int .u32 (x - y - c), .int .u32 0]) ∧ w = w' := by
  have := sub32_any x y c w hx hx' hy hy' hc hc'
  rw [show (x - y - c) % 4294967296 = x - y - c from by omega, show -((x - y - c) / 4294967296) = 0 from by omega] at this
  exact this
theorem sub32_yes (x y c : Int) (w : World) (hx : 0 ≤ x) (hx' : x < 4294967296) (hy : 0 ≤ y) (hy' : y < 4294967296) (hc : 0 ≤ c) (hc' : c ≤ 1) (h : x < y + c) :
    Calls Tryd.prog 65 #[.int .u32 x, .int .u32 y, .int .u32 c] w fun e w' => e = .returned (.tuple #[.int .u32 (x - y - c + 4294967296), .int .u32 1]) ∧ w = w' := by
  have := sub32_any x y c w hx hx' hy hy' hc hc'
  rw [show (x - y - c) % 4294967296 = x - y - c + 4294967296 from by omega, show -((x - y - c) / 4294967296) = 1 from by omega] at this
  exact this

theorem or_hi (x y : Int) (hx : 0 ≤ x) (hx' : x < 4294967296) (hy : 0 ≤ y) (hy' : y < 4294967296) : bits BinOp.or IntKind.u64 (x * 4294967296) y = x * 4294967296 + y := by
  obtain ⟨X, rfl⟩ := Int.eq_ofNat_of_zero_le hx
  obtain ⟨Y, rfl⟩ := Int.eq_ofNat_of_zero_le hy
  have e1 : ((X : Int) * 4294967296) = ((X * 4294967296 : Nat) : Int) := by omega
  have e2 : X * 4294967296 ||| Y = X * 4294967296 + Y := by
    have := Nat.shiftLeft_add_eq_or_of_lt (i := 32) (b := Y) (by omega) X
    rw [Nat.shiftLeft_eq] at this; exact this.symm
  rw [e1, u64_or_nat _ _ (by omega) (by omega), e2]; omega

set_option maxHeartbeats 400000 in
theorem div32_any (x y c : Int) (w : World) (hx : 0 ≤ x) (hx' : x < 4294967296) (hy : 0 ≤ y) (hy' : y < 4294967296) (hc : x < c) (hc' : c < 4294967296) :
    Calls Tryd.prog 70 #[.int .u32 x, .int .u32 y, .int .u32 c] w fun e w' => e = .returned (.tuple #[.int .u32 ((x * 4294967296 + y) / c), .int .u32 ((x * 4294967296 + y) % c)]) ∧ ∃ n, w' = w.drewN n := by
  have h0 : (c != 0) = true := by rw [bne_iff_ne]; omega
  have h1 : decide (c ≤ x) = false := by simp; omega
  have ho := or_hi x y hx hx' hy hy'
  have hq0 : 0 ≤ (x * 4294967296 + y) / c := Int.ediv_nonneg (by omega) (by omega)
  have hq1 : (x * 4294967296 + y) / c < 4294967296 := by
    apply Int.ediv_lt_of_lt_mul (by omega)
    have : (x + 1) * 4294967296 ≤ c * 4294967296 := Int.mul_le_mul_of_nonneg_right (by omega) (by omega)
    rw [Int.mul_comm 4294967296 c]
    omega
  have hr0 := Int.emod_nonneg (x * 4294967296 + y) (show c ≠ 0 by omega)
  have hr1 := Int.emod_lt_of_pos (x * 4294967296 + y) (show 0 < c by omega)
  go_enter Tryd.func70, Tryd.ntmps70
  go_wp2
  go_quiet (fail)
  go_wp2
  go_ret2
  exact ⟨ret_tup2 (by omega) (by omega), ⟨_, rfl⟩⟩
end Go.Proofs.YtboolbcckfldaaaDoor
