import Derived.Test.YtboolbcckfldaaaDoorWalkV
import Derived.Test.YtboolbcckfldaaaDoorNum
import Derived.Test.YtboolbcckfldaaaDoorOb
namespace Go.Proofs.YtboolbcckfldaaaDoor
open Go.RowKit
set_option linter.unusedVariables false
set_option linter.unusedSimpArgs false

def RetNB (n : Int) (b : Bool) (w : World) (e : Ending) (w' : World) : Prop := e = .returned (.tuple #[.int .i64 n, .bool b]) ∧ Below w.heap.size w w'

theorem ret_nb {a b : Int} {c : Bool} (h : a = b) : Ending.returned (.tuple #[.int .i64 a, .bool c]) = .returned (.tuple #[.int .i64 b, .bool c]) := by rw [h]
theorem or_byte64 (a c : Nat) (ha : a < 72057594037927936) (hc : c < 256) : bits BinOp.or IntKind.u64 ((a : Int) * 256) (c : Int) = ((a * 256 + c : Nat) : Int) := by
  have h1 : a * 256 < 18446744073709551616 := by omega
  have h2 := u64_or_nat (a * 256) c h1 (by omega)
  have h3 := Nat.shiftLeft_add_eq_or_of_lt (a := a) (b := c) (i := 8) (by omega)
  rw [Nat.shiftLeft_eq] at h3
  rw [show ((a : Int) * 256) = ((a * 256 : Nat) : Int) from by omega, h2, ← h3]

/-- what Int64 gives for a valid integer -/
def fits64 (z : Int) : Bool := decide (-9223372036854775808 ≤ z ∧ z < 9223372036854775808)
set_option maxHeartbeats 1000000 in
set_option maxRecDepth 100000 in
theorem Int64_bad (n : Bool) (s : ByteArray) (w : World) (h : vld n s = false) : Calls Tryd.prog 23 #[.agg #[.bool n, .string s]] w (RetNB 0 false w) := by
  have h0 := Box1.new w 23 (.bool n) (.string s)
  go_enter Tryd.func23, Tryd.ntmps23
  go_wp2_with fail
  obtain ⟨W0, hW0⟩ : ∃ W0, W0 = (w.alloc (.cells #[.bool n, .string s] 23)) := ⟨_, rfl⟩
  rw [← hW0] at h0 ⊢
  clear hW0
  refine (Valid_no n s W0 h).mono ?_
  rintro e W1 ⟨rfl, hb⟩
  have h1 := h0.below hb
  go_wp2_with fail
  go_ret2
  exact ⟨rfl, h1.b⟩

set_option maxHeartbeats 1000000 in
set_option maxRecDepth 100000 in
theorem Int64_long (n : Bool) (s : ByteArray) (w : World) (h : vld n s = true) (hl : 8 < s.size) : Calls Tryd.prog 23 #[.agg #[.bool n, .string s]] w (RetNB 0 false w) := by
  have h0 := Box1.new w 23 (.bool n) (.string s)
  have hl' : (8 : Int) < s.size := by omega
  go_enter Tryd.func23, Tryd.ntmps23
  go_wp2_with fail
  obtain ⟨W0, hW0⟩ : ∃ W0, W0 = (w.alloc (.cells #[.bool n, .string s] 23)) := ⟨_, rfl⟩
  rw [← hW0] at h0 ⊢
  clear hW0
  refine (Valid_ok n s W0 h).mono ?_
  rintro e W1 ⟨rfl, hb⟩
  have h1 := h0.below hb
  obtain ⟨x0, x1⟩ := h1.x.cells
  go_wp2_with fail
  go_ret2
  exact ⟨rfl, h1.b⟩

set_option maxHeartbeats 2000000 in
set_option maxRecDepth 100000 in
theorem Int64_neg (s : ByteArray) (w : World) (h : vld true s = true) (hl : s.size ≤ 8) (hm : sv s ≤ 9223372036854775808) : Calls Tryd.prog 23 #[.agg #[.bool true, .string s]] w (RetNB (-(sv s : Int)) true w) := by
  have h0 := Box1.new w 23 (.bool true) (.string s)
  have hl' : ¬ (8 : Int) < s.size := by omega
  have HM := Lib.hid hm
  clear hm
  go_enter Tryd.func23, Tryd.ntmps23
  go_wp2_with fail
  obtain ⟨W0, hW0⟩ : ∃ W0, W0 = (w.alloc (.cells #[.bool true, .string s] 23)) := ⟨_, rfl⟩
  rw [← hW0] at h0 ⊢
  clear hW0
  refine (Valid_ok true s W0 h).mono ?_
  rintro e W1 ⟨rfl, hb⟩
  have h1 := h0.below hb
  clear hb h0 h
  obtain ⟨x0, x1⟩ := h1.x.cells
  go_wp2_with fail
  go_loop [4, 18] (fun v4 v18 => ∃ k : Nat, k ≤ s.size ∧ v18 = .int .i64 k ∧ v4 = .int .u64 ((be (s.data.toList.take k) : Nat) : Int)) (fun _ v18 => s.size - (intOf v18).toNat)
  case atStart => exact ⟨0, Nat.zero_le _, rfl, rfl⟩
  case round =>
    obtain ⟨k, hk, rfl, rfl⟩ := hrel
    rcases Nat.lt_or_ge k s.size with hks | hks
    · have e1 := be_take s k hks
      have e2 := be_take_lt s k
      have e3 := pow256_7 (k := k) (by omega)
      have e4 := s[k].toNat_lt
      generalize be (s.data.toList.take k) = V at *
      have e5 : V < 72057594037927936 := by omega
      have E1 := Lib.hid e1
      clear e1 e2 e3
      have ho := or_byte64 V s[k].toNat e5 e4
      have e6 : IntKind.u64.wrap ((V : Int) * 256) = (V : Int) * 256 := by rw [u64_wrap]; omega
      go_wp2_with fail
      go_round
      case rel => exact ⟨k + 1, by omega, by go_num, by rw [E1.out]; exact congrArg (Value.int .u64) (by omega)⟩
      case measure => simp [intOf]; omega
    · have e1 := be_take_all s k hks
      rw [e1]
      have hm := HM.out
      have hm' : sv s < 18446744073709551616 := by
        rw [← e1]
        have := be_take_lt s k
        have hk8 : 256 ^ k ≤ 256 ^ 8 := Nat.pow_le_pow_right (by decide) (by omega)
        omega
      clear e1
      generalize sv s = m at *
      have hmI : 0 ≤ (m : Int) ∧ (m : Int) ≤ 9223372036854775808 := by omega
      clear hm hm'
      go_wp2_with fail
      go_ret2
      exact ⟨ret_nb (by rw [u64_wrap]; unfold wrap64; omega), h1.b⟩
set_option maxHeartbeats 2000000 in
set_option maxRecDepth 100000 in
theorem Int64_pos (s : ByteArray) (w : World) (h : vld false s = true) (hl : s.size ≤ 8) (hm : sv s < 9223372036854775808) : Calls Tryd.prog 23 #[.agg #[.bool false, .string s]] w (RetNB ((sv s : Int)) true w) := by
  have h0 := Box1.new w 23 (.bool false) (.string s)
  have hl' : ¬ (8 : Int) < s.size := by omega
  have HM := Lib.hid hm
  clear hm
  go_enter Tryd.func23, Tryd.ntmps23
  go_wp2_with fail
  obtain ⟨W0, hW0⟩ : ∃ W0, W0 = (w.alloc (.cells #[.bool false, .string s] 23)) := ⟨_, rfl⟩
  rw [← hW0] at h0 ⊢
  clear hW0
  refine (Valid_ok false s W0 h).mono ?_
  rintro e W1 ⟨rfl, hb⟩
  have h1 := h0.below hb
  clear hb h0 h
  obtain ⟨x0, x1⟩ := h1.x.cells
  go_wp2_with fail
  go_loop [4, 18] (fun v4 v18 => ∃ k : Nat, k ≤ s.size ∧ v18 = .int .i64 k ∧ v4 = .int .u64 ((be (s.data.toList.take k) : Nat) : Int)) (fun _ v18 => s.size - (intOf v18).toNat)
  case atStart => exact ⟨0, Nat.zero_le _, rfl, rfl⟩
  case round =>
    obtain ⟨k, hk, rfl, rfl⟩ := hrel
    rcases Nat.lt_or_ge k s.size with hks | hks
    · have e1 := be_take s k hks
      have e2 := be_take_lt s k
      have e3 := pow256_7 (k := k) (by omega)
      have e4 := s[k].toNat_lt
      generalize be (s.data.toList.take k) = V at *
      have e5 : V < 72057594037927936 := by omega
      have E1 := Lib.hid e1
      clear e1 e2 e3
      have ho := or_byte64 V s[k].toNat e5 e4
      have e6 : IntKind.u64.wrap ((V : Int) * 256) = (V : Int) * 256 := by rw [u64_wrap]; omega
      go_wp2_with fail
      go_round
      case rel => exact ⟨k + 1, by omega, by go_num, by rw [E1.out]; exact congrArg (Value.int .u64) (by omega)⟩
      case measure => simp [intOf]; omega
    · have e1 := be_take_all s k hks
      rw [e1]
      have hm := HM.out
      have hm' : sv s < 18446744073709551616 := by
        rw [← e1]
        have := be_take_lt s k
        have hk8 : 256 ^ k ≤ 256 ^ 8 := Nat.pow_le_pow_right (by decide) (by omega)
        omega
      clear e1
      generalize sv s = m at *
      have hmI : 0 ≤ (m : Int) ∧ (m : Int) < 9223372036854775808 := by omega
      clear hm hm'
      go_wp2_with fail
      go_ret2
      exact ⟨ret_nb (by first | rfl | (unfold wrap64; omega)), h1.b⟩
set_option maxHeartbeats 2000000 in
set_option maxRecDepth 100000 in
theorem Int64_bigneg (s : ByteArray) (w : World) (h : vld true s = true) (hl : s.size ≤ 8) (hm : 9223372036854775808 < sv s) : Calls Tryd.prog 23 #[.agg #[.bool true, .string s]] w (RetNB (0) false w) := by
  have h0 := Box1.new w 23 (.bool true) (.string s)
  have hl' : ¬ (8 : Int) < s.size := by omega
  have HM := Lib.hid hm
  clear hm
  go_enter Tryd.func23, Tryd.ntmps23
  go_wp2_with fail
  obtain ⟨W0, hW0⟩ : ∃ W0, W0 = (w.alloc (.cells #[.bool true, .string s] 23)) := ⟨_, rfl⟩
  rw [← hW0] at h0 ⊢
  clear hW0
  refine (Valid_ok true s W0 h).mono ?_
  rintro e W1 ⟨rfl, hb⟩
  have h1 := h0.below hb
  clear hb h0 h
  obtain ⟨x0, x1⟩ := h1.x.cells
  go_wp2_with fail
  go_loop [4, 18] (fun v4 v18 => ∃ k : Nat, k ≤ s.size ∧ v18 = .int .i64 k ∧ v4 = .int .u64 ((be (s.data.toList.take k) : Nat) : Int)) (fun _ v18 => s.size - (intOf v18).toNat)
  case atStart => exact ⟨0, Nat.zero_le _, rfl, rfl⟩
  case round =>
    obtain ⟨k, hk, rfl, rfl⟩ := hrel
    rcases Nat.lt_or_ge k s.size with hks | hks
    · have e1 := be_take s k hks
      have e2 := be_take_lt s k
      have e3 := pow256_7 (k := k) (by omega)
      have e4 := s[k].toNat_lt
      generalize be (s.data.toList.take k) = V at *
      have e5 : V < 72057594037927936 := by omega
      have E1 := Lib.hid e1
      clear e1 e2 e3
      have ho := or_byte64 V s[k].toNat e5 e4
      have e6 : IntKind.u64.wrap ((V : Int) * 256) = (V : Int) * 256 := by rw [u64_wrap]; omega
      go_wp2_with fail
      go_round
      case rel => exact ⟨k + 1, by omega, by go_num, by rw [E1.out]; exact congrArg (Value.int .u64) (by omega)⟩
      case measure => simp [intOf]; omega
    · have e1 := be_take_all s k hks
      rw [e1]
      have hm := HM.out
      have hm' : sv s < 18446744073709551616 := by
        rw [← e1]
        have := be_take_lt s k
        have hk8 : 256 ^ k ≤ 256 ^ 8 := Nat.pow_le_pow_right (by decide) (by omega)
        omega
      clear e1
      generalize sv s = m at *
      have hmI : ¬ (m : Int) ≤ 9223372036854775808 := by omega
      clear hm hm'
      go_wp2_with fail
      go_ret2
      exact ⟨ret_nb (by rfl), h1.b⟩
set_option maxHeartbeats 2000000 in
set_option maxRecDepth 100000 in
theorem Int64_bigpos (s : ByteArray) (w : World) (h : vld false s = true) (hl : s.size ≤ 8) (hm : 9223372036854775808 ≤ sv s) : Calls Tryd.prog 23 #[.agg #[.bool false, .string s]] w (RetNB (0) false w) := by
  have h0 := Box1.new w 23 (.bool false) (.string s)
  have hl' : ¬ (8 : Int) < s.size := by omega
  have HM := Lib.hid hm
  clear hm
  go_enter Tryd.func23, Tryd.ntmps23
  go_wp2_with fail
  obtain ⟨W0, hW0⟩ : ∃ W0, W0 = (w.alloc (.cells #[.bool false, .string s] 23)) := ⟨_, rfl⟩
  rw [← hW0] at h0 ⊢
  clear hW0
  refine (Valid_ok false s W0 h).mono ?_
  rintro e W1 ⟨rfl, hb⟩
  have h1 := h0.below hb
  clear hb h0 h
  obtain ⟨x0, x1⟩ := h1.x.cells
  go_wp2_with fail
  go_loop [4, 18] (fun v4 v18 => ∃ k : Nat, k ≤ s.size ∧ v18 = .int .i64 k ∧ v4 = .int .u64 ((be (s.data.toList.take k) : Nat) : Int)) (fun _ v18 => s.size - (intOf v18).toNat)
  case atStart => exact ⟨0, Nat.zero_le _, rfl, rfl⟩
  case round =>
    obtain ⟨k, hk, rfl, rfl⟩ := hrel
    rcases Nat.lt_or_ge k s.size with hks | hks
    · have e1 := be_take s k hks
      have e2 := be_take_lt s k
      have e3 := pow256_7 (k := k) (by omega)
      have e4 := s[k].toNat_lt
      generalize be (s.data.toList.take k) = V at *
      have e5 : V < 72057594037927936 := by omega
      have E1 := Lib.hid e1
      clear e1 e2 e3
      have ho := or_byte64 V s[k].toNat e5 e4
      have e6 : IntKind.u64.wrap ((V : Int) * 256) = (V : Int) * 256 := by rw [u64_wrap]; omega
      go_wp2_with fail
      go_round
      case rel => exact ⟨k + 1, by omega, by go_num, by rw [E1.out]; exact congrArg (Value.int .u64) (by omega)⟩
      case measure => simp [intOf]; omega
    · have e1 := be_take_all s k hks
      rw [e1]
      have hm := HM.out
      have hm' : sv s < 18446744073709551616 := by
        rw [← e1]
        have := be_take_lt s k
        have hk8 : 256 ^ k ≤ 256 ^ 8 := Nat.pow_le_pow_right (by decide) (by omega)
        omega
      clear e1
      generalize sv s = m at *
      have hmI : ¬ (m : Int) < 9223372036854775808 := by omega
      clear hm hm'
      generalize (m : Int) = M at *
      go_wp2_with fail
      go_ret2
      exact ⟨ret_nb (by rfl), h1.b⟩

theorem Int64_any (z : Int) (w : World) : Calls Tryd.prog 23 #[vI z] w (RetNB (if fits64 z then z else 0) (fits64 z) w) := by
  have hv := vld_sg z
  have hz := sv_mg z
  rcases Nat.lt_or_ge 8 (mg z).size with h8 | h8
  · have : fits64 z = false := by
      unfold fits64
      rw [decide_eq_false_iff_not]
      intro h
      have hb : Bd 8 z := by unfold Bd; omega
      have := hb.size
      omega
    rw [this]
    exact Int64_long _ _ w hv h8
  · by_cases hn : z < 0
    · have e : sg z = true := by unfold sg; simpa using hn
      rw [e] at hv
      simp only [vI, e]
      by_cases hf : z.natAbs ≤ 9223372036854775808
      · have : fits64 z = true := by unfold fits64; rw [decide_eq_true_iff]; omega
        rw [this]
        have h := Int64_neg (mg z) w hv h8 (by omega)
        rw [hz] at h
        rwa [show -((z.natAbs : Nat) : Int) = z from by omega] at h
      · have : fits64 z = false := by unfold fits64; rw [decide_eq_false_iff_not]; omega
        rw [this]
        exact Int64_bigneg (mg z) w hv h8 (by omega)
    · have e : sg z = false := by unfold sg; simpa using hn
      rw [e] at hv
      simp only [vI, e]
      by_cases hf : z.natAbs < 9223372036854775808
      · have : fits64 z = true := by unfold fits64; rw [decide_eq_true_iff]; omega
        rw [this]
        have h := Int64_pos (mg z) w hv h8 (by omega)
        rw [hz] at h
        rwa [show ((z.natAbs : Nat) : Int) = z from by omega] at h
      · have : fits64 z = false := by unfold fits64; rw [decide_eq_false_iff_not]; omega
        rw [this]
        exact Int64_bigpos (mg z) w hv h8 (by omega)
end Go.Proofs.YtboolbcckfldaaaDoor
