import Derived.Test.YtboolbcckfldaaaDoorRefH
namespace Go.Proofs.YtboolbcckfldaaaDoor
open Go.RowKit
set_option linter.unusedVariables false
set_option linter.unusedSimpArgs false

theorem nbits_half {x : Nat} (h : x ≠ 0) : nbits (x / 2) + 1 = nbits x := by
  unfold nbits
  rw [if_neg h]
  by_cases h2 : x / 2 = 0
  · rw [if_pos h2]
    have : x = 1 := by omega
    subst this; rfl
  · rw [if_neg h2, Nat.log2_def x, if_pos (by omega)]
theorem nbits_top {k g L : Nat} (hg : g ≠ 0) (hL : L < 2 ^ (24 * k)) : nbits (L + 2 ^ (24 * k) * g) = 24 * k + nbits g := by
  have hp : 0 < 2 ^ (24 * k) := Nat.pow_pos (by decide)
  have hn : L + 2 ^ (24 * k) * g ≠ 0 := by
    have := Nat.mul_pos hp (Nat.pos_of_ne_zero hg); omega
  unfold nbits
  rw [if_neg hn, if_neg hg]
  have h1 := Nat.log2_self_le hg
  have h2 := Nat.lt_log2_self (n := g)
  have h4 : 2 ^ (24 * k + g.log2) ≤ L + 2 ^ (24 * k) * g := by
    rw [Nat.pow_add]
    have := Nat.mul_le_mul_left (2 ^ (24 * k)) h1
    omega
  have h5 : L + 2 ^ (24 * k) * g < 2 ^ (24 * k + (g.log2 + 1)) := by
    rw [Nat.pow_add]
    have : 2 ^ (24 * k) * (g + 1) ≤ 2 ^ (24 * k) * 2 ^ (g.log2 + 1) := Nat.mul_le_mul_left _ h2
    rw [Nat.mul_add] at this; omega
  have h6 := (Nat.le_log2 hn).2 h4
  have h7 := (Nat.log2_lt hn).2 h5
  omega
theorem nbits_digs (n : Nat) (k : Nat) (hk : (digs 16777216 n).length = k + 1) : nbits n = 24 * k + nbits (gd (digs 16777216 n) k) := by
  have hn : n ≠ 0 := by rintro rfl; rw [digs_zero] at hk; simp at hk
  have h0 : gd (digs 16777216 n) k ≠ 0 := by have := digs_last (B := 16777216) (by decide) n hn; rw [hk] at this; simpa using this
  have h1 := val_split 16777216 (digs 16777216 n) k (by omega)
  have h2 := val_drop 16777216 (digs 16777216 n) k (by omega)
  rw [List.drop_of_length_le (show (digs 16777216 n).length ≤ k + 1 by omega)] at h2
  simp only [val, Nat.mul_zero, Nat.add_zero] at h2
  have h3 := val_lt ((digs_Dig (B := 16777216) (by decide) n).take k)
  rw [List.length_take, Nat.min_eq_left (by omega)] at h3
  rw [h2, val_digs (by decide)] at h1
  rw [show (16777216 : Nat) ^ k = 2 ^ (24 * k) from by rw [Nat.pow_mul]] at h1 h3
  have := nbits_top h0 h3
  rw [← h1] at this
  exact this

set_option maxHeartbeats 1000000 in
set_option maxRecDepth 100000 in
theorem Rbits_any (A : Option Addr) (c n : Nat) (w : World) (hx : RdAt w .i64 A (digs 16777216 n)) (hl : (digs 16777216 n).length ≤ 1000000000) :
    Calls Tryd.prog 49 #[.slice A (digs 16777216 n).length c] w (RetN (nbits n) w) := by
  rcases Nat.eq_zero_or_pos (digs 16777216 n).length with h0 | h0
  · have hn : n = 0 := (digs_nil_iff (by decide) n).1 (List.eq_nil_of_length_eq_zero h0)
    rw [h0]
    subst hn
    go_enter Tryd.func49, Tryd.ntmps49
    go_wp2_with fail
    go_ret
    exact ⟨rfl, Below.refl _ _⟩
  · obtain ⟨k, hk⟩ : ∃ k, (digs 16777216 n).length = k + 1 := ⟨(digs 16777216 n).length - 1, by omega⟩
    have HN := Lib.hid (nbits_digs n k hk)
    obtain ⟨b, o, rfl, hc⟩ := hx k (by omega)
    have hg := (digs_Dig (B := 16777216) (by decide) n).gd (by decide) k
    generalize gd (digs 16777216 n) k = g at *
    rw [hk]
    have hq : (((k : Int) + 1) == 0) = false := by rw [beq_eq_false_iff_ne]; omega
    have hkl : k ≤ 1000000000 := by omega
    clear hk h0 hx hl
    go_enter Tryd.func49, Tryd.ntmps49
    go_wp2_with fail
    go_loop [3, 4] (fun v3 v4 => ∃ m x : Nat, v3 = .int .i64 m ∧ v4 = .int .i64 x ∧ x < 16777216 ∧ m ≤ 24 * k + 100000000 - x ∧ Hid (m + nbits x = 24 * k + nbits g)) (fun _ v4 => (intOf v4).toNat)
    case atStart => exact ⟨24 * k, g, by go_num, rfl, hg, by omega, Lib.hid rfl⟩
    case round =>
      obtain ⟨m, x, rfl, rfl, hx, hm, hv⟩ := hrel
      by_cases hx0 : 0 < x
      · have HX := Lib.hid (nbits_half (x := x) (by omega))
        go_wp2_with fail
        go_round
        case rel => exact ⟨m + 1, x / 2, by go_num, by go_num, by omega, by omega, Lib.hid (by have := HX.out; have := hv.out; omega)⟩
        case measure => simp [intOf]; omega
      · go_wp2_with fail
        go_ret
        have h1 := hv.out
        have h2 := HN.out
        have h3 : x = 0 := by omega
        subst h3
        rw [show nbits 0 = 0 from rfl] at h1
        exact ⟨ret_int (by omega), Below.refl _ _⟩

end Go.Proofs.YtboolbcckfldaaaDoor
