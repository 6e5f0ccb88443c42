/- Integers: comparing, and the number of binary digits. -/
import Derived.Test.YtboolbcckfldaaaDoorWalkP
import Derived.Deep.QuietTactic
import Derived.BigQuiet
namespace Go.Proofs.YtboolbcckfldaaaDoor
open Go.RowKit
set_option linter.unusedVariables false
set_option linter.unusedSimpArgs false

set_option maxHeartbeats 1000000 in
set_option maxRecDepth 100000 in
theorem Cmp_any (x y : Int) (w : World) (hx : Bd 400000000 x) (hy : Bd 400000000 y) : Calls Tryd.prog 20 #[vI x, vI y] w (RetN ((x - y).sign) w) := by
  have HC := fun W => Lib.hid (Sub_any x y W hx hy)
  have hb : Below w.heap.size w ((w.alloc (.cells #[.bool (sg x), .string (mg x)] 23)).alloc (.cells #[.bool (sg y), .string (mg y)] 23)) := ((Below.refl _ _).alloc (Nat.le_refl _) _).alloc (by simp) _
  go_enter Tryd.func20, Tryd.ntmps20
  go_wp2_with fail
  obtain ⟨W0, hW0⟩ : ∃ W0, W0 = ((w.alloc (.cells #[.bool (sg x), .string (mg x)] 23)).alloc (.cells #[.bool (sg y), .string (mg y)] 23)) := ⟨_, rfl⟩
  rw [← hW0] at hb ⊢
  clear hW0
  refine (HC W0).out.mono ?_
  rintro e W1 ⟨rfl, hb1⟩
  go_wp2_with fail
  refine (Sign_any (x - y) W1).mono ?_
  rintro e W2 ⟨rfl, hb2⟩
  have hbl := (hb.trans (hb1.mono hb.size)).trans (hb2.mono (Nat.le_trans hb.size hb1.size))
  clear hb hb1 hb2
  go_wp2_with fail
  go_ret
  exact ⟨rfl, hbl⟩
set_option maxHeartbeats 1000000 in
set_option maxRecDepth 100000 in
theorem Cmp_bad1 (n m : Bool) (s t : ByteArray) (w : World) (h : vld n s = false) : Calls Tryd.prog 20 #[.agg #[.bool n, .string s], .agg #[.bool m, .string t]] w (RetN (0) w) := by
  have HC := fun W => Lib.hid (Sub_bad1 n m s t W h)
  have hb : Below w.heap.size w ((w.alloc (.cells #[.bool n, .string s] 23)).alloc (.cells #[.bool m, .string t] 23)) := ((Below.refl _ _).alloc (Nat.le_refl _) _).alloc (by simp) _
  go_enter Tryd.func20, Tryd.ntmps20
  go_wp2_with fail
  obtain ⟨W0, hW0⟩ : ∃ W0, W0 = ((w.alloc (.cells #[.bool n, .string s] 23)).alloc (.cells #[.bool m, .string t] 23)) := ⟨_, rfl⟩
  rw [← hW0] at hb ⊢
  clear hW0
  refine (HC W0).out.mono ?_
  rintro e W1 ⟨rfl, hb1⟩
  go_wp2_with fail
  refine (Sign_any 0 W1).mono ?_
  rintro e W2 ⟨rfl, hb2⟩
  have hbl := (hb.trans (hb1.mono hb.size)).trans (hb2.mono (Nat.le_trans hb.size hb1.size))
  clear hb hb1 hb2
  go_wp2_with fail
  go_ret
  exact ⟨rfl, hbl⟩
set_option maxHeartbeats 1000000 in
set_option maxRecDepth 100000 in
theorem Cmp_bad2 (n m : Bool) (s t : ByteArray) (w : World) (h : vld n s = true) (h' : vld m t = false) : Calls Tryd.prog 20 #[.agg #[.bool n, .string s], .agg #[.bool m, .string t]] w (RetN (0) w) := by
  have HC := fun W => Lib.hid (Sub_bad2 n m s t W h h')
  have hb : Below w.heap.size w ((w.alloc (.cells #[.bool n, .string s] 23)).alloc (.cells #[.bool m, .string t] 23)) := ((Below.refl _ _).alloc (Nat.le_refl _) _).alloc (by simp) _
  go_enter Tryd.func20, Tryd.ntmps20
  go_wp2_with fail
  obtain ⟨W0, hW0⟩ : ∃ W0, W0 = ((w.alloc (.cells #[.bool n, .string s] 23)).alloc (.cells #[.bool m, .string t] 23)) := ⟨_, rfl⟩
  rw [← hW0] at hb ⊢
  clear hW0
  refine (HC W0).out.mono ?_
  rintro e W1 ⟨rfl, hb1⟩
  go_wp2_with fail
  refine (Sign_any 0 W1).mono ?_
  rintro e W2 ⟨rfl, hb2⟩
  have hbl := (hb.trans (hb1.mono hb.size)).trans (hb2.mono (Nat.le_trans hb.size hb1.size))
  clear hb hb1 hb2
  go_wp2_with fail
  go_ret
  exact ⟨rfl, hbl⟩

theorem bitLenAux_le : ∀ f x, Lib.bitLenAux f x ≤ f
  | 0, _ => Nat.le_refl _
  | f + 1, x => by
    simp only [Lib.bitLenAux]
    have := bitLenAux_le f (x / 2)
    split <;> omega
theorem bitLen_le (x : Nat) : Lib.bitLen x ≤ 64 := bitLenAux_le 64 x
/-- how many binary digits a number has -/
def nbits (n : Nat) : Nat := if n = 0 then 0 else Nat.log2 n + 1

theorem nbits_bytes (n : Nat) (h : 0 < (magB n).size) : 8 * ((magB n).size - 1) + Lib.bitLen (magB n)[0].toNat = nbits n := by
  have hs := size_magB n
  have hn : n ≠ 0 := by
    rintro rfl
    have : (digs 256 0).length = 0 := by rw [digs_zero]; rfl
    omega
  obtain ⟨k, hk⟩ : ∃ k, (digs 256 n).length = k + 1 := ⟨(digs 256 n).length - 1, by omega⟩
  have htop : (magB n)[0].toNat = gd (digs 256 n) k := by
    have := gd_rb (magB n) k (by omega)
    have hrb : rb (magB n) = digs 256 n := rb_mk _ (digs_Dig (by decide) n)
    rw [hrb] at this
    rw [this]
    congr 2; omega
  have h0 : gd (digs 256 n) k ≠ 0 := by have := digs_last (B := 256) (by decide) n hn; rw [hk] at this; simpa using this
  have hlt := (digs_Dig (B := 256) (by decide) n).gd (by decide) k
  have h1 := val_split 256 (digs 256 n) k (by omega)
  have h2 := val_drop 256 (digs 256 n) k (by omega)
  rw [List.drop_of_length_le (show (digs 256 n).length ≤ k + 1 by omega)] at h2
  simp only [val, Nat.mul_zero, Nat.add_zero] at h2
  have h3 := val_lt ((digs_Dig (B := 256) (by decide) n).take k)
  rw [List.length_take, Nat.min_eq_left (by omega)] at h3
  rw [h2, val_digs (by decide)] at h1
  rw [htop, hs, hk, Nat.add_sub_cancel]
  generalize gd (digs 256 n) k = g at *
  generalize val 256 ((digs 256 n).take k) = L at *
  obtain ⟨a, _, c, d⟩ := bitLenAux_spec 64 g (by omega) h0
  have e : Lib.bitLen g = Lib.bitLenAux 64 g := rfl
  rw [← e] at a c d
  generalize Lib.bitLen g = b at *
  have hp : (256 : Nat) ^ k = 2 ^ (8 * k) := by rw [Nat.pow_mul]
  rw [hp] at h1 h3
  unfold nbits
  rw [if_neg hn]
  have h4 : 2 ^ (8 * k + (b - 1)) ≤ n := by
    rw [Nat.pow_add]
    have := Nat.mul_le_mul_left (2 ^ (8 * k)) c
    omega
  have h5 : n < 2 ^ (8 * k + b) := by
    rw [Nat.pow_add]
    have : 2 ^ (8 * k) * (g + 1) ≤ 2 ^ (8 * k) * 2 ^ b := Nat.mul_le_mul_left _ d
    rw [Nat.mul_add] at this; omega
  have h6 := (Nat.le_log2 hn).2 h4
  have h7 := (Nat.log2_lt hn).2 h5
  omega

set_option maxHeartbeats 1000000 in
set_option maxRecDepth 100000 in
theorem Bits_any (x : Int) (w : World) (hb : Bd 400000000 x) : Calls Tryd.prog 21 #[vI x] w (RetN (nbits x.natAbs) w) := by
  have h0 := Box1.new w 23 (.bool (sg x)) (.string (mg x))
  by_cases h : x = 0
  · obtain ⟨e1, e2⟩ := mg_empty h
    have HV : Hid (nbits x.natAbs = 0) := Lib.hid (by rw [h]; rfl)
    rw [HV.out]
    clear h
    go_enter Tryd.func21, Tryd.ntmps21
    go_wp2_with fail
    obtain ⟨W0, hW0⟩ : ∃ W0, W0 = (w.alloc (.cells #[.bool (sg x), .string (mg x)] 23)) := ⟨_, rfl⟩
    rw [← hW0] at h0 ⊢
    clear hW0
    refine (Valid_yes x W0).mono ?_
    rintro e W1 ⟨rfl, hb⟩
    have h1 := h0.below hb
    obtain ⟨x0, x1⟩ := h1.x.cells
    go_wp2_with fail
    go_ret
    exact ⟨rfl, h1.b⟩
  · obtain ⟨e1, e2⟩ := mg_full h
    have hpos : 0 < (mg x).size := Nat.pos_of_ne_zero fun e => h ((mg_size_zero x).1 e)
    have HV : Hid (8 * ((mg x).size - 1) + Lib.bitLen (mg x)[0].toNat = nbits x.natAbs) := nbits_bytes x.natAbs hpos
    have hsz := hb.size
    have hlt := (mg x)[0].toNat_lt
    clear h hb
    go_enter Tryd.func21, Tryd.ntmps21
    go_wp2_with fail
    obtain ⟨W0, hW0⟩ : ∃ W0, W0 = (w.alloc (.cells #[.bool (sg x), .string (mg x)] 23)) := ⟨_, rfl⟩
    rw [← hW0] at h0 ⊢
    clear hW0
    refine (Valid_yes x W0).mono ?_
    rintro e W1 ⟨rfl, hb⟩
    have h1 := h0.below hb
    obtain ⟨x0, x1⟩ := h1.x.cells
    go_wp2_with fail
    go_quiet ((go_at_call 46; exact Calls.quiet_of_same (Tryd.bits_Len8 _ _ (by omega) (by omega))))
    go_wp2_with fail
    go_ret
    refine ⟨ret_int ?_, below_drewN h1.b _⟩
    have hbl : Lib.bitLen (mg x)[0].toNat ≤ 64 := bitLen_le _
    rw [← HV.out]
    unfold wrap64
    omega
end Go.Proofs.YtboolbcckfldaaaDoor
