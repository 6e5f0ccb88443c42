/- The program's natural numbers: reading bytes, comparing and taking away return what they should, for slices of 32-bit digits. -/
import Derived.Test.YtboolbcckfldaaaDoorWalkA
import Derived.Test.YtboolbcckfldaaaDoorNum
namespace Go.Proofs.YtboolbcckfldaaaDoor
open Go.RowKit
set_option linter.unusedVariables false
set_option linter.unusedSimpArgs false

theorem or_word (z b r : Nat) (hr : r < 4) (hz : z < 256 ^ r) (hb : b < 256) : bits BinOp.or IntKind.u32 (z : Int) ((b : Int) * 2 ^ (8 * r) % 4294967296) = ((z + b * 256 ^ r : Nat) : Int) := by
  have key : ∀ (i : Nat), z < 2 ^ i → b * 2 ^ i < 4294967296 → z < 4294967296 → bits BinOp.or IntKind.u32 (z : Int) (((b * 2 ^ i : Nat)) : Int) = ((z + b * 2 ^ i : Nat) : Int) := fun i h1 h2 h3 => by
    rw [u32_or_nat _ _ h3 h2]
    have := Nat.shiftLeft_add_eq_or_of_lt h1 b
    rw [Nat.shiftLeft_eq] at this
    rw [Nat.or_comm, ← this, Nat.add_comm]
  have e : ∀ i : Nat, b * 2 ^ i < 4294967296 → (b : Int) * 2 ^ i % 4294967296 = ((b * 2 ^ i : Nat) : Int) := fun i h => by
    have : ((b * 2 ^ i : Nat) : Int) = (b : Int) * 2 ^ i := by rw [Int.natCast_mul, Int.natCast_pow]; rfl
    rw [← this]; omega
  have h4 : r = 0 ∨ r = 1 ∨ r = 2 ∨ r = 3 := by omega
  rcases h4 with rfl | rfl | rfl | rfl
  · have := key 0 (by simpa using hz) (by omega) (by simp at hz; omega)
    rw [e 0 (by omega)]; simpa using this
  · have := key 8 (by simpa using hz) (by omega) (by simp at hz; omega)
    rw [e 8 (by omega)]; simpa using this
  · have := key 16 (by simpa using hz) (by omega) (by simp at hz; omega)
    rw [e 16 (by omega)]; simpa using this
  · have := key 24 (by simpa using hz) (by omega) (by simp at hz; omega)
    rw [e 24 (by omega)]; simpa using this

attribute [local go_sem] wrap_u32_byte
set_option maxHeartbeats 1000000 in
set_option maxRecDepth 100000 in
theorem of_any (s : ByteArray) (w : World) (hs : s.size ≤ 2000000000) :
    Calls Tryd.prog 39 #[.string s] w (RetD .u32 4294967296 (sv s) w) := by
  obtain ⟨w1, hmk, hbk, HW, hsz⟩ := make_nat w (((s.size : Int) + 3) / 4) (by omega) (by omega)
  have HS := Lib.hid hsz
  have HB := Lib.hid hbk
  clear hsz hbk
  go_enter Tryd.func39, Tryd.ntmps39
  go_wp2
  go_loopw [13] (fun v13 wr => ∃ (k : Nat) (zs : List Nat), k ≤ s.size ∧ v13 = .int .i64 k ∧ Hid (Blk wr .u32 58 w.heap.size zs) ∧ Hid (zs.length = (s.size + 3) / 4) ∧ Hid (Dig 4294967296 zs) ∧ Hid (val 4294967296 zs = val 256 ((rb s).take k)) ∧ Below w.heap.size w wr) (fun v13 _ => s.size - (intOf v13).toNat)
  case atStart => exact ⟨0, _, by omega, rfl, HB, Lib.hid (by simp; omega), Lib.hid (Dig.replicate (by decide) _), Lib.hid (by simp [val, val_replicate]), HW⟩
  case round =>
    obtain ⟨k, zs, hk, rfl, hB, hz, hdz, hv, hbl⟩ := hrel
    clear HB HS HW hmk
    by_cases hkl : k < s.size
    · have hcz := hB.out.cell (i := k / 4) (by rw [hz.out]; omega)
      have hfz := hB.out.free (k / 4)
      go_wp2_with fail
      have i1 : (0:Int) ≤ (k : Int) / 4 := by omega
      have i2 : (k : Int) / 4 < ((s.size : Int) + 3) / 4 := by omega
      have i3 : (0:Int) ≤ (s.size : Int) - 1 - k := by omega
      have i4 : (s.size : Int) - 1 - k < (s.size : Int) := by omega
      have i8 : (k : Int) ≤ (s.size : Int) - 1 := by omega
      have i5 : (0:Int) ≤ 8 * ((k : Int) % 4) := by omega
      have i6 : 8 * ((k : Int) % 4) < 32 := by omega
      have q1 : IntKind.i64.wrap ((k : Int) / 4) = (k : Int) / 4 := wr64 (by omega) (by omega)
      have q2 : IntKind.i64.wrap ((k : Int) % 4) = (k : Int) % 4 := wr64 (by omega) (by omega)
      have q3 : IntKind.i64.wrap (8 * ((k : Int) % 4)) = 8 * ((k : Int) % 4) := wr64 (by omega) (by omega)
      have i7 : ((k : Int) / 4).toNat = k / 4 := by omega
      have q0 : ((k : Int)).tmod 4 = (k : Int) % 4 := Int.tmod_eq_emod_of_nonneg (by omega)
      refine region_tail 15 (by kernel_rfl) (by kernel_rfl) ?_
      simp only [List.take_succ_cons, List.take_zero, List.drop_succ_cons, List.drop_zero]
      repeat still_step
      refine wpStill_nil ?_
      clear q0 q1 q2 q3 i7
      go_wp2
      go_roundw
      case rel =>
        have hk4 : 4 * (k / 4) + k % 4 = k := Nat.div_add_mod k 4
        have hv2 : val 4294967296 zs = val 256 ((rb s).take (4 * (k / 4) + k % 4)) := by rw [hk4]; exact hv.out
        have hd := of_digit zs (rb s) (k / 4) (k % 4) (by decide) hv2 (rb_Dig s)
        have hs1 := of_step zs (rb s) (k / 4) (k % 4) (by decide) (by rw [hz.out]; omega) hv2
        rw [hk4, gd_rb s k hkl] at hs1
        have hb := (s[s.size - 1 - k]'(by omega)).toNat_lt
        have hp : 256 ^ (k % 4) ≤ 16777216 := by
          have : k % 4 = 0 ∨ k % 4 = 1 ∨ k % 4 = 2 ∨ k % 4 = 3 := by omega
          rcases this with e | e | e | e <;> simp [e]
        have hm : (s[s.size - 1 - k]'(by omega)).toNat * 256 ^ (k % 4) ≤ 255 * 256 ^ (k % 4) := Nat.mul_le_mul_right _ (by omega)
        refine ⟨k + 1, _, by omega, by go_num, Lib.hid ?_, Lib.hid ?_, Lib.hid ?_, Lib.hid hs1, (hbl.trans ?_).setCell (Nat.le_refl _) _⟩
        · rw [or_word _ _ _ (Nat.mod_lt _ (by decide)) hd hb]
          exact (hB.out.drewN 1).set _ _
        · rw [List.length_set]; exact hz.out
        · exact hdz.out.set _ _ (by omega)
        · exact ((Below.refl _ _).drew)
      case measure => simp [intOf]; omega
    · obtain rfl : k = s.size := by omega
      have hle := hz.out
      have HL := Lib.hid hle
      clear hle
      go_wp2_with (go_at_call 59; refine (trim_any _ _ _ zs _ HL (Lib.hid hB.out.rd) (by omega) (by omega)).mono ?_; rintro e w' ⟨rfl, rfl⟩)
      go_ret
      refine RetD.of_blk hB.out hbl ?_ (by rw [hz.out]; exact Nat.le_refl _)
      rw [← digs_val (by decide) hdz.out, hv.out, ← rb_length, List.take_length]; rfl
end Go.Proofs.YtboolbcckfldaaaDoor
