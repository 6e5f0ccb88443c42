/- Shifting the program's natural numbers. -/
import Derived.Test.YtboolbcckfldaaaDoorWalkG
namespace Go.Proofs.YtboolbcckfldaaaDoor
open Go.RowKit
set_option linter.unusedVariables false
set_option linter.unusedSimpArgs false

/-- the call returns a new block that holds the digits of n, with so many places -/
def RetBlk (t : TypeId) (len n : Nat) (w : World) (e : Ending) (w' : World) : Prop :=
  ∃ b zs, e = .returned (.slice (some ⟨b, 0, none⟩) len len) ∧ zs.length = len ∧ Dig 4294967296 zs ∧ val 4294967296 zs = n ∧ Blk w' .u32 t b zs ∧ w.heap.size ≤ b ∧ Below w.heap.size w w'

theorem pow_le_31 {s : Nat} (hs : s ≤ 31) : 2 ^ s ≤ 2147483648 := Nat.pow_le_pow_right (n := 2) (by decide) hs
theorem cast_shift (x s : Nat) : ((x : Int) * 2 ^ s) = ((x * 2 ^ s : Nat) : Int) := by
  rw [Int.natCast_mul, Int.natCast_pow]; rfl
theorem or_shift (z x s : Nat) (hs : s ≤ 31) (hz : z < 2 ^ s) (hx : x < 4294967296) : bits BinOp.or IntKind.u32 (z : Int) ((x : Int) * 2 ^ s % 4294967296) = ((z + x * 2 ^ s % 4294967296 : Nat) : Int) := by
  have hp := pow_le_31 hs
  have e1 : x * 2 ^ s % 4294967296 = (x % 2 ^ (32 - s)) * 2 ^ s := by
    have : (4294967296 : Nat) = 2 ^ (32 - s) * 2 ^ s := by rw [← Nat.pow_add, show 32 - s + s = 32 from by omega]
    rw [this, Nat.mul_mod_mul_right]
  have e2 : ((x : Int) * 2 ^ s % 4294967296) = ((x * 2 ^ s % 4294967296 : Nat) : Int) := by
    rw [cast_shift, Int.natCast_emod]; rfl
  rw [e2, u32_or_nat _ _ (by omega) (Nat.mod_lt _ (by decide)), e1]
  have := Nat.shiftLeft_add_eq_or_of_lt hz (x % 2 ^ (32 - s))
  rw [Nat.shiftLeft_eq] at this
  rw [Nat.or_comm, ← this, Nat.add_comm]
theorem high_shift (x s : Nat) (hs : s ≤ 31) (hx : x < 4294967296) : IntKind.u64.wrap ((x : Int) * 2 ^ s) / 4294967296 % 4294967296 = ((x * 2 ^ s / 4294967296 : Nat) : Int) := by
  have hp := pow_le_31 hs
  have h1 : x * 2 ^ s ≤ 4294967295 * 2147483648 := Nat.mul_le_mul (by omega) hp
  rw [cast_shift]
  have : IntKind.u64.wrap ((x * 2 ^ s : Nat) : Int) = ((x * 2 ^ s : Nat) : Int) := by
    have e : ∀ y : Int, IntKind.u64.wrap y = y % 18446744073709551616 := fun y => by simp [IntKind.wrap, IntKind.bits, IntKind.signed]
    rw [e]; omega
  rw [this]; omega

set_option maxHeartbeats 1000000 in
set_option maxRecDepth 100000 in
theorem shift_lists (A : Option Addr) (c s : Nat) (xs : List Nat) (w : World) (hx : RdAt w .u32 A xs) (hl : xs.length ≤ 1000000000) (dx : Dig 4294967296 xs) (hs : s ≤ 31) :
    Calls Tryd.prog 68 #[.slice A xs.length c, .int .i64 (s : Int)] w (RetBlk 58 (xs.length + 1) (val 4294967296 xs * 2 ^ s) w) := by
  obtain ⟨w1, hmk, hbk, HW, hsz⟩ := make_nat w ((xs.length : Int) + 1) (by omega) (by omega)
  have HS := Lib.hid hsz
  have HB := Lib.hid hbk
  clear hsz hbk
  have HX := Lib.hid hx
  have HDX := Lib.hid dx
  clear hx dx
  go_enter Tryd.func68, Tryd.ntmps68
  go_wp2
  go_loopw [14] (fun v14 wr => ∃ (k : Nat) (zs : List Nat), k ≤ xs.length ∧ v14 = .int .i64 k ∧ Hid (Blk wr .u32 58 w.heap.size zs) ∧ Hid (zs.length = xs.length + 1) ∧ Hid (Dig 4294967296 zs) ∧ Hid (val 4294967296 zs = val 4294967296 (xs.take k) * 2 ^ s) ∧ Below w.heap.size w wr) (fun v14 _ => xs.length - (intOf v14).toNat)
  case atStart => exact ⟨0, _, by omega, rfl, HB, Lib.hid (by simp), Lib.hid (Dig.replicate (by decide) _), Lib.hid (by simp [val, val_replicate]), HW⟩
  case round =>
    obtain ⟨k, zs, hk, rfl, hB, hz, hdz, hv, hbl⟩ := hrel
    clear HB HS HW hmk
    by_cases hkl : k < xs.length
    · obtain ⟨b, o, rfl, hcl⟩ := HX.out k hkl
      have hcl' := below_cell hbl hcl (lt_of_cell hcl)
      have hg1 := HDX.out.gd (by decide) k
      have hlz : k < zs.length := by rw [hz.out]; omega
      have hlz1 : k + 1 < zs.length := by rw [hz.out]; omega
      have hcz := hB.out.cell hlz
      have hfz := hB.out.free k
      have hcz1 := hB.out.cell hlz1
      have hfz1 := hB.out.free (k + 1)
      clear hcl hlz hlz1
      go_wp2_with fail
      have j1 : (k : Int) < (xs.length : Int) + 1 := by omega
      refine region_tail 9 (by kernel_rfl) (by kernel_rfl) ?_
      simp only [List.take_succ_cons, List.take_zero, List.drop_succ_cons, List.drop_zero]
      repeat still_step
      refine wpStill_nil ?_
      clear j1
      go_wp2
      go_roundw
      case rel =>
        have hp := pow_le_31 hs
        have hlow : gd zs k < 2 ^ s := (shift_low zs xs k (2 ^ s) (by omega) HDX.out hkl hv.out).resolve_right (by have : 0 < 2 ^ s := Nat.pow_pos (by decide); omega)
        have hstep := shift_step (by decide) zs xs k (2 ^ s) (by rw [hz.out]; omega) (by omega) HDX.out hkl hv.out
        have h1 : gd xs k * 2 ^ s ≤ 4294967295 * 2147483648 := Nat.mul_le_mul (by omega) hp
        have h2 : gd zs k + gd xs k * 2 ^ s % 4294967296 < 4294967296 := by
          have e1 : gd xs k * 2 ^ s % 4294967296 = (gd xs k % 2 ^ (32 - s)) * 2 ^ s := by
            have : (4294967296 : Nat) = 2 ^ (32 - s) * 2 ^ s := by rw [← Nat.pow_add, show 32 - s + s = 32 from by omega]
            rw [this, Nat.mul_mod_mul_right]
          have e2 : (gd xs k % 2 ^ (32 - s) + 1) * 2 ^ s ≤ 2 ^ (32 - s) * 2 ^ s := Nat.mul_le_mul_right _ (Nat.mod_lt _ (Nat.pow_pos (by decide)))
          rw [← Nat.pow_add, show 32 - s + s = 32 from by omega, Nat.add_mul] at e2
          rw [e1]; omega
        rw [or_shift _ _ _ hs hlow hg1, high_shift _ _ hs hg1]
        refine ⟨k + 1, _, by omega, by go_num, Lib.hid (((hB.out.drewN 1).set k _).set (k + 1) _), Lib.hid (by simp [hz.out]), Lib.hid ((hdz.out.set _ _ h2).set _ _ (by omega)), Lib.hid hstep, ((below_drewN hbl 1).setCell (Nat.le_refl _) _).setCell (Nat.le_refl _) _⟩
      case measure => simp [intOf]; omega
    · obtain rfl : k = xs.length := by omega
      go_wp2
      go_ret
      exact ⟨w.heap.size, zs, rfl, hz.out, hdz.out, by rw [hv.out, List.take_length], hB.out, Nat.le_refl _, hbl⟩
end Go.Proofs.YtboolbcckfldaaaDoor
