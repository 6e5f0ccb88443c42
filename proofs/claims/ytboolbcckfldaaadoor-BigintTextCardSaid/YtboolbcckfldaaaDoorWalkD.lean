/- The program's natural numbers: dividing by a digit, shifting, and reading a machine word. -/
import Derived.Test.YtboolbcckfldaaaDoorWalkC
namespace Go.Proofs.YtboolbcckfldaaaDoor
open Go.RowKit
set_option linter.unusedVariables false
set_option linter.unusedSimpArgs false

/-- the call returns a slice with the digits of q, and the digit r -/
def RetSmall (q : Nat) (r : Int) (w : World) (e : Ending) (w' : World) : Prop :=
  ∃ A c, e = .returned (.tuple #[.slice A (digs 4294967296 q).length c, .int .u32 r]) ∧ (digs 4294967296 q).length ≤ c ∧ RdAt w' .u32 A (digs 4294967296 q) ∧ Below w.heap.size w w'

theorem RetSmall.of_blk {t : TypeId} {q b c : Nat} {r r' : Int} {w w' : World} {zs : List Nat} (hb : Blk w' .u32 t b zs) (hl : Below w.heap.size w w') (hz : trimL zs = digs 4294967296 q) (hc : zs.length ≤ c) (hr : r = r') :
    RetSmall q r w (.returned (.tuple #[.slice (some ⟨b, 0, none⟩) (trimL zs).length c, .int .u32 r'])) w' := by
  refine ⟨some ⟨b, 0, none⟩, c, by rw [hz, hr], ?_, ?_, hl⟩
  · rw [← hz]; have := trimL_length_le zs; omega
  · rw [← hz]; exact hb.rd.trimL

theorem small_end {M d : Nat} (hM : 2 ≤ M) (hd : 0 < d) (x r : Nat) (zs : List Nat) (hz : Dig M zs) (hr : r < d) (h : x = d * val M zs + r) : trimL zs = digs M (x / d) ∧ r = x % d := by
  have h1 : x / d = val M zs := by
    rw [h, Nat.mul_add_div hd, Nat.div_eq_of_lt hr]; rfl
  have h2 : x % d = r := by rw [h, Nat.mul_add_mod, Nat.mod_eq_of_lt hr]
  exact ⟨by rw [h1]; exact (digs_val hM hz).symm, h2.symm⟩

set_option maxHeartbeats 1000000 in
set_option maxRecDepth 100000 in
theorem small_lists (A : Option Addr) (c d : Nat) (xs : List Nat) (w : World) (hx : RdAt w .u32 A xs) (hl : xs.length ≤ 1000000000) (dx : Dig 4294967296 xs) (hd : 0 < d) (hd' : d < 4294967296) :
    Calls Tryd.prog 45 #[.slice A xs.length c, .int .u32 (d : Int)] w (RetSmall (val 4294967296 xs / d) ((val 4294967296 xs % d : Nat) : Int) w) := by
  obtain ⟨w1, hmk, hbk, HW, hsz⟩ := make_nat w ((xs.length : Int)) (by omega) (by omega)
  have HS := Lib.hid hsz
  have HB := Lib.hid hbk
  clear hsz hbk
  have HX := Lib.hid hx
  have HDX := Lib.hid dx
  clear hx dx
  go_enter Tryd.func45, Tryd.ntmps45
  go_wp2
  go_loopw [7, 8] (fun v7 v8 wr => ∃ (k r : Nat) (zs : List Nat), k ≤ xs.length ∧ r < d ∧ v8 = .int .i64 ((k : Int) - 1) ∧ v7 = .int .u32 r ∧ Hid (Blk wr .u32 58 w.heap.size zs) ∧ Hid (zs.length = xs.length) ∧ Hid (Dig 4294967296 zs) ∧ Hid (val 4294967296 (xs.drop k) = d * val 4294967296 (zs.drop k) + r) ∧ Below w.heap.size w wr) (fun _ v8 _ => (intOf v8 + 1).toNat)
  case atStart => exact ⟨xs.length, 0, _, Nat.le_refl _, hd, rfl, rfl, HB, Lib.hid (by simp), Lib.hid (Dig.replicate (by decide) _), Lib.hid (by rw [List.drop_length, List.drop_of_length_le (by simp)]; simp [val]), HW⟩
  case round =>
    obtain ⟨k, r, zs, hk, hr, rfl, rfl, hB, hz, hdz, hv, hbl⟩ := hrel
    clear HB HS HW hmk
    rcases Nat.eq_zero_or_pos k with rfl | hkp
    · rw [show (((0 : Nat) : Int) - 1) = -1 from rfl]
      go_wp2_with (go_at_call 59; refine (trim_any _ _ _ zs _ hz (Lib.hid hB.out.rd) (by omega) (by omega)).mono ?_; rintro e w' ⟨rfl, rfl⟩)
      go_ret2
      have h1 := hv.out
      rw [List.drop_zero, List.drop_zero] at h1
      obtain ⟨e1, e2⟩ := small_end (by decide) hd _ r zs hdz.out hr h1
      exact RetSmall.of_blk hB.out hbl e1 (by rw [hz.out]; exact Nat.le_refl _) (by rw [e2])
    · obtain ⟨m, rfl⟩ : ∃ m, k = m + 1 := ⟨k - 1, by omega⟩
      rw [show (((m + 1 : Nat) : Int) - 1) = (m : Int) from by omega]
      obtain ⟨b, o, rfl, hcl⟩ := HX.out m (by omega)
      have hcl' := below_cell hbl hcl (lt_of_cell hcl)
      have hg1 := HDX.out.gd (by decide) m
      have hlz : m < zs.length := by rw [hz.out]; omega
      have hcz := hB.out.cell hlz
      have hfz := hB.out.free m
      clear hcl hlz
      go_wp2_with (go_at_call 70; refine (div32_any _ _ _ _ (by omega) (by omega) (by omega) (by omega) (by omega) (by omega)).mono ?_; rintro e w' ⟨rfl, n, rfl⟩)
      go_roundw
      case rel =>
        have hst := small_step 4294967296 d hd xs zs m r (by omega) hz.out hv.out
        have e1 : ((r : Int) * 4294967296 + (gd xs m : Nat)) / (d : Int) = (((r * 4294967296 + gd xs m) / d : Nat) : Int) := by
          rw [Int.natCast_ediv]; rfl
        have e2 : ((r : Int) * 4294967296 + (gd xs m : Nat)) % (d : Int) = (((r * 4294967296 + gd xs m) % d : Nat) : Int) := by
          rw [Int.natCast_emod]; rfl
        have hq : (r * 4294967296 + gd xs m) / d < 4294967296 := by
          rw [Nat.div_lt_iff_lt_mul hd]
          have : (r + 1) * 4294967296 ≤ d * 4294967296 := Nat.mul_le_mul_right _ hr
          rw [Nat.mul_comm 4294967296 d]; omega
        rw [e1, e2]
        exact ⟨m, _, zs.set m ((r * 4294967296 + gd xs m) / d), by omega, Nat.mod_lt _ hd, rfl, rfl, Lib.hid ((hB.out.drewN _).set _ _), Lib.hid (by simp [hz.out]), Lib.hid (hdz.out.set _ _ hq), Lib.hid hst, (below_drewN hbl _).setCell (Nat.le_refl _) _⟩
      case measure => simp [intOf]

theorem small_any (A : Option Addr) (c x : Nat) (D : Int) (w : World) (hx : RdAt w .u32 A (digs 4294967296 x)) (hl : (digs 4294967296 x).length ≤ 1000000000) (hd : 0 < D) (hd' : D < 4294967296) :
    Calls Tryd.prog 45 #[.slice A (digs 4294967296 x).length c, .int .u32 D] w (RetSmall (x / D.toNat) ((x : Int) % D) w) := by
  obtain ⟨d, rfl⟩ := Int.eq_ofNat_of_zero_le (Int.le_of_lt hd)
  have := small_lists A c d _ w hx hl (digs_Dig (by decide) x) (by omega) (by omega)
  rw [val_digs (by decide)] at this
  rw [Int.toNat_natCast]
  have e : ((x : Int) % (d : Int)) = ((x % d : Nat) : Int) := (Int.natCast_emod x d).symm
  rw [e]; exact this

/-- reading a machine word of at most two digits -/
def RetWord (x : Nat) (w : World) (e : Ending) (w' : World) : Prop := e = .returned (.int .u64 (x : Int)) ∧ w = w'

theorem or_word64 (a b : Nat) (ha : a < 4294967296) (hb : b < 4294967296) : bits BinOp.or IntKind.u64 ((a : Int) * 4294967296) (b : Int) = ((b + 4294967296 * a : Nat) : Int) := by
  rw [or_hi _ _ (by omega) (by omega) (by omega) (by omega)]; omega

set_option maxHeartbeats 1000000 in
set_option maxRecDepth 100000 in
theorem single_lists (A : Option Addr) (c : Nat) (xs : List Nat) (w : World) (hx : RdAt w .u32 A xs) (hl : xs.length ≤ 2) (dx : Dig 4294967296 xs) :
    Calls Tryd.prog 57 #[.slice A xs.length c] w (RetWord (val 4294967296 xs) w) := by
  have HX := Lib.hid hx
  have HDX := Lib.hid dx
  clear hx dx
  go_enter Tryd.func57, Tryd.ntmps57
  go_wp2
  go_loop [3, 4] (fun v3 v4 => ∃ (k : Nat), k ≤ xs.length ∧ v4 = .int .i64 ((k : Int) - 1) ∧ v3 = .int .u64 ((val 4294967296 (xs.drop k) : Nat) : Int)) (fun _ v4 => (intOf v4 + 1).toNat)
  case atStart => exact ⟨xs.length, Nat.le_refl _, rfl, by rw [List.drop_length]; rfl⟩
  case round =>
    obtain ⟨k, hk, rfl, rfl⟩ := hrel
    rcases Nat.eq_zero_or_pos k with rfl | hkp
    · rw [show (((0 : Nat) : Int) - 1) = -1 from rfl]
      go_wp2
      go_ret
      exact ⟨by simp, rfl⟩
    · obtain ⟨m, rfl⟩ : ∃ m, k = m + 1 := ⟨k - 1, by omega⟩
      rw [show (((m + 1 : Nat) : Int) - 1) = (m : Int) from by omega]
      obtain ⟨b, o, rfl, hcl⟩ := HX.out m (by omega)
      have hg1 := HDX.out.gd (by decide) m
      have hvd := val_drop 4294967296 xs m (by omega)
      have hvl : val 4294967296 (xs.drop (m + 1)) < 4294967296 := by
        have h1 := val_lt (HDX.out.drop (m + 1))
        have h2 : 4294967296 ^ (xs.drop (m + 1)).length ≤ 4294967296 ^ 1 := Nat.pow_le_pow_right (by decide) (by rw [List.length_drop]; omega)
        omega
      generalize hV : val 4294967296 (xs.drop (m + 1)) = V at *
      have HV := Lib.hid hV
      have HVD := Lib.hid hvd
      clear hV hvd
      have ho := or_word64 V (gd xs m) hvl hg1
      go_wp2
      go_round
      case rel => exact ⟨m, by omega, rfl, by rw [HVD.out]; exact congrArg (Value.int .u64) (by omega)⟩
      case measure => simp [intOf]

theorem single_any (A : Option Addr) (c x : Nat) (w : World) (hx : RdAt w .u32 A (digs 4294967296 x)) (hl : (digs 4294967296 x).length ≤ 2) :
    Calls Tryd.prog 57 #[.slice A (digs 4294967296 x).length c] w (RetWord x w) := by
  have := single_lists A c _ w hx hl (digs_Dig (by decide) x)
  rwa [val_digs (by decide)] at this
end Go.Proofs.YtboolbcckfldaaaDoor
