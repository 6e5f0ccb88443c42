/- The program's natural numbers: trim and add return what they should, for slices of 32-bit digits. -/
import Derived.Test.YtboolbcckfldaaaDoorBits
namespace Go.Proofs.YtboolbcckfldaaaDoor
open Go.RowKit
set_option linter.unusedVariables false
set_option linter.unusedSimpArgs false

theorem trimL_cut {xs : List Nat} {k : Nat} (h : 0 < k) (hk : k ≤ xs.length) (hz : gd xs (k - 1) = 0) : trimL (xs.take k) = trimL (xs.take (k - 1)) := by
  obtain ⟨m, rfl⟩ : ∃ m, k = m + 1 := ⟨k - 1, by omega⟩
  rw [Nat.add_sub_cancel] at hz ⊢
  rw [List.take_succ_eq_append_getElem (by omega), ← gd_get (by omega), hz, trimL_snoc_zero]
theorem trimL_stop {xs : List Nat} {k : Nat} (h : 0 < k) (hk : k ≤ xs.length) (hz : gd xs (k - 1) ≠ 0) : (trimL (xs.take k)).length = k := by
  obtain ⟨m, rfl⟩ : ∃ m, k = m + 1 := ⟨k - 1, by omega⟩
  rw [Nat.add_sub_cancel] at hz
  rw [List.take_succ_eq_append_getElem (by omega), ← gd_get (by omega), trimL_snoc_pos _ _ hz]
  simp; omega

set_option maxHeartbeats 400000 in
theorem trim_any (A : Option Addr) (n c : Nat) (xs : List Nat) (w : World) (hn : Hid (xs.length = n)) (hx : Hid (RdAt w .u32 A xs)) (hl : n ≤ 2100000000) (hc : n ≤ c) :
    Calls Tryd.prog 59 #[.slice A n c] w fun e w' => e = .returned (.slice A (trimL xs).length c) ∧ w = w' := by
  obtain rfl := hn.out
  have H : Hid (trimL xs = trimL (xs.take xs.length)) := by rw [List.take_length]; exact rfl
  go_enter Tryd.func59, Tryd.ntmps59
  go_wp2
  go_loop [0] (fun v => ∃ k : Nat, k ≤ xs.length ∧ v = .slice A k c ∧ Hid (trimL xs = trimL (xs.take k))) (fun v => lenOf v)
  case atStart => exact ⟨xs.length, Nat.le_refl _, rfl, H⟩
  case round =>
    obtain ⟨k, hk, rfl, ht⟩ := hrel
    clear H
    by_cases h0 : 0 < k
    · obtain ⟨b, o, rfl, hc1⟩ := hx.out (k - 1) (by omega)
      clear hx
      by_cases hz : gd xs (k - 1) = 0
      · have hz' : (((gd xs (k - 1) : Nat) : Int) == 0) = true := by rw [hz]; rfl
        have HZ := Lib.hid hz
        clear hz
        go_wp2
        go_round
        case rel => exact ⟨k - 1, by omega, rfl, ht.out.trans (trimL_cut h0 hk HZ.out)⟩
        case measure => simp [lenOf]; omega
      · have hz' : (((gd xs (k - 1) : Nat) : Int) == 0) = false := by rw [beq_eq_false_iff_ne]; omega
        have HZ := Lib.hid hz
        clear hz
        go_wp2
        go_ret
        exact ⟨ret_slice (by rw [ht.out, trimL_stop h0 hk HZ.out]), rfl⟩
    · go_wp2
      go_ret
      obtain rfl : k = 0 := by omega
      exact ⟨ret_slice (by rw [ht.out]; rfl), rfl⟩

/-- the call returns a slice that reads as the digits of n -/
def RetD (k : IntKind) (M n : Nat) (w : World) (e : Ending) (w' : World) : Prop :=
  ∃ A c, e = .returned (.slice A (digs M n).length c) ∧ (digs M n).length ≤ c ∧ RdAt w' k A (digs M n) ∧ Below w.heap.size w w'

/-- out of a block of the call's own that was trimmed -/
theorem RetD.of_blk {k : IntKind} {t : TypeId} {M n b c : Nat} {w w' : World} {zs : List Nat} (hb : Blk w' k t b zs) (hl : Below w.heap.size w w') (hz : trimL zs = digs M n) (hc : zs.length ≤ c) :
    RetD k M n w (.returned (.slice (some ⟨b, 0, none⟩) (trimL zs).length c)) w' := by
  refine ⟨some ⟨b, 0, none⟩, c, by rw [hz], ?_, ?_, hl⟩
  · rw [← hz]; have := trimL_length_le zs; omega
  · rw [← hz]; exact hb.rd.trimL

set_option maxHeartbeats 1000000 in
set_option maxRecDepth 100000 in
theorem add_lists_lt (A B : Option Addr) (c d : Nat) (xs ys : List Nat) (w : World) (hx : RdAt w .u32 A xs) (hy : RdAt w .u32 B ys) (hl : xs.length ≤ 1000000000) (hm : ys.length ≤ 1000000000) (hc : xs.length ≤ c) (hd : ys.length ≤ d)
   (dx : Dig 4294967296 xs) (dy : Dig 4294967296 ys) (hlt : xs.length < ys.length) :
    Calls Tryd.prog 40 #[.slice A xs.length c, .slice B ys.length d] w (RetD .u32 4294967296 (val 4294967296 xs + val 4294967296 ys) w) := by
  obtain ⟨w1, hmk, hbk, HW, hsz⟩ := make_nat w ((ys.length : Int) + 1) (by omega) (by omega)
  have HS := Lib.hid hsz
  have HB := Lib.hid hbk
  clear hsz hbk
  have HX := Lib.hid hx
  have HY := Lib.hid hy
  have HDX := Lib.hid dx
  have HDY := Lib.hid dy
  clear hx hy dx dy
  go_enter Tryd.func40, Tryd.ntmps40
  go_wp2
  go_loopw [6, 23] (fun v6 v23 wr => ∃ (k cy : Nat) (zs : List Nat), k ≤ ys.length ∧ cy ≤ 1 ∧ v23 = .int .i64 k ∧ v6 = .int .u32 cy ∧ Hid (Blk wr .u32 58 w.heap.size zs) ∧ Hid (zs.length = ys.length + 1) ∧ Hid (Dig 4294967296 zs) ∧ Hid (val 4294967296 (zs.take k) + 4294967296 ^ k * cy = val 4294967296 (ys.take k) + val 4294967296 (xs.take k)) ∧ Below w.heap.size w wr) (fun _ v23 _ => ys.length - (intOf v23).toNat)
  case atStart => exact ⟨0, 0, _, by omega, by omega, rfl, rfl, HB, Lib.hid (by simp), Lib.hid (Dig.replicate (by decide) _), Lib.hid (by simp [val]), HW⟩
  case round =>
    obtain ⟨k, cy, zs, hk, hcy, rfl, rfl, hB, hz, hdz, hv, hbl⟩ := hrel
    clear HB HS HW hmk
    by_cases hkl : k < ys.length
    · obtain ⟨b, o, rfl, hcl⟩ := HY.out k hkl
      have hcl' := below_cell hbl hcl (lt_of_cell hcl)
      have hg1 := HDY.out.gd (by decide) k
      have hlz : k < zs.length := by rw [hz.out]; omega
      have hcz := hB.out.cell hlz
      have hfz := hB.out.free k
      by_cases hkx : k < xs.length
      · obtain ⟨b1, o1, rfl, hcl1⟩ := HX.out k hkx
        have hcl1' := below_cell hbl hcl1 (lt_of_cell hcl1)
        have hg2 := HDX.out.gd (by decide) k
        clear hcl hcl1 hlz
        go_wp2_with (go_at_call 64; refine (add32_any _ _ _ _ (by omega) (by omega) (by omega) (by omega) (by omega) (by omega)).mono ?_; rintro e w' ⟨rfl, rfl⟩)
        go_roundw
        case rel =>
          refine ⟨k + 1, (((gd ys k : Nat) : Int) + (gd xs k : Nat) + cy).toNat / 4294967296, zs.set k ((((gd ys k : Nat) : Int) + (gd xs k : Nat) + cy) % 4294967296).toNat, by omega, by omega, by go_num, ?_, Lib.hid (hB.out.setI k (by omega)), Lib.hid (by simp [hz.out]), Lib.hid (hdz.out.set _ _ (by omega)), Lib.hid (add_step _ _ _ _ _ _ _ _ (by rw [hz.out]; omega) hv.out (by omega)), hbl.setCell (Nat.le_refl _) _⟩
          first | rfl | (congr 1; omega)
        case measure => simp [intOf]; omega
      · have hg2 := gd_behind (Nat.le_of_not_lt hkx)
        have HG2 := Lib.hid hg2
        clear hcl hlz hg2
        go_wp2_with (go_at_call 64; refine (add32_any _ _ _ _ (by omega) (by omega) (by omega) (by omega) (by omega) (by omega)).mono ?_; rintro e w' ⟨rfl, rfl⟩)
        go_roundw
        case rel =>
          have hg2 := HG2.out
          refine ⟨k + 1, (((gd ys k : Nat) : Int) + 0 + cy).toNat / 4294967296, zs.set k ((((gd ys k : Nat) : Int) + 0 + cy) % 4294967296).toNat, by omega, by omega, by go_num, ?_, Lib.hid (hB.out.setI k (by omega)), Lib.hid (by simp [hz.out]), Lib.hid (hdz.out.set _ _ (by omega)), Lib.hid (add_step _ _ _ _ _ _ _ _ (by rw [hz.out]; omega) hv.out (by omega)), hbl.setCell (Nat.le_refl _) _⟩
          first | rfl | (congr 1; omega)
        case measure => simp [intOf]; omega
    · obtain rfl : k = ys.length := by omega
      have hcz := hB.out.cell (i := ys.length) (by rw [hz.out]; omega)
      have hfz := hB.out.free ys.length
      have hB2 := Lib.hid (hB.out.set ys.length cy)
      have hle : xs.length ≤ ys.length := by omega
      go_wp2_with (go_at_call 59; refine (trim_any _ _ _ (zs.set ys.length cy) _ (by rw [Hid, List.length_set]; exact hz.out) (Lib.hid hB2.out.rd) (by omega) (by omega)).mono ?_; rintro e w' ⟨rfl, rfl⟩)
      go_ret
      have := add_end (by decide) zs ys xs _ cy hz.out (Nat.le_refl _) hle hdz.out (by omega) hv.out
      exact RetD.of_blk hB2.out (hbl.setCell (Nat.le_refl _) _) (this.trans (congrArg _ (by omega))) (by simp [hz.out])
set_option maxHeartbeats 1000000 in
set_option maxRecDepth 100000 in
theorem add_lists_ge (A B : Option Addr) (c d : Nat) (xs ys : List Nat) (w : World) (hx : RdAt w .u32 A xs) (hy : RdAt w .u32 B ys) (hl : xs.length ≤ 1000000000) (hm : ys.length ≤ 1000000000) (hc : xs.length ≤ c) (hd : ys.length ≤ d)
   (dx : Dig 4294967296 xs) (dy : Dig 4294967296 ys) (hlt : ¬ xs.length < ys.length) :
    Calls Tryd.prog 40 #[.slice A xs.length c, .slice B ys.length d] w (RetD .u32 4294967296 (val 4294967296 xs + val 4294967296 ys) w) := by
  obtain ⟨w1, hmk, hbk, HW, hsz⟩ := make_nat w ((xs.length : Int) + 1) (by omega) (by omega)
  have HS := Lib.hid hsz
  have HB := Lib.hid hbk
  clear hsz hbk
  have HX := Lib.hid hx
  have HY := Lib.hid hy
  have HDX := Lib.hid dx
  have HDY := Lib.hid dy
  clear hx hy dx dy
  go_enter Tryd.func40, Tryd.ntmps40
  go_wp2
  go_loopw [6, 23] (fun v6 v23 wr => ∃ (k cy : Nat) (zs : List Nat), k ≤ xs.length ∧ cy ≤ 1 ∧ v23 = .int .i64 k ∧ v6 = .int .u32 cy ∧ Hid (Blk wr .u32 58 w.heap.size zs) ∧ Hid (zs.length = xs.length + 1) ∧ Hid (Dig 4294967296 zs) ∧ Hid (val 4294967296 (zs.take k) + 4294967296 ^ k * cy = val 4294967296 (xs.take k) + val 4294967296 (ys.take k)) ∧ Below w.heap.size w wr) (fun _ v23 _ => xs.length - (intOf v23).toNat)
  case atStart => exact ⟨0, 0, _, by omega, by omega, rfl, rfl, HB, Lib.hid (by simp), Lib.hid (Dig.replicate (by decide) _), Lib.hid (by simp [val]), HW⟩
  case round =>
    obtain ⟨k, cy, zs, hk, hcy, rfl, rfl, hB, hz, hdz, hv, hbl⟩ := hrel
    clear HB HS HW hmk
    by_cases hkl : k < xs.length
    · obtain ⟨b, o, rfl, hcl⟩ := HX.out k hkl
      have hcl' := below_cell hbl hcl (lt_of_cell hcl)
      have hg1 := HDX.out.gd (by decide) k
      have hlz : k < zs.length := by rw [hz.out]; omega
      have hcz := hB.out.cell hlz
      have hfz := hB.out.free k
      by_cases hkx : k < ys.length
      · obtain ⟨b1, o1, rfl, hcl1⟩ := HY.out k hkx
        have hcl1' := below_cell hbl hcl1 (lt_of_cell hcl1)
        have hg2 := HDY.out.gd (by decide) k
        clear hcl hcl1 hlz
        go_wp2_with (go_at_call 64; refine (add32_any _ _ _ _ (by omega) (by omega) (by omega) (by omega) (by omega) (by omega)).mono ?_; rintro e w' ⟨rfl, rfl⟩)
        go_roundw
        case rel =>
          refine ⟨k + 1, (((gd xs k : Nat) : Int) + (gd ys k : Nat) + cy).toNat / 4294967296, zs.set k ((((gd xs k : Nat) : Int) + (gd ys k : Nat) + cy) % 4294967296).toNat, by omega, by omega, by go_num, ?_, Lib.hid (hB.out.setI k (by omega)), Lib.hid (by simp [hz.out]), Lib.hid (hdz.out.set _ _ (by omega)), Lib.hid (add_step _ _ _ _ _ _ _ _ (by rw [hz.out]; omega) hv.out (by omega)), hbl.setCell (Nat.le_refl _) _⟩
          first | rfl | (congr 1; omega)
        case measure => simp [intOf]; omega
      · have hg2 := gd_behind (Nat.le_of_not_lt hkx)
        have HG2 := Lib.hid hg2
        clear hcl hlz hg2
        go_wp2_with (go_at_call 64; refine (add32_any _ _ _ _ (by omega) (by omega) (by omega) (by omega) (by omega) (by omega)).mono ?_; rintro e w' ⟨rfl, rfl⟩)
        go_roundw
        case rel =>
          have hg2 := HG2.out
          refine ⟨k + 1, (((gd xs k : Nat) : Int) + 0 + cy).toNat / 4294967296, zs.set k ((((gd xs k : Nat) : Int) + 0 + cy) % 4294967296).toNat, by omega, by omega, by go_num, ?_, Lib.hid (hB.out.setI k (by omega)), Lib.hid (by simp [hz.out]), Lib.hid (hdz.out.set _ _ (by omega)), Lib.hid (add_step _ _ _ _ _ _ _ _ (by rw [hz.out]; omega) hv.out (by omega)), hbl.setCell (Nat.le_refl _) _⟩
          first | rfl | (congr 1; omega)
        case measure => simp [intOf]; omega
    · obtain rfl : k = xs.length := by omega
      have hcz := hB.out.cell (i := xs.length) (by rw [hz.out]; omega)
      have hfz := hB.out.free xs.length
      have hB2 := Lib.hid (hB.out.set xs.length cy)
      have hle : ys.length ≤ xs.length := by omega
      go_wp2_with (go_at_call 59; refine (trim_any _ _ _ (zs.set xs.length cy) _ (by rw [Hid, List.length_set]; exact hz.out) (Lib.hid hB2.out.rd) (by omega) (by omega)).mono ?_; rintro e w' ⟨rfl, rfl⟩)
      go_ret
      have := add_end (by decide) zs xs ys _ cy hz.out (Nat.le_refl _) hle hdz.out (by omega) hv.out
      exact RetD.of_blk hB2.out (hbl.setCell (Nat.le_refl _) _) (this.trans (congrArg _ (by omega))) (by simp [hz.out])

theorem add_any (A B : Option Addr) (c d x y : Nat) (w : World) (hx : RdAt w .u32 A (digs 4294967296 x)) (hy : RdAt w .u32 B (digs 4294967296 y)) (hl : (digs 4294967296 x).length ≤ 1000000000) (hm : (digs 4294967296 y).length ≤ 1000000000) (hc : (digs 4294967296 x).length ≤ c) (hd : (digs 4294967296 y).length ≤ d) :
    Calls Tryd.prog 40 #[.slice A (digs 4294967296 x).length c, .slice B (digs 4294967296 y).length d] w (RetD .u32 4294967296 (x + y) w) := by
  have dx := digs_Dig (B := 4294967296) (by decide) x
  have dy := digs_Dig (B := 4294967296) (by decide) y
  have vx := val_digs (B := 4294967296) (by decide) x
  have vy := val_digs (B := 4294967296) (by decide) y
  by_cases hlt : (digs 4294967296 x).length < (digs 4294967296 y).length
  · have := add_lists_lt A B c d _ _ w hx hy hl hm hc hd dx dy hlt
    rwa [vx, vy] at this
  · have := add_lists_ge A B c d _ _ w hx hy hl hm hc hd dx dy hlt
    rwa [vx, vy] at this
end Go.Proofs.YtboolbcckfldaaaDoor
