import Derived.Test.YtboolbcckfldaaaDoorRefC
namespace Go.Proofs.YtboolbcckfldaaaDoor
open Go.RowKit
set_option linter.unusedVariables false
set_option linter.unusedSimpArgs false

set_option maxHeartbeats 1000000 in
set_option maxRecDepth 100000 in
theorem Rplus_lists_lt (A B : Option Addr) (c d : Nat) (xs ys : List Nat) (w : World) (hx : RdAt w .i64 A xs) (hy : RdAt w .i64 B ys) (hl : xs.length ≤ 1000000000) (hm : ys.length ≤ 1000000000) (hc : xs.length ≤ c) (hd : ys.length ≤ d)
   (dx : Dig 16777216 xs) (dy : Dig 16777216 ys) (hlt : xs.length < ys.length) :
    Calls Tryd.prog 61 #[.slice A xs.length c, .slice B ys.length d] w (RetD .i64 16777216 (val 16777216 xs + val 16777216 ys) w) := by
  obtain ⟨w1, hmk, hbk, HW, hsz⟩ := make_rnat w ((ys.length : Int) + 1) (by omega) (by omega)
  have HS := Lib.hid hsz
  have HB := Lib.hid hbk
  clear hsz hbk
  have HX := Lib.hid hx
  have HY := Lib.hid hy
  have HDX := Lib.hid dx
  have HDY := Lib.hid dy
  clear hx hy dx dy
  go_enter Tryd.func61, Tryd.ntmps61
  go_wp2
  go_loopw [6, 7] (fun v6 v7 wr => ∃ (k cy : Nat) (zs : List Nat), k ≤ ys.length ∧ cy ≤ 1 ∧ v7 = .int .i64 k ∧ v6 = .int .i64 cy ∧ Hid (Blk wr .i64 3 w.heap.size zs) ∧ Hid (zs.length = ys.length + 1) ∧ Hid (Dig 16777216 zs) ∧ Hid (val 16777216 (zs.take k) + 16777216 ^ k * cy = val 16777216 (ys.take k) + val 16777216 (xs.take k)) ∧ Below w.heap.size w wr) (fun _ v7 _ => ys.length - (intOf v7).toNat)
  case atStart => exact ⟨0, 0, _, by omega, by omega, rfl, rfl, HB, Lib.hid (by simp), Lib.hid (Dig.replicate (by decide) _), Lib.hid (by simp [val]), HW⟩
  case round =>
    obtain ⟨k, cy, zs, hk, hcy, rfl, rfl, hB, hz, hdz, hv, hbl⟩ := hrel
    clear HB HS HW hmk
    by_cases hkl : k < ys.length
    · obtain ⟨b, o, rfl, hcl⟩ := HY.out k hkl
      have hcl' := below_cell hbl hcl (lt_of_cell hcl)
      have hg1 := HDY.out.gd (by decide) k
      have hlz : k < zs.length := by rw [hz.out]; omega
      have hcz := hB.out.cell hlz
      have hfz := hB.out.free k
      by_cases hkx : k < xs.length
      · obtain ⟨b1, o1, rfl, hcl1⟩ := HX.out k hkx
        have hcl1' := below_cell hbl hcl1 (lt_of_cell hcl1)
        have hg2 := HDX.out.gd (by decide) k
        clear hcl hcl1 hlz
        go_wp2_with fail
        go_roundw
        case rel =>
          refine ⟨k + 1, ((cy : Int) + (gd ys k : Nat) + (gd xs k : Nat)).toNat / 16777216, zs.set k (((cy : Int) + (gd ys k : Nat) + (gd xs k : Nat)) % 16777216).toNat, by omega, by omega, by go_num, ?_, Lib.hid (hB.out.setI k (by omega)), Lib.hid (by simp [hz.out]), Lib.hid (hdz.out.set _ _ (by omega)), Lib.hid (add_step _ _ _ _ _ _ _ _ (by rw [hz.out]; omega) hv.out (by omega)), hbl.setCell (Nat.le_refl _) _⟩
          first | rfl | (congr 1; omega)
        case measure => simp [intOf]; omega
      · have hg2 := gd_behind (Nat.le_of_not_lt hkx)
        have HG2 := Lib.hid hg2
        clear hcl hlz hg2
        go_wp2_with fail
        go_roundw
        case rel =>
          have hg2 := HG2.out
          refine ⟨k + 1, ((cy : Int) + (gd ys k : Nat)).toNat / 16777216, zs.set k (((cy : Int) + (gd ys k : Nat)) % 16777216).toNat, by omega, by omega, by go_num, ?_, Lib.hid (hB.out.setI k (by omega)), Lib.hid (by simp [hz.out]), Lib.hid (hdz.out.set _ _ (by omega)), Lib.hid (add_step _ _ _ _ _ _ _ _ (by rw [hz.out]; omega) hv.out (by omega)), hbl.setCell (Nat.le_refl _) _⟩
          first | rfl | (congr 1; omega)
        case measure => simp [intOf]; omega
    · obtain rfl : k = ys.length := by omega
      have hcz := hB.out.cell (i := ys.length) (by rw [hz.out]; omega)
      have hfz := hB.out.free ys.length
      have hB2 := Lib.hid (hB.out.set ys.length cy)
      have hle : xs.length ≤ ys.length := by omega
      go_wp2_with (go_at_call 62; refine (Rtrim_any _ _ _ (zs.set ys.length cy) _ (by rw [Hid, List.length_set]; exact hz.out) (Lib.hid hB2.out.rd) (by omega) (by omega)).mono ?_; rintro e w' ⟨rfl, rfl⟩)
      go_ret
      have := add_end (by decide) zs ys xs _ cy hz.out (Nat.le_refl _) hle hdz.out (by omega) hv.out
      exact RetD.of_blk hB2.out (hbl.setCell (Nat.le_refl _) _) (this.trans (congrArg _ (by omega))) (by simp [hz.out])
set_option maxHeartbeats 1000000 in
set_option maxRecDepth 100000 in
theorem Rplus_lists_ge (A B : Option Addr) (c d : Nat) (xs ys : List Nat) (w : World) (hx : RdAt w .i64 A xs) (hy : RdAt w .i64 B ys) (hl : xs.length ≤ 1000000000) (hm : ys.length ≤ 1000000000) (hc : xs.length ≤ c) (hd : ys.length ≤ d)
   (dx : Dig 16777216 xs) (dy : Dig 16777216 ys) (hlt : ¬ xs.length < ys.length) :
    Calls Tryd.prog 61 #[.slice A xs.length c, .slice B ys.length d] w (RetD .i64 16777216 (val 16777216 xs + val 16777216 ys) w) := by
  obtain ⟨w1, hmk, hbk, HW, hsz⟩ := make_rnat w ((xs.length : Int) + 1) (by omega) (by omega)
  have HS := Lib.hid hsz
  have HB := Lib.hid hbk
  clear hsz hbk
  have HX := Lib.hid hx
  have HY := Lib.hid hy
  have HDX := Lib.hid dx
  have HDY := Lib.hid dy
  clear hx hy dx dy
  go_enter Tryd.func61, Tryd.ntmps61
  go_wp2
  go_loopw [6, 7] (fun v6 v7 wr => ∃ (k cy : Nat) (zs : List Nat), k ≤ xs.length ∧ cy ≤ 1 ∧ v7 = .int .i64 k ∧ v6 = .int .i64 cy ∧ Hid (Blk wr .i64 3 w.heap.size zs) ∧ Hid (zs.length = xs.length + 1) ∧ Hid (Dig 16777216 zs) ∧ Hid (val 16777216 (zs.take k) + 16777216 ^ k * cy = val 16777216 (xs.take k) + val 16777216 (ys.take k)) ∧ Below w.heap.size w wr) (fun _ v7 _ => xs.length - (intOf v7).toNat)
  case atStart => exact ⟨0, 0, _, by omega, by omega, rfl, rfl, HB, Lib.hid (by simp), Lib.hid (Dig.replicate (by decide) _), Lib.hid (by simp [val]), HW⟩
  case round =>
    obtain ⟨k, cy, zs, hk, hcy, rfl, rfl, hB, hz, hdz, hv, hbl⟩ := hrel
    clear HB HS HW hmk
    by_cases hkl : k < xs.length
    · obtain ⟨b, o, rfl, hcl⟩ := HX.out k hkl
      have hcl' := below_cell hbl hcl (lt_of_cell hcl)
      have hg1 := HDX.out.gd (by decide) k
      have hlz : k < zs.length := by rw [hz.out]; omega
      have hcz := hB.out.cell hlz
      have hfz := hB.out.free k
      by_cases hkx : k < ys.length
      · obtain ⟨b1, o1, rfl, hcl1⟩ := HY.out k hkx
        have hcl1' := below_cell hbl hcl1 (lt_of_cell hcl1)
        have hg2 := HDY.out.gd (by decide) k
        clear hcl hcl1 hlz
        go_wp2_with fail
        go_roundw
        case rel =>
          refine ⟨k + 1, ((cy : Int) + (gd xs k : Nat) + (gd ys k : Nat)).toNat / 16777216, zs.set k (((cy : Int) + (gd xs k : Nat) + (gd ys k : Nat)) % 16777216).toNat, by omega, by omega, by go_num, ?_, Lib.hid (hB.out.setI k (by omega)), Lib.hid (by simp [hz.out]), Lib.hid (hdz.out.set _ _ (by omega)), Lib.hid (add_step _ _ _ _ _ _ _ _ (by rw [hz.out]; omega) hv.out (by omega)), hbl.setCell (Nat.le_refl _) _⟩
          first | rfl | (congr 1; omega)
        case measure => simp [intOf]; omega
      · have hg2 := gd_behind (Nat.le_of_not_lt hkx)
        have HG2 := Lib.hid hg2
        clear hcl hlz hg2
        go_wp2_with fail
        go_roundw
        case rel =>
          have hg2 := HG2.out
          refine ⟨k + 1, ((cy : Int) + (gd xs k : Nat)).toNat / 16777216, zs.set k (((cy : Int) + (gd xs k : Nat)) % 16777216).toNat, by omega, by omega, by go_num, ?_, Lib.hid (hB.out.setI k (by omega)), Lib.hid (by simp [hz.out]), Lib.hid (hdz.out.set _ _ (by omega)), Lib.hid (add_step _ _ _ _ _ _ _ _ (by rw [hz.out]; omega) hv.out (by omega)), hbl.setCell (Nat.le_refl _) _⟩
          first | rfl | (congr 1; omega)
        case measure => simp [intOf]; omega
    · obtain rfl : k = xs.length := by omega
      have hcz := hB.out.cell (i := xs.length) (by rw [hz.out]; omega)
      have hfz := hB.out.free xs.length
      have hB2 := Lib.hid (hB.out.set xs.length cy)
      have hle : ys.length ≤ xs.length := by omega
      go_wp2_with (go_at_call 62; refine (Rtrim_any _ _ _ (zs.set xs.length cy) _ (by rw [Hid, List.length_set]; exact hz.out) (Lib.hid hB2.out.rd) (by omega) (by omega)).mono ?_; rintro e w' ⟨rfl, rfl⟩)
      go_ret
      have := add_end (by decide) zs xs ys _ cy hz.out (Nat.le_refl _) hle hdz.out (by omega) hv.out
      exact RetD.of_blk hB2.out (hbl.setCell (Nat.le_refl _) _) (this.trans (congrArg _ (by omega))) (by simp [hz.out])
theorem Rplus_any (A B : Option Addr) (c d x y : Nat) (w : World) (hx : RdAt w .i64 A (digs 16777216 x)) (hy : RdAt w .i64 B (digs 16777216 y)) (hl : (digs 16777216 x).length ≤ 1000000000) (hm : (digs 16777216 y).length ≤ 1000000000) (hc : (digs 16777216 x).length ≤ c) (hd : (digs 16777216 y).length ≤ d) :
    Calls Tryd.prog 61 #[.slice A (digs 16777216 x).length c, .slice B (digs 16777216 y).length d] w (RetD .i64 16777216 (x + y) w) := by
  have dx := digs_Dig (B := 16777216) (by decide) x
  have dy := digs_Dig (B := 16777216) (by decide) y
  have vx := val_digs (B := 16777216) (by decide) x
  have vy := val_digs (B := 16777216) (by decide) y
  by_cases hlt : (digs 16777216 x).length < (digs 16777216 y).length
  · have := Rplus_lists_lt A B c d _ _ w hx hy hl hm hc hd dx dy hlt
    rwa [vx, vy] at this
  · have := Rplus_lists_ge A B c d _ _ w hx hy hl hm hc hd dx dy hlt
    rwa [vx, vy] at this

set_option maxHeartbeats 1000000 in
set_option maxRecDepth 100000 in
theorem Rminus_lists (A B : Option Addr) (c d : Nat) (xs ys : List Nat) (w : World) (hx : RdAt w .i64 A xs) (hy : RdAt w .i64 B ys) (hl : xs.length ≤ 1000000000) (hm : ys.length ≤ xs.length) (dx : Dig 16777216 xs) (dy : Dig 16777216 ys) (hle : val 16777216 ys ≤ val 16777216 xs) :
    Calls Tryd.prog 53 #[.slice A xs.length c, .slice B ys.length d] w (RetD .i64 16777216 (val 16777216 xs - val 16777216 ys) w) := by
  obtain ⟨w1, hmk, hbk, HW, hsz⟩ := make_rnat w ((xs.length : Int)) (by omega) (by omega)
  have HS := Lib.hid hsz
  have HB := Lib.hid hbk
  clear hsz hbk
  have HX := Lib.hid hx
  have HY := Lib.hid hy
  have HDX := Lib.hid dx
  have HDY := Lib.hid dy
  have HLE := Lib.hid hle
  clear hx hy dx dy hle
  go_enter Tryd.func53, Tryd.ntmps53
  go_wp2
  go_loopw [6, 7] (fun v6 v7 wr => ∃ (k cy : Nat) (zs : List Nat), k ≤ xs.length ∧ cy ≤ 1 ∧ v7 = .int .i64 k ∧ v6 = .int .i64 cy ∧ Hid (Blk wr .i64 3 w.heap.size zs) ∧ Hid (zs.length = xs.length) ∧ Hid (Dig 16777216 zs) ∧ Hid (val 16777216 (zs.take k) + val 16777216 (ys.take k) = val 16777216 (xs.take k) + 16777216 ^ k * cy) ∧ Below w.heap.size w wr) (fun _ v7 _ => xs.length - (intOf v7).toNat)
  case atStart => exact ⟨0, 0, _, by omega, by omega, rfl, rfl, HB, Lib.hid (by simp), Lib.hid (Dig.replicate (by decide) _), Lib.hid (by simp [val]), HW⟩
  case round =>
    obtain ⟨k, cy, zs, hk, hcy, rfl, rfl, hB, hz, hdz, hv, hbl⟩ := hrel
    clear HB HS HW hmk
    by_cases hkl : k < xs.length
    · obtain ⟨b, o, rfl, hcl⟩ := HX.out k hkl
      have hcl' := below_cell hbl hcl (lt_of_cell hcl)
      have hg1 := HDX.out.gd (by decide) k
      have hlz : k < zs.length := by rw [hz.out]; omega
      have hcz := hB.out.cell hlz
      have hfz := hB.out.free k
      by_cases hkx : k < ys.length
      · obtain ⟨b1, o1, rfl, hcl1⟩ := HY.out k hkx
        have hcl1' := below_cell hbl hcl1 (lt_of_cell hcl1)
        have hg2 := HDY.out.gd (by decide) k
        clear hcl hcl1 hlz
        by_cases hneg : ((gd xs k : Nat) : Int) - cy - (gd ys k : Nat) < 0
        · go_wp2_with fail
          go_roundw
          case rel =>
            refine ⟨k + 1, 1, zs.set k (((gd xs k : Nat) : Int) - cy - (gd ys k : Nat) + 16777216).toNat, by omega, by omega, by go_num, rfl, Lib.hid (hB.out.setI k (by omega)), Lib.hid (by simp [hz.out]), Lib.hid (hdz.out.set _ _ (by omega)), Lib.hid (less_step _ _ _ _ _ _ _ _ (by rw [hz.out]; omega) hv.out (by omega)), hbl.setCell (Nat.le_refl _) _⟩
          case measure => simp [intOf]; omega
        · go_wp2_with fail
          go_roundw
          case rel =>
            refine ⟨k + 1, 0, zs.set k (((gd xs k : Nat) : Int) - cy - (gd ys k : Nat)).toNat, by omega, by omega, by go_num, rfl, Lib.hid (hB.out.setI k (by omega)), Lib.hid (by simp [hz.out]), Lib.hid (hdz.out.set _ _ (by omega)), Lib.hid (less_step _ _ _ _ _ _ _ _ (by rw [hz.out]; omega) hv.out (by omega)), hbl.setCell (Nat.le_refl _) _⟩
          case measure => simp [intOf]; omega
      · have hg2 := gd_behind (Nat.le_of_not_lt hkx)
        have HG2 := Lib.hid hg2
        clear hcl hlz hg2
        by_cases hneg : ((gd xs k : Nat) : Int) - cy < 0
        · go_wp2_with fail
          go_roundw
          case rel =>
            have hg2 := HG2.out
            refine ⟨k + 1, 1, zs.set k (((gd xs k : Nat) : Int) - cy + 16777216).toNat, by omega, by omega, by go_num, rfl, Lib.hid (hB.out.setI k (by omega)), Lib.hid (by simp [hz.out]), Lib.hid (hdz.out.set _ _ (by omega)), Lib.hid (less_step _ _ _ _ _ _ _ _ (by rw [hz.out]; omega) hv.out (by omega)), hbl.setCell (Nat.le_refl _) _⟩
          case measure => simp [intOf]; omega
        · go_wp2_with fail
          go_roundw
          case rel =>
            have hg2 := HG2.out
            refine ⟨k + 1, 0, zs.set k (((gd xs k : Nat) : Int) - cy).toNat, by omega, by omega, by go_num, rfl, Lib.hid (hB.out.setI k (by omega)), Lib.hid (by simp [hz.out]), Lib.hid (hdz.out.set _ _ (by omega)), Lib.hid (less_step _ _ _ _ _ _ _ _ (by rw [hz.out]; omega) hv.out (by omega)), hbl.setCell (Nat.le_refl _) _⟩
          case measure => simp [intOf]; omega
    · obtain rfl : k = xs.length := by omega
      go_wp2_with (go_at_call 62; refine (Rtrim_any _ _ _ zs _ hz (Lib.hid hB.out.rd) (by omega) (by omega)).mono ?_; rintro e w' ⟨rfl, rfl⟩)
      go_ret
      exact RetD.of_blk hB.out hbl (less_end (by decide) zs xs ys cy hz.out hm hdz.out HLE.out hcy hv.out) (by rw [hz.out]; exact Nat.le_refl _)


theorem Rminus_any (A B : Option Addr) (c d x y : Nat) (w : World) (hx : RdAt w .i64 A (digs 16777216 x)) (hy : RdAt w .i64 B (digs 16777216 y)) (hl : (digs 16777216 x).length ≤ 1000000000) (hle : y ≤ x) :
    Calls Tryd.prog 53 #[.slice A (digs 16777216 x).length c, .slice B (digs 16777216 y).length d] w (RetD .i64 16777216 (x - y) w) := by
  have vx := val_digs (B := 16777216) (by decide) x
  have vy := val_digs (B := 16777216) (by decide) y
  have := Rminus_lists A B c d _ _ w hx hy hl (digs_len_mono (by decide) hle) (digs_Dig (by decide) x) (digs_Dig (by decide) y) (by rw [vx, vy]; exact hle)
  rwa [vx, vy] at this


end Go.Proofs.YtboolbcckfldaaaDoor
