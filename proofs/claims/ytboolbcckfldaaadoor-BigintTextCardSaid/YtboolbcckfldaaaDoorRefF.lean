import Derived.Test.YtboolbcckfldaaaDoorRefE
namespace Go.Proofs.YtboolbcckfldaaaDoor
open Go.RowKit
set_option linter.unusedVariables false
set_option linter.unusedSimpArgs false

theorem gd_zero_above {M n : Nat} (hM : 2 ≤ M) {zs : List Nat} (h : val M zs < M ^ n) (j : Nat) (hj : n ≤ j) : gd zs j = 0 := by
  have h1 := gd_le_val M zs j
  have h2 : M ^ n ≤ M ^ j := Nat.pow_le_pow_right (by omega) hj
  rcases Nat.eq_zero_or_pos (gd zs j) with h3 | h3
  · exact h3
  · have : M ^ j * 1 ≤ M ^ j * gd zs j := Nat.mul_le_mul_left _ h3
    omega
theorem times_step {M i k P Yk x y cy g s c' Z Z' : Nat} (h : Z + M ^ (i + k) * cy = P + M ^ i * (x * Yk)) (hs : Z' + M ^ (i + k + 1) * c' = Z + M ^ (i + k) * (cy + x * y)) :
    Z' + M ^ (i + (k + 1)) * c' = P + M ^ i * (x * (Yk + M ^ k * y)) := by
  have := mul_row M i k P Yk x y (Z + M ^ (i + k) * cy) h
  rw [← this, ← Nat.add_assoc i k 1, hs, Nat.mul_add]; omega
theorem mulc_le {x y : Nat} (hx : x < 16777216) (hy : y < 16777216) : x * y ≤ 281474943156225 :=
  Nat.le_trans (Nat.mul_le_mul (Nat.le_of_lt_succ hx) (Nat.le_of_lt_succ hy)) (by decide)

set_option maxHeartbeats 2000000 in
set_option maxRecDepth 100000 in
theorem Rtimes_lists (A B : Option Addr) (c d : Nat) (xs ys : List Nat) (w : World) (hx : RdAt w .i64 A xs) (hy : RdAt w .i64 B ys) (hl : xs.length ≤ 1000000000) (hm : ys.length ≤ 1000000000) (dx : Dig 16777216 xs) (dy : Dig 16777216 ys) :
    Calls Tryd.prog 60 #[.slice A xs.length c, .slice B ys.length d] w (RetD .i64 16777216 (val 16777216 xs * val 16777216 ys) w) := by
  obtain ⟨w1, hmk, hbk, HW, hsz⟩ := make_rnat w ((xs.length : Int) + ys.length) (by omega) (by omega)
  have HS := Lib.hid hsz
  have HB := Lib.hid hbk
  clear hsz hbk
  have HX := Lib.hid hx
  have HY := Lib.hid hy
  have HDX := Lib.hid dx
  have HDY := Lib.hid dy
  clear hx hy dx dy
  go_enter Tryd.func60, Tryd.ntmps60
  go_wp2_with fail
  go_loopw [6] (fun v6 wr => ∃ (i : Nat) (zs : List Nat), i ≤ xs.length ∧ v6 = .int .i64 i ∧ Hid (Blk wr .i64 3 w.heap.size zs) ∧ Hid (zs.length = xs.length + ys.length) ∧ Hid (Dig 16777216 zs) ∧ Hid (val 16777216 zs = val 16777216 (xs.take i) * val 16777216 ys) ∧ Below w.heap.size w wr) (fun v6 _ => xs.length - (intOf v6).toNat)
  case atStart => exact ⟨0, _, by omega, rfl, HB, Lib.hid (by simp; omega), Lib.hid (Dig.replicate (by decide) _), Lib.hid (by rw [val_replicate]; simp [val]), HW⟩
  case round =>
    obtain ⟨i, zs, hi, rfl, hB, hz, hdz, hv, hbl⟩ := hrel
    clear HB HS HW hmk
    by_cases hil : i < xs.length
    · obtain ⟨b, o, rfl, hcl⟩ := HX.out i hil
      have hg1 := HDX.out.gd (by decide) i
      have H0 : Hid (∀ j, i + ys.length ≤ j → gd zs j = 0) := Lib.hid (fun j hj => by
        refine gd_zero_above (M := 16777216) (n := i + ys.length) (by decide) ?_ j hj
        rw [hv.out, Nat.pow_add]
        have h1 := val_lt (HDX.out.take i)
        rw [List.length_take, Nat.min_eq_left hi] at h1
        exact Nat.mul_lt_mul'' h1 (val_lt HDY.out))
      obtain ⟨wo, rfl⟩ : ∃ wo : World, wo = wr := ⟨_, rfl⟩
      go_wp2_with fail
      go_loopw [7, 8] (fun v7 v8 wr => ∃ (k cy : Nat) (zs : List Nat), k ≤ ys.length ∧ cy < 16777216 ∧ v8 = .int .i64 k ∧ v7 = .int .i64 cy ∧ Hid (Blk wr .i64 3 w.heap.size zs) ∧ Hid (zs.length = xs.length + ys.length) ∧ Hid (Dig 16777216 zs) ∧ Hid (∀ j, i + ys.length ≤ j → gd zs j = 0) ∧ Hid (val 16777216 zs + 16777216 ^ (i + k) * cy = val 16777216 (xs.take i) * val 16777216 ys + 16777216 ^ i * (gd xs i * val 16777216 (ys.take k))) ∧ Below w.heap.size w wr) (fun _ v8 _ => ys.length - (intOf v8).toNat)
      case atStart => exact ⟨0, 0, zs, by omega, by omega, rfl, rfl, hB, hz, hdz, H0, Lib.hid (by rw [hv.out]; simp [val]), hbl⟩
      case round =>
        clear hv hbl hB hz hdz H0
        obtain ⟨k, cy, zs, hk, hcy, rfl, rfl, hB, hz, hdz, H0, hv, hbl⟩ := hrel
        by_cases hkl : k < ys.length
        · obtain ⟨b1, o1, rfl, hcl1⟩ := HY.out k hkl
          have hcl' := below_cell hbl hcl (lt_of_cell hcl)
          have hcl1' := below_cell hbl hcl1 (lt_of_cell hcl1)
          have hg2 := HDY.out.gd (by decide) k
          have hg3 := hdz.out.gd (by decide) (i + k)
          have hlz : i + k < zs.length := by rw [hz.out]; omega
          have hcz := hB.out.cell hlz
          have hfz := hB.out.free (i + k)
          have hpm := mulc_le hg1 hg2
          clear hcl1 hcl
          go_wp2_with fail
          have i1 : (0 : Int) ≤ (i : Int) + k := by omega
          have i2 : (i : Int) + k < (xs.length : Int) + ys.length := by omega
          have i3 : ((i : Int) + k).toNat = i + k := by omega
          have i4 : (0 : Int) ≤ (i : Int) := by omega
          have i5 : (i : Int) < xs.length := by omega
          have i6 : (0 : Int) ≤ (k : Int) := by omega
          have i7 : (k : Int) < ys.length := by omega
          have hpn : ((gd xs i : Nat) : Int) * ((gd ys k : Nat) : Int) = ((gd xs i * gd ys k : Nat) : Int) := by rw [Int.natCast_mul]
          have q1 : IntKind.i64.wrap ((i : Int) + k) = (i : Int) + k := wr64 (by omega) (by omega)
          have q2 : IntKind.i64.wrap (((gd xs i : Nat) : Int) * ((gd ys k : Nat) : Int)) = ((gd xs i * gd ys k : Nat) : Int) := by rw [hpn]; exact wr64 (by omega) (by omega)
          have q3 : IntKind.i64.wrap (((gd zs (i + k) : Nat) : Int) + ((gd xs i * gd ys k : Nat) : Int)) = ((gd zs (i + k) : Nat) : Int) + ((gd xs i * gd ys k : Nat) : Int) := wr64 (by omega) (by omega)
          have q4 : IntKind.i64.wrap ((cy : Int) + (((gd zs (i + k) : Nat) : Int) + ((gd xs i * gd ys k : Nat) : Int))) = (cy : Int) + (((gd zs (i + k) : Nat) : Int) + ((gd xs i * gd ys k : Nat) : Int)) := wr64 (by omega) (by omega)
          have HPN := Lib.hid hpn
          clear hpn
          go_quiet (fail)
          clear q1 q2 q3 q4 i3
          rw [HPN.out]
          clear HPN
          generalize hP : gd xs i * gd ys k = P at *
          have HP := Lib.hid hP
          clear hP
          go_wp2_with fail
          go_roundw
          case rel =>
            have hs := digit_add 16777216 zs (i + k) ((cy + (gd zs (i + k) + P)) % 16777216) ((cy + (gd zs (i + k) + P)) / 16777216) (cy + P) hlz (by omega)
            have hst := times_step (g := 0) (s := 0) hv.out (c' := (cy + (gd zs (i + k) + P)) / 16777216) (y := gd ys k) (Z' := val 16777216 (zs.set (i + k) ((cy + (gd zs (i + k) + P)) % 16777216))) (by rw [HP.out]; exact hs)
            rw [← val_take_succ'] at hst
            refine ⟨k + 1, (cy + (gd zs (i + k) + P)) / 16777216, zs.set (i + k) ((cy + (gd zs (i + k) + P)) % 16777216), by omega, by omega, by go_num, ?_, Lib.hid ?_, Lib.hid (by simp [hz.out]), Lib.hid (hdz.out.set _ _ (Nat.mod_lt _ (by decide))), Lib.hid (fun j hj => ?_), Lib.hid hst, ?_⟩
            · first | rfl | (congr 1; omega)
            · have hb := (hB.out.drewN 1).set (i + k) ((cy + (gd zs (i + k) + P)) % 16777216)
              first | exact hb | exact (hB.out.drewN _).set (i + k) ((cy + (gd zs (i + k) + P)) % 16777216)
            · rw [gd_set_ne _ _ (by omega)]; exact H0.out j hj
            · exact (below_drewN hbl _).setCell (Nat.le_refl _) _
          case measure => simp [intOf]; omega
        · obtain rfl : k = ys.length := by omega
          have hlz : i + ys.length < zs.length := by rw [hz.out]; omega
          have hcz := hB.out.cell hlz
          have hfz := hB.out.free (i + ys.length)
          go_wp2_with fail
          go_roundw
          case rel =>
            refine ⟨i + 1, zs.set (i + ys.length) cy, by omega, by go_num, Lib.hid (hB.out.set _ _), Lib.hid (by simp [hz.out]), Lib.hid (hdz.out.set _ _ hcy), Lib.hid ?_, hbl.setCell (Nat.le_refl _) _⟩
            have h1 := val_set 16777216 zs (i + ys.length) cy hlz
            rw [H0.out _ (Nat.le_refl _)] at h1
            have h2 := hv.out
            rw [take_len_val] at h2
            rw [val_take_succ', Nat.add_mul, Nat.mul_assoc, ← h2]
            omega
          case measure => simp [intOf]; omega
    · obtain rfl : i = xs.length := by omega
      go_wp2_with (go_at_call 62; refine (Rtrim_any _ _ _ zs _ hz (Lib.hid hB.out.rd) (by omega) (by omega)).mono ?_; rintro e w' ⟨rfl, rfl⟩)
      go_ret
      refine RetD.of_blk hB.out hbl ?_ (by rw [hz.out]; exact Nat.le_refl _)
      rw [← digs_val (by decide) hdz.out, hv.out, take_len_val]

theorem Rtimes_any (A B : Option Addr) (c d x y : Nat) (w : World) (hx : RdAt w .i64 A (digs 16777216 x)) (hy : RdAt w .i64 B (digs 16777216 y)) (hl : (digs 16777216 x).length ≤ 1000000000) (hm : (digs 16777216 y).length ≤ 1000000000) :
    Calls Tryd.prog 60 #[.slice A (digs 16777216 x).length c, .slice B (digs 16777216 y).length d] w (RetD .i64 16777216 (x * y) w) := by
  have := Rtimes_lists A B c d _ _ w hx hy hl hm (digs_Dig (by decide) x) (digs_Dig (by decide) y)
  rwa [val_digs (by decide), val_digs (by decide)] at this
end Go.Proofs.YtboolbcckfldaaaDoor
