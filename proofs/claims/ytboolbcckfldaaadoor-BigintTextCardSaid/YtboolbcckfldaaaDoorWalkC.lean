/- The program's natural numbers: comparing, taking away, dividing by a digit, shifting and reading a machine word. -/
import Derived.Test.YtboolbcckfldaaaDoorWalkB
namespace Go.Proofs.YtboolbcckfldaaaDoor
open Go.RowKit
set_option linter.unusedVariables false
set_option linter.unusedSimpArgs false

/-- the call returns a number of the sign of x - y -/
def RetCmp (x y : Nat) (w : World) (e : Ending) (w' : World) : Prop := ∃ r : Int, e = .returned (.int .i64 r) ∧ (r < 0 ↔ x < y) ∧ (0 < r ↔ y < x) ∧ ∃ n, w' = w.drewN n

theorem RetCmp.mk {x y : Nat} {w w' : World} (r : Int) (h1 : r < 0 ↔ x < y) (h2 : 0 < r ↔ y < x) (hw : ∃ n, w' = w.drewN n) : RetCmp x y w (.returned (.int .i64 r)) w' := ⟨r, rfl, h1, h2, hw⟩

set_option maxHeartbeats 1000000 in
set_option maxRecDepth 100000 in
theorem compare_any (A B : Option Addr) (c d x y : Nat) (w : World) (hx : RdAt w .u32 A (digs 4294967296 x)) (hy : RdAt w .u32 B (digs 4294967296 y)) (hl : (digs 4294967296 x).length ≤ 1000000000) (hm : (digs 4294967296 y).length ≤ 1000000000) :
    Calls Tryd.prog 41 #[.slice A (digs 4294967296 x).length c, .slice B (digs 4294967296 y).length d] w (RetCmp x y w) := by
  have HX := Lib.hid hx
  have HY := Lib.hid hy
  clear hx hy
  generalize hxs : digs 4294967296 x = xs at *
  generalize hys : digs 4294967296 y = ys at *
  have HXS := Lib.hid hxs
  have HYS := Lib.hid hys
  clear hxs hys
  by_cases hne : xs.length = ys.length
  · have hq : ((xs.length : Int) != (ys.length : Int)) = false := by simp [hne]
    have HN := Lib.hid hne
    clear hne
    go_enter Tryd.func41, Tryd.ntmps41
    go_wp2
    go_loopw [5] (fun v5 wr => ∃ k n : Nat, k ≤ xs.length ∧ v5 = .int .i64 ((k : Int) - 1) ∧ Hid (val 4294967296 (xs.drop k) = val 4294967296 (ys.drop k)) ∧ wr = w.drewN n) (fun v5 _ => (intOf v5 + 1).toNat)
    case atStart => exact ⟨xs.length, 0, Nat.le_refl _, rfl, Lib.hid (by rw [List.drop_length, HN.out, List.drop_length]), rfl⟩
    case round =>
      obtain ⟨k, n, hk, rfl, hv, rfl⟩ := hrel
      rcases Nat.eq_zero_or_pos k with rfl | hkp
      · rw [show (((0 : Nat) : Int) - 1) = -1 from rfl]
        go_wp2
        go_ret
        have he : x = y := by
          have := hv.out
          rw [List.drop_zero, List.drop_zero, ← HXS.out, ← HYS.out, val_digs (by decide), val_digs (by decide)] at this
          exact this
        exact RetCmp.mk 0 (by omega) (by omega) (by first | exact ⟨_, rfl⟩ | (simp only [World.drewN_drewN]; exact ⟨_, rfl⟩))
      · obtain ⟨m, rfl⟩ : ∃ m, k = m + 1 := ⟨k - 1, by omega⟩
        rw [show (((m + 1 : Nat) : Int) - 1) = (m : Int) from by omega]
        obtain ⟨b, o, rfl, hcl⟩ := HX.out m (by omega)
        obtain ⟨b1, o1, rfl, hcl1⟩ := HY.out m (by rw [← HN.out]; omega)
        have hmy : m < ys.length := by rw [← HN.out]; omega
        have hdx : Hid (Dig 4294967296 xs) := by rw [← HXS.out]; exact digs_Dig (by decide) x
        have hdy : Hid (Dig 4294967296 ys) := by rw [← HYS.out]; exact digs_Dig (by decide) y
        have hvx : Hid (val 4294967296 xs = x) := by rw [← HXS.out]; exact val_digs (by decide) x
        have hvy : Hid (val 4294967296 ys = y) := by rw [← HYS.out]; exact val_digs (by decide) y
        have j1 : (m : Int) < (xs.length : Int) := by omega
        have j2 : (m : Int) < (ys.length : Int) := by omega
        have j3 : (0 : Int) ≤ (m : Int) := by omega
        by_cases hg : gd xs m < gd ys m
        · have hg' : decide (gd xs m < gd ys m) = true := by simpa using hg
          have HG := Lib.hid hg
          clear hg
          go_wp2
          go_quiet (fail)
          go_wp2
          go_ret
          have hlt := val_top_lt hdx.out hdy.out (by omega) HN.out hv.out HG.out
          rw [hvx.out, hvy.out] at hlt
          exact RetCmp.mk (-1) (by omega) (by omega) (by first | exact ⟨_, rfl⟩ | (simp only [World.drewN_drewN]; exact ⟨_, rfl⟩))
        · have hg' : decide (gd xs m < gd ys m) = false := by simpa using hg
          by_cases hg2 : gd ys m < gd xs m
          · have hg2' : decide (gd ys m < gd xs m) = true := by simpa using hg2
            have HG := Lib.hid hg2
            clear hg hg2
            go_wp2
            go_quiet (fail)
            go_wp2
            go_quiet (fail)
            go_wp2
            go_ret
            have hlt := val_top_lt hdy.out hdx.out (by omega) HN.out.symm hv.out.symm HG.out
            rw [hvx.out, hvy.out] at hlt
            exact RetCmp.mk 1 (by omega) (by omega) (by first | exact ⟨_, rfl⟩ | (simp only [World.drewN_drewN]; exact ⟨_, rfl⟩))
          · have hg2' : decide (gd ys m < gd xs m) = false := by simpa using hg2
            have HG : Hid (gd xs m = gd ys m) := Lib.hid (by omega)
            clear hg hg2
            go_wp2
            go_quiet (fail)
            go_wp2
            go_quiet (fail)
            go_wp2
            go_roundw
            case rel => exact ⟨m, _, by omega, rfl, Lib.hid (val_drop_eq (by omega) HN.out hv.out HG.out), by first | rfl | (simp only [World.drewN_drewN]; rfl)⟩
            case measure => simp [intOf]
  · have hq : ((xs.length : Int) != (ys.length : Int)) = true := by rw [bne_iff_ne]; omega
    have HN := Lib.hid hne
    clear hne
    go_enter Tryd.func41, Tryd.ntmps41
    go_wp2
    go_ret
    have h1 : xs.length < ys.length → x < y := fun h => by
      rw [← HXS.out, ← HYS.out] at h; exact digs_len_lt (by decide) h
    have h2 : ys.length < xs.length → y < x := fun h => by
      rw [← HXS.out, ← HYS.out] at h; exact digs_len_lt (by decide) h
    have h3 := HN.out
    exact RetCmp.mk _ (by omega) (by omega) ⟨0, rfl⟩

set_option maxHeartbeats 1000000 in
set_option maxRecDepth 100000 in
theorem less_lists (A B : Option Addr) (c d : Nat) (xs ys : List Nat) (w : World) (hx : RdAt w .u32 A xs) (hy : RdAt w .u32 B ys) (hl : xs.length ≤ 1000000000) (hm : ys.length ≤ xs.length) (dx : Dig 4294967296 xs) (dy : Dig 4294967296 ys) (hle : val 4294967296 ys ≤ val 4294967296 xs) :
    Calls Tryd.prog 42 #[.slice A xs.length c, .slice B ys.length d] w (RetD .u32 4294967296 (val 4294967296 xs - val 4294967296 ys) w) := by
  obtain ⟨w1, hmk, hbk, HW, hsz⟩ := make_nat w ((xs.length : Int)) (by omega) (by omega)
  have HS := Lib.hid hsz
  have HB := Lib.hid hbk
  clear hsz hbk
  have HX := Lib.hid hx
  have HY := Lib.hid hy
  have HDX := Lib.hid dx
  have HDY := Lib.hid dy
  have HLE := Lib.hid hle
  clear hx hy dx dy hle
  go_enter Tryd.func42, Tryd.ntmps42
  go_wp2
  go_loopw [6, 15] (fun v6 v15 wr => ∃ (k cy : Nat) (zs : List Nat), k ≤ xs.length ∧ cy ≤ 1 ∧ v15 = .int .i64 k ∧ v6 = .int .u32 cy ∧ Hid (Blk wr .u32 58 w.heap.size zs) ∧ Hid (zs.length = xs.length) ∧ Hid (Dig 4294967296 zs) ∧ Hid (val 4294967296 (zs.take k) + val 4294967296 (ys.take k) = val 4294967296 (xs.take k) + 4294967296 ^ k * cy) ∧ Below w.heap.size w wr) (fun _ v15 _ => xs.length - (intOf v15).toNat)
  case atStart => exact ⟨0, 0, _, by omega, by omega, rfl, rfl, HB, Lib.hid (by simp), Lib.hid (Dig.replicate (by decide) _), Lib.hid (by simp [val]), HW⟩
  case round =>
    obtain ⟨k, cy, zs, hk, hcy, rfl, rfl, hB, hz, hdz, hv, hbl⟩ := hrel
    clear HB HS HW hmk
    by_cases hkl : k < xs.length
    · obtain ⟨b, o, rfl, hcl⟩ := HX.out k hkl
      have hcl' := below_cell hbl hcl (lt_of_cell hcl)
      have hg1 := HDX.out.gd (by decide) k
      have hlz : k < zs.length := by rw [hz.out]; omega
      have hcz := hB.out.cell hlz
      have hfz := hB.out.free k
      by_cases hkx : k < ys.length
      · obtain ⟨b1, o1, rfl, hcl1⟩ := HY.out k hkx
        have hcl1' := below_cell hbl hcl1 (lt_of_cell hcl1)
        have hg2 := HDY.out.gd (by decide) k
        clear hcl hcl1 hlz
        go_wp2_with (go_at_call 65; refine (sub32_any _ _ _ _ (by omega) (by omega) (by omega) (by omega) (by omega) (by omega)).mono ?_; rintro e w' ⟨rfl, rfl⟩)
        go_roundw
        case rel =>
          refine ⟨k + 1, (-((((gd xs k : Nat) : Int) - (gd ys k : Nat) - cy) / 4294967296)).toNat, zs.set k ((((gd xs k : Nat) : Int) - (gd ys k : Nat) - cy) % 4294967296).toNat, by omega, by omega, by go_num, ?_, Lib.hid (hB.out.setI k (by omega)), Lib.hid (by simp [hz.out]), Lib.hid (hdz.out.set _ _ (by omega)), Lib.hid (less_step _ _ _ _ _ _ _ _ (by rw [hz.out]; omega) hv.out (by omega)), hbl.setCell (Nat.le_refl _) _⟩
          congr 1; omega
        case measure => simp [intOf]; omega
      · have hg2 := gd_behind (Nat.le_of_not_lt hkx)
        have HG2 := Lib.hid hg2
        clear hcl hlz hg2
        go_wp2_with (go_at_call 65; refine (sub32_any _ _ _ _ (by omega) (by omega) (by omega) (by omega) (by omega) (by omega)).mono ?_; rintro e w' ⟨rfl, rfl⟩)
        go_roundw
        case rel =>
          have hg2 := HG2.out
          refine ⟨k + 1, (-((((gd xs k : Nat) : Int) - 0 - cy) / 4294967296)).toNat, zs.set k ((((gd xs k : Nat) : Int) - 0 - cy) % 4294967296).toNat, by omega, by omega, by go_num, ?_, Lib.hid (hB.out.setI k (by omega)), Lib.hid (by simp [hz.out]), Lib.hid (hdz.out.set _ _ (by omega)), Lib.hid (less_step _ _ _ _ _ _ _ _ (by rw [hz.out]; omega) hv.out (by omega)), hbl.setCell (Nat.le_refl _) _⟩
          congr 1; omega
        case measure => simp [intOf]; omega
    · obtain rfl : k = xs.length := by omega
      go_wp2_with (go_at_call 59; refine (trim_any _ _ _ zs _ hz (Lib.hid hB.out.rd) (by omega) (by omega)).mono ?_; rintro e w' ⟨rfl, rfl⟩)
      go_ret
      exact RetD.of_blk hB.out hbl (less_end (by decide) zs xs ys cy hz.out hm hdz.out HLE.out hcy hv.out) (by rw [hz.out]; exact Nat.le_refl _)

theorem digs_len_mono {B : Nat} (hB : 2 ≤ B) {x y : Nat} (h : x ≤ y) : (digs B x).length ≤ (digs B y).length := by
  rcases Nat.lt_or_ge (digs B y).length (digs B x).length with h' | h'
  · have := digs_len_lt hB h'; omega
  · exact h'

theorem less_any (A B : Option Addr) (c d x y : Nat) (w : World) (hx : RdAt w .u32 A (digs 4294967296 x)) (hy : RdAt w .u32 B (digs 4294967296 y)) (hl : (digs 4294967296 x).length ≤ 1000000000) (hle : y ≤ x) :
    Calls Tryd.prog 42 #[.slice A (digs 4294967296 x).length c, .slice B (digs 4294967296 y).length d] w (RetD .u32 4294967296 (x - y) w) := by
  have vx := val_digs (B := 4294967296) (by decide) x
  have vy := val_digs (B := 4294967296) (by decide) y
  have := less_lists A B c d _ _ w hx hy hl (digs_len_mono (by decide) hle) (digs_Dig (by decide) x) (digs_Dig (by decide) y) (by rw [vx, vy]; exact hle)
  rwa [vx, vy] at this

end Go.Proofs.YtboolbcckfldaaaDoor
