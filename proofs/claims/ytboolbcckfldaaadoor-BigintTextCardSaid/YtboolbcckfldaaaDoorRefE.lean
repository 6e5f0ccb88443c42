import Derived.Test.YtboolbcckfldaaaDoorRefD
namespace Go.Proofs.YtboolbcckfldaaaDoor
open Go.RowKit
set_option linter.unusedVariables false
set_option linter.unusedSimpArgs false

def cmpN (x y : Nat) : Int := if x < y then -1 else if y < x then 1 else 0
theorem cmpN_lt {x y : Nat} (h : x < y) : cmpN x y = -1 := if_pos h
theorem cmpN_gt {x y : Nat} (h : y < x) : cmpN x y = 1 := by unfold cmpN; rw [if_neg (by omega), if_pos h]
theorem cmpN_eq {x y : Nat} (h : x = y) : cmpN x y = 0 := by unfold cmpN; rw [if_neg (by omega), if_neg (by omega)]
def RetOrd (x y : Nat) (w : World) (e : Ending) (w' : World) : Prop := e = .returned (.int .i64 (cmpN x y)) ∧ ∃ n, w' = w.drewN n
theorem RetOrd.mk {x y : Nat} {w w' : World} {r : Int} (h : cmpN x y = r) (hw : ∃ n, w' = w.drewN n) : RetOrd x y w (.returned (.int .i64 r)) w' := ⟨by rw [h], hw⟩
theorem RetOrd.below {x y : Nat} {w w' : World} {e : Ending} (h : RetOrd x y w e w') : RetN (cmpN x y) w e w' := by
  obtain ⟨h1, n, rfl⟩ := h
  exact ⟨h1, below_drewN (Below.refl _ _) n⟩

set_option maxHeartbeats 1000000 in
set_option maxRecDepth 100000 in
theorem Rorder_any (A B : Option Addr) (c d x y : Nat) (w : World) (hx : RdAt w .i64 A (digs 16777216 x)) (hy : RdAt w .i64 B (digs 16777216 y)) (hl : (digs 16777216 x).length ≤ 1000000000) (hm : (digs 16777216 y).length ≤ 1000000000) :
    Calls Tryd.prog 52 #[.slice A (digs 16777216 x).length c, .slice B (digs 16777216 y).length d] w (RetOrd x y w) := by
  have HX := Lib.hid hx
  have HY := Lib.hid hy
  clear hx hy
  generalize hxs : digs 16777216 x = xs at *
  generalize hys : digs 16777216 y = ys at *
  have HXS := Lib.hid hxs
  have HYS := Lib.hid hys
  clear hxs hys
  by_cases hne : xs.length = ys.length
  · have hq : ((xs.length : Int) != (ys.length : Int)) = false := by simp [hne]
    have HN := Lib.hid hne
    clear hne
    go_enter Tryd.func52, Tryd.ntmps52
    go_wp2_with fail
    go_loopw [5] (fun v5 wr => ∃ k n : Nat, k ≤ xs.length ∧ v5 = .int .i64 ((k : Int) - 1) ∧ Hid (val 16777216 (xs.drop k) = val 16777216 (ys.drop k)) ∧ wr = w.drewN n) (fun v5 _ => (intOf v5 + 1).toNat)
    case atStart => exact ⟨xs.length, 0, Nat.le_refl _, rfl, Lib.hid (by rw [List.drop_length, HN.out, List.drop_length]), rfl⟩
    case round =>
      obtain ⟨k, n, hk, rfl, hv, rfl⟩ := hrel
      rcases Nat.eq_zero_or_pos k with rfl | hkp
      · rw [show (((0 : Nat) : Int) - 1) = -1 from rfl]
        go_wp2_with fail
        go_ret
        have he : x = y := by
          have := hv.out
          rw [List.drop_zero, List.drop_zero, ← HXS.out, ← HYS.out, val_digs (by decide), val_digs (by decide)] at this
          exact this
        exact RetOrd.mk (cmpN_eq he) (by first | exact ⟨_, rfl⟩ | (simp only [World.drewN_drewN]; exact ⟨_, rfl⟩))
      · obtain ⟨m, rfl⟩ : ∃ m, k = m + 1 := ⟨k - 1, by omega⟩
        rw [show (((m + 1 : Nat) : Int) - 1) = (m : Int) from by omega]
        obtain ⟨b, o, rfl, hcl⟩ := HX.out m (by omega)
        obtain ⟨b1, o1, rfl, hcl1⟩ := HY.out m (by rw [← HN.out]; omega)
        have hmy : m < ys.length := by rw [← HN.out]; omega
        have hdx : Hid (Dig 16777216 xs) := by rw [← HXS.out]; exact digs_Dig (by decide) x
        have hdy : Hid (Dig 16777216 ys) := by rw [← HYS.out]; exact digs_Dig (by decide) y
        have hvx : Hid (val 16777216 xs = x) := by rw [← HXS.out]; exact val_digs (by decide) x
        have hvy : Hid (val 16777216 ys = y) := by rw [← HYS.out]; exact val_digs (by decide) y
        have j1 : (m : Int) < (xs.length : Int) := by omega
        have j2 : (m : Int) < (ys.length : Int) := by omega
        have j3 : (0 : Int) ≤ (m : Int) := by omega
        by_cases he : gd xs m = gd ys m
        · have hg' : (((gd xs m : Nat) : Int) != ((gd ys m : Nat) : Int)) = false := by rw [he]; simp
          have HG := Lib.hid he
          clear he
          go_wp2_with fail
          go_quiet (fail)
          go_wp2_with fail
          go_roundw
          case rel => exact ⟨m, _, by omega, rfl, Lib.hid (val_drop_eq (by omega) HN.out hv.out HG.out), by first | rfl | (simp only [World.drewN_drewN]; rfl)⟩
          case measure => simp [intOf]
        · have hg' : (((gd xs m : Nat) : Int) != ((gd ys m : Nat) : Int)) = true := by rw [bne_iff_ne]; omega
          by_cases hg : gd xs m < gd ys m
          · have hg2' : decide (gd xs m < gd ys m) = true := by simpa using hg
            have HG := Lib.hid hg
            clear hg he
            go_wp2_with fail
            go_quiet (fail)
            go_wp2_with fail
            go_quiet (fail)
            go_wp2_with fail
            go_ret
            have hlt := val_top_lt hdx.out hdy.out (by omega) HN.out hv.out HG.out
            rw [hvx.out, hvy.out] at hlt
            exact RetOrd.mk (cmpN_lt hlt) (by first | exact ⟨_, rfl⟩ | (simp only [World.drewN_drewN]; exact ⟨_, rfl⟩))
          · have hg2' : decide (gd xs m < gd ys m) = false := by simpa using hg
            have HG : Hid (gd ys m < gd xs m) := Lib.hid (by omega)
            clear hg he
            go_wp2_with fail
            go_quiet (fail)
            go_wp2_with fail
            go_quiet (fail)
            go_wp2_with fail
            go_ret
            have hlt := val_top_lt hdy.out hdx.out (by omega) HN.out.symm hv.out.symm HG.out
            rw [hvx.out, hvy.out] at hlt
            exact RetOrd.mk (cmpN_gt hlt) (by first | exact ⟨_, rfl⟩ | (simp only [World.drewN_drewN]; exact ⟨_, rfl⟩))
  · have hq : ((xs.length : Int) != (ys.length : Int)) = true := by rw [bne_iff_ne]; omega
    have HN := Lib.hid hne
    clear hne
    by_cases hlt : xs.length < ys.length
    · have h1 : x < y := by
        have := hlt
        rw [← HXS.out, ← HYS.out] at this; exact digs_len_lt (by decide) this
      go_enter Tryd.func52, Tryd.ntmps52
      go_wp2_with fail
      go_ret
      exact RetOrd.mk (cmpN_lt h1) ⟨0, rfl⟩
    · have h1 : y < x := by
        have h3 := HN.out
        have : ys.length < xs.length := by omega
        rw [← HXS.out, ← HYS.out] at this; exact digs_len_lt (by decide) this
      go_enter Tryd.func52, Tryd.ntmps52
      go_wp2_with fail
      go_ret
      exact RetOrd.mk (cmpN_gt h1) ⟨0, rfl⟩
end Go.Proofs.YtboolbcckfldaaaDoor
