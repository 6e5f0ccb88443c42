/- One digit of a long division: the guess, its correction, and what is taken away. -/
import Derived.Test.YtboolbcckfldaaaDoorWalkH
import Derived.Test.YtboolbcckfldaaaDoorNum
import Derived.Deep.DeepCutAuto
import Derived.Deep.CutBlock
namespace Go.Proofs.YtboolbcckfldaaaDoor
open Go.RowKit
set_option linter.unusedVariables false
set_option linter.unusedSimpArgs false

theorem Only.cell {b : Nat} {w w' : World} (h : Only b w w') {p : Addr} {v : Value} (hc : w.cell? p = some v) (hp : p.block ≠ b) : w'.cell? p = some v := by
  rw [World.cell?_of_block (w := w) (h.block p.block hp)]; exact hc

theorem wru64 {x : Int} (h : 0 ≤ x) (h' : x ≤ 18446744073709551615) : IntKind.u64.wrap x = x := by
  have e : IntKind.u64.wrap x = x % 18446744073709551616 := by simp [IntKind.wrap, IntKind.bits, IntKind.signed]
  rw [e]; omega
/-- the call takes a multiple away: it returns the digit, and the part holds the remainder -/
def RetDigit (t : TypeId) (b : Nat) (pre post : List Nat) (len U V : Nat) (w : World) (e : Ending) (w' : World) : Prop :=
  e = .returned (.int .u32 ((U / V : Nat) : Int)) ∧ ∃ us, us.length = len ∧ Dig 4294967296 us ∧ val 4294967296 us = U % V ∧ Blk w' .u32 t b (pre ++ (us ++ post)) ∧ Only b w w'

set_option maxHeartbeats 4000000 in
set_option maxRecDepth 100000 in
theorem digit_walk (A : Option Addr) (b c d n : Nat) (pre us post vs : List Nat) (w : World) (hB : Hid (Blk w .u32 58 b (pre ++ (us ++ post)))) (hv : Hid (RdAt w .u32 A vs)) (hne : Hid (∀ bb oo, A = some ⟨bb, oo, none⟩ → bb ≠ b))
    (hul : Hid (us.length = n + 3)) (hvl : Hid (vs.length = n + 2)) (hn : n ≤ 1000000000) (hp : pre.length ≤ 1000000000) (du : Hid (Dig 4294967296 us)) (dv : Hid (Dig 4294967296 vs)) (hc : n + 3 ≤ c) (hd : n + 2 ≤ d)
    (hnorm : 2147483648 ≤ gd vs (n + 1)) (hUV : Hid (val 4294967296 us < 4294967296 * val 4294967296 vs)) :
    Calls Tryd.prog 69 #[.slice (some ⟨b, pre.length, none⟩) (n + 3) c, .slice A (n + 2) d] w (RetDigit 58 b pre post (n + 3) (val 4294967296 us) (val 4294967296 vs) w) := by
  have HG := Lib.hid (guess_facts n hul.out hvl.out du.out dv.out hnorm hUV.out)
  have HGG := fun q => Lib.hid (guess_good n q hul.out hvl.out du.out dv.out hnorm)
  obtain ⟨bv, ov, rfl, hcv1⟩ := hv.out (n + 1) (by rw [hvl.out]; omega)
  have hcv0 := hv.out n (by rw [hvl.out]; omega)
  obtain ⟨bv', ov', he, hcv0⟩ := hcv0
  obtain ⟨rfl, rfl⟩ : bv = bv' ∧ ov = ov' := by
    have := Option.some.inj he
    exact ⟨congrArg Addr.block this, congrArg Addr.off this⟩
  clear he
  have cu : ∀ i, i < n + 3 → w.cell? ⟨b, pre.length + i, none⟩ = some (.int .u32 ((gd us i : Nat) : Int)) := fun i hi => by
    rw [hB.out.cell (by rw [List.length_append, List.length_append, hul.out]; omega), gd_mid _ _ _ _ (by rw [hul.out]; exact hi)]
  have hcu2 := cu (n + 2) (by omega)
  have hcu1 := cu (n + 1) (by omega)
  have hcu0 := cu n (by omega)
  have CU := Lib.hid cu
  clear cu
  have gu2 := du.out.gd (by decide) (n + 2)
  have gu1 := du.out.gd (by decide) (n + 1)
  have gu0 := du.out.gd (by decide) n
  have gv1 := dv.out.gd (by decide) (n + 1)
  have gv0 := dv.out.gd (by decide) n
  have ho := or_hi (gd us (n + 2)) (gd us (n + 1)) (by omega) (by omega) (by omega) (by omega)
  have j1 : ((n : Int) + 2) < (n : Int) + 3 := by omega
  have j2 : (0 : Int) ≤ (n : Int) + 2 := by omega
  have j3 : (0 : Int) ≤ (n : Int) + 2 - 1 := by omega
  have j4 : (n : Int) + 2 - 1 < (n : Int) + 3 := by omega
  have j5 : ((n : Int) + 2 - 1).toNat = n + 1 := by omega
  have j6 : ((n : Int) + 2).toNat = n + 2 := by omega
  have j7 : (n : Int) + 2 - 1 < (n : Int) + 2 := by omega
  have q1 : IntKind.i64.wrap ((n : Int) + 2 - 1) = (n : Int) + 2 - 1 := wr64 (by omega) (by omega)
  go_enter Tryd.func69, Tryd.ntmps69
  go_wp2_with fail
  go_quiet (fail)
  go_wp2_with fail
  go_quiet (fail)
  go_upto_block 0 with fail
  obtain ⟨top, htop⟩ : ∃ top : Nat, top = gd us (n + 2) * 4294967296 + gd us (n + 1) := ⟨_, rfl⟩
  obtain ⟨qt, hqt⟩ : ∃ qt : Nat, qt = val 4294967296 us / val 4294967296 vs := ⟨_, rfl⟩
  have HQT := Lib.hid hqt
  clear hqt
  have htI : ((gd us (n + 2) : Nat) : Int) * 4294967296 + ((gd us (n + 1) : Nat) : Int) = (top : Int) := by omega
  have HTOP := Lib.hid htop
  clear htop ho j5 j6 q1
  rw [htI]
  clear htI
  go_cut [7] (fun v7 wx => ∃ q m : Nat, v7 = .int .u64 q ∧ Hid (Guessed (gd vs (n + 1)) (gd vs n) top (gd us n) qt q) ∧ wx = w.drewN m)
  case first =>
    go_wp2_with fail
    go_loopw [7, 8] (fun v7 v8 wr => ∃ q r m : Nat, v7 = .int .u64 q ∧ v8 = .int .u64 r ∧ Hid (GInv (gd vs (n + 1)) top qt q r) ∧ wr = w.drewN m) (fun v7 _ _ => (intOf v7).toNat)
    case atStart =>
      obtain ⟨k1, k2, k3, k4⟩ := HG.out
      rw [← HTOP.out] at k3 k4
      rw [← HQT.out] at k4
      exact ⟨top / gd vs (n + 1), top % gd vs (n + 1), _, congrArg (Value.int .u64) (Int.natCast_ediv _ _).symm, congrArg (Value.int .u64) (Int.natCast_emod _ _).symm, Lib.hid (ginv_start hnorm gv1 k3 k4), by first | rfl | (simp only [World.drewN_drewN]; rfl)⟩
    case round =>
      obtain ⟨q, r, m, rfl, rfl, hI, rfl⟩ := hrel
      obtain ⟨hI1, hr, hI2, hq2⟩ := hI.out
      clear hI1 hI2
      by_cases hq : q < 4294967296
      · have hqd : decide ((4294967296 : Int) ≤ (q : Int)) = false := by simp; omega
        have hm := mul_lt32 (x := q) (y := gd vs n) (by omega) (by omega) (by omega) (by omega)
        obtain ⟨hm1, hm2⟩ := hm
        have ho := or_hi r (gd us n) (by omega) (by omega) (by omega) (by omega)
        have e1 : (q : Int) * (gd vs n : Nat) = ((q * gd vs n : Nat) : Int) := (Int.natCast_mul _ _).symm
        by_cases ht : (r : Int) * 4294967296 + (gd us n : Nat) < (q : Int) * (gd vs n : Nat)
        · have htd : decide ((r : Int) * 4294967296 + (gd us n : Nat) < (q : Int) * (gd vs n : Nat)) = true := by simpa using ht
          have hdn := ginv_down (u0 := gd us n) (v0 := gd vs n) hI.out (by have := HG.out.2.1; rw [← HQT.out, ← HTOP.out] at this; exact this) (by have := HG.out.1; rw [← HQT.out] at this; exact this) (.inr (by rw [e1] at ht; omega))
          obtain ⟨hq1, hdn1, hdn2⟩ := hdn
          have HD1 := Lib.hid hdn1
          have HD2 := Lib.hid hdn2
          clear ht hdn1 hdn2 e1
          have q1 : IntKind.u64.wrap ((q : Int) * (gd vs n : Nat)) = (q : Int) * (gd vs n : Nat) := wru64 (by omega) (by omega)
          have q2 : IntKind.u64.wrap ((r : Int) * 4294967296) = (r : Int) * 4294967296 := wru64 (by omega) (by omega)
          have q3 : IntKind.i64.wrap ((n : Int) + 2 - 2) = (n : Int) := by rw [wr64 (by omega) (by omega)]; omega
          go_wp2_with fail
          go_quiet (fail)
          clear q1 q2 q3
          by_cases hb : (4294967296 : Int) ≤ (r : Int) + (gd vs (n + 1) : Nat)
          · go_wp2_with fail
            go_meet
            refine ⟨q - 1, _, congrArg (Value.int .u64) (by omega), Lib.hid (guess_break HD1.out HD2.out (by omega) (by omega) gv0 (by have := HG.out.2.2.1; rw [← HTOP.out] at this; exact this)), by first | rfl | (simp only [World.drewN_drewN]; rfl)⟩
          · go_wp2_with fail
            go_roundw
            case rel => exact ⟨q - 1, r + gd vs (n + 1), _, congrArg (Value.int .u64) (by omega), congrArg (Value.int .u64) (by omega), Lib.hid ⟨HD2.out, by omega, HD1.out, by omega⟩, by first | rfl | (simp only [World.drewN_drewN]; rfl)⟩
            case measure => simp [intOf]; omega
        · have htd : decide ((r : Int) * 4294967296 + (gd us n : Nat) < (q : Int) * (gd vs n : Nat)) = false := by simpa using ht
          have hex := Lib.hid (guess_exit (u0 := gd us n) (v0 := gd vs n) hI.out hq (by rw [e1] at ht; omega))
          clear ht e1
          have q1 : IntKind.u64.wrap ((q : Int) * (gd vs n : Nat)) = (q : Int) * (gd vs n : Nat) := wru64 (by omega) (by omega)
          have q2 : IntKind.u64.wrap ((r : Int) * 4294967296) = (r : Int) * 4294967296 := wru64 (by omega) (by omega)
          have q3 : IntKind.i64.wrap ((n : Int) + 2 - 2) = (n : Int) := by rw [wr64 (by omega) (by omega)]; omega
          go_wp2_with fail
          go_quiet (fail)
          clear q1 q2 q3
          go_wp2_with fail
          go_meet
          exact ⟨q, _, rfl, hex, by first | rfl | (simp only [World.drewN_drewN]; rfl)⟩
      · have hqd : decide ((4294967296 : Int) ≤ (q : Int)) = true := by simp; omega
        have hdn := ginv_down (u0 := gd us n) (v0 := gd vs n) hI.out (by have := HG.out.2.1; rw [← HQT.out, ← HTOP.out] at this; exact this) (by have := HG.out.1; rw [← HQT.out] at this; exact this) (.inl (by omega))
        obtain ⟨hq1, hdn1, hdn2⟩ := hdn
        have HD1 := Lib.hid hdn1
        have HD2 := Lib.hid hdn2
        clear hdn1 hdn2
        go_wp2_with fail
        go_quiet (fail)
        by_cases hb : (4294967296 : Int) ≤ (r : Int) + (gd vs (n + 1) : Nat)
        · go_wp2_with fail
          go_meet
          refine ⟨q - 1, _, congrArg (Value.int .u64) (by omega), Lib.hid (guess_break HD1.out HD2.out (by omega) (by omega) gv0 (by have := HG.out.2.2.1; rw [← HTOP.out] at this; exact this)), by first | rfl | (simp only [World.drewN_drewN]; rfl)⟩
        · go_wp2_with fail
          go_roundw
          case rel => exact ⟨q - 1, r + gd vs (n + 1), _, congrArg (Value.int .u64) (by omega), congrArg (Value.int .u64) (by omega), Lib.hid ⟨HD2.out, by omega, HD1.out, by omega⟩, by first | rfl | (simp only [World.drewN_drewN]; rfl)⟩
          case measure => simp [intOf]; omega
  case rest =>
    obtain ⟨q, m, rfl, hG, rfl⟩ := hcut
    have hgood := Lib.hid ((HGG q).out (by rw [← HTOP.out, ← HQT.out]; exact hG.out))
    have hq := hG.out.1
    have hqt := Lib.hid hG.out.2.1
    clear hcu2 hcu1 hcu0 hcv1 hcv0 gu2 gu1 gu0 gv1 gv0 j1 j2 j3 j4 j7 hG HTOP HGG HG hnorm CU
    go_wp2_with fail
    go_loopw [9, 10, 83] (fun v9 v10 v83 wr => ∃ (i cy bb : Nat) (us' : List Nat), i ≤ n + 2 ∧ cy ≤ q ∧ bb ≤ 1 ∧ v9 = .int .u64 cy ∧ v10 = .int .u32 bb ∧ v83 = .int .i64 i ∧ Hid (Blk wr .u32 58 b (pre ++ (us' ++ post))) ∧ Hid (us'.length = n + 3) ∧ Hid (Dig 4294967296 us') ∧ Hid (∀ k, i ≤ k → gd us' k = gd us k) ∧
        Hid (val 4294967296 (us'.take i) + q * val 4294967296 (vs.take i) = val 4294967296 (us.take i) + 4294967296 ^ i * (cy + bb)) ∧ Only b w wr) (fun _ _ v83 _ => n + 2 - (intOf v83).toNat)
    case atStart => exact ⟨0, 0, 0, us, by omega, by omega, by omega, rfl, rfl, rfl, hB, hul, du, Lib.hid (fun _ _ => rfl), Lib.hid (by simp [val]), (Only.refl b w).drewN _⟩
    case round =>
      obtain ⟨i, cy, bb, us', hi, hcy, hbb, rfl, rfl, rfl, hB', hl', hd', hsame, hval, hon⟩ := hrel
      clear hB
      by_cases hil : i < n + 2
      · obtain ⟨bv1, ov1, he, hcv⟩ := hv.out i (by rw [hvl.out]; exact hil)
        obtain ⟨rfl, rfl⟩ : bv = bv1 ∧ ov = ov1 := by
          have := Option.some.inj he
          exact ⟨congrArg Addr.block this, congrArg Addr.off this⟩
        have hcv' := hon.cell hcv (hne.out bv ov rfl)
        have hgv := dv.out.gd (by decide) i
        have hcu := hB'.out.cell (mid_len (pre := pre) (post := post) hl'.out i (by omega))
        rw [gd_mid _ _ _ _ (by rw [hl'.out]; omega), hsame.out i (Nat.le_refl _)] at hcu
        have hfu := hB'.out.free (pre.length + i)
        have hgu := du.out.gd (by decide) i
        have hqx := mul_lt32 (x := q) (y := gd vs i) (by omega) (by omega) (by omega) (by omega)
        have hcl := carry_le (M := 4294967296) (y := gd vs i) (by decide) hcy hgv
        obtain ⟨p, hp'⟩ : ∃ p : Nat, p = q * gd vs i := ⟨_, rfl⟩
        have hpI : (q : Int) * ((gd vs i : Nat) : Int) = (p : Int) := by rw [hp']; exact (Int.natCast_mul _ _).symm
        rw [hpI] at hqx
        rw [← hp'] at hcl
        obtain ⟨hq1, hq2⟩ := hqx
        have HP := Lib.hid hp'
        have HCL := Lib.hid hcl
        clear he hcv hp' hcl
        go_wp2_with (go_at_call 65; refine (sub32_any _ _ _ _ (by omega) (by omega) (by omega) (by omega) (by omega) (by omega)).mono ?_; rintro e w' ⟨rfl, rfl⟩)
        go_roundw
        case rel =>
          have hst := sub_mul_step 4294967296 us' us vs i q cy bb (((gd us i : Int) - ((cy + p) % 4294967296 : Nat) - bb) % 4294967296).toNat (-(((gd us i : Int) - ((cy + p) % 4294967296 : Nat) - bb) / 4294967296)).toNat (by rw [hl'.out]; omega) hval.out (by rw [← HP.out]; omega)
          rw [← HP.out] at hst
          refine ⟨i + 1, (cy + p) / 4294967296, (-(((gd us i : Int) - ((cy + p) % 4294967296 : Nat) - bb) / 4294967296)).toNat, us'.set i (((gd us i : Int) - ((cy + p) % 4294967296 : Nat) - bb) % 4294967296).toNat, by omega, HCL.out, by omega, ?_, ?_, by go_num, Lib.hid ?_, Lib.hid (by rw [List.length_set]; exact hl'.out), Lib.hid (hd'.out.set _ _ (by omega)), Lib.hid ?_, Lib.hid hst, hon.set _ _⟩
          · exact congrArg (Value.int .u64) (by omega)
          · exact congrArg (Value.int .u32) (by omega)
          · rw [← set_mid pre us' post i _ (by rw [hl'.out]; omega)]
            have h1 := hB'.out.setI (pre.length + i) (x := ((gd us i : Int) - ((cy : Int) + p) % 4294967296 - bb) % 4294967296) (by omega)
            have e1 : ((gd us i : Int) - ((cy : Int) + p) % 4294967296 - bb) = ((gd us i : Int) - ((cy + p) % 4294967296 : Nat) - bb) := by omega
            rw [← e1]
            exact h1
          · intro k hk
            rw [gd_set_ne _ _ (by omega)]; exact hsame.out k (by omega)
        case measure => simp [intOf]; omega
      · obtain rfl : i = n + 2 := by omega
        have hcu := hB'.out.cell (mid_len (pre := pre) (post := post) hl'.out (n + 2) (by omega))
        rw [gd_mid _ _ _ _ (by rw [hl'.out]; omega), hsame.out (n + 2) (Nat.le_refl _)] at hcu
        have hfu := hB'.out.free (pre.length + (n + 2))
        have hgu := du.out.gd (by decide) (n + 2)
        have hV0 : Hid (0 < val 4294967296 vs) := by
          rcases Nat.eq_zero_or_pos (val 4294967296 vs) with h | h
          · have := hUV.out; rw [h] at this; omega
          · exact h
        have hb0 : Hid (gd vs (n + 2) = 0) := gd_behind (by rw [hvl.out]; exact Nat.le_refl _)
        by_cases hbo : ((cy : Int) + bb ≤ (gd us (n + 2) : Int))
        · have hst := sub_mul_step 4294967296 us' us vs (n + 2) q cy bb ((gd us (n + 2) : Int) - cy - bb).toNat 0 (by rw [hl'.out]; omega) hval.out (by rw [hb0.out, Nat.mul_zero, Nat.add_zero, Nat.mod_eq_of_lt (by omega)]; omega)
          rw [hb0.out, Nat.mul_zero, Nat.add_zero, Nat.div_eq_of_lt (by omega), val_full _ _ _ (by rw [List.length_set, hl'.out]; exact Nat.le_refl _), val_full _ vs _ (by rw [hvl.out]; omega), val_full _ us _ (by rw [hul.out]; exact Nat.le_refl _)] at hst
          have hZ := val_lt (hd'.out.set (n + 2) ((gd us (n + 2) : Int) - cy - bb).toNat (by omega))
          rw [List.length_set, hl'.out] at hZ
          obtain ⟨r1, r2⟩ := step_right hV0.out hst rfl hZ (by rw [← HQT.out]; exact hqt.out)
          have R1 := Lib.hid r1
          have R2 := Lib.hid r2
          clear hst hZ r1 r2
          go_wp2_with (go_at_call 65; refine (sub32_no _ _ _ _ (by omega) (by omega) (by omega) (by omega) (by omega) (by omega) (by omega)).mono ?_; rintro e w' ⟨rfl, rfl⟩)
          go_ret
          refine ⟨?_, us'.set (n + 2) ((gd us (n + 2) : Int) - cy - bb).toNat, by rw [List.length_set]; exact hl'.out, hd'.out.set _ _ (by omega), R2.out, ?_, hon.set _ _⟩
          · rw [← R1.out]; rfl
          · rw [← set_mid pre us' post (n + 2) _ (by rw [hl'.out]; omega)]
            exact hB'.out.setI (pre.length + (n + 2)) (by omega)
        · have hst := sub_mul_step 4294967296 us' us vs (n + 2) q cy bb ((gd us (n + 2) : Int) - cy - bb + 4294967296).toNat 1 (by rw [hl'.out]; omega) hval.out (by rw [hb0.out, Nat.mul_zero, Nat.add_zero, Nat.mod_eq_of_lt (by omega)]; omega)
          rw [hb0.out, Nat.mul_zero, Nat.add_zero, Nat.div_eq_of_lt (by omega), val_full _ _ _ (by rw [List.length_set, hl'.out]; exact Nat.le_refl _), val_full _ vs _ (by rw [hvl.out]; omega), val_full _ us _ (by rw [hul.out]; exact Nat.le_refl _)] at hst
          have hdz := hd'.out.set (n + 2) ((gd us (n + 2) : Int) - cy - bb + 4294967296).toNat (by omega)
          have hZ := val_lt hdz
          rw [List.length_set, hl'.out] at hZ
          obtain ⟨r1, r2⟩ := step_over hV0.out hst rfl hZ (by rw [← HQT.out]; exact hqt.out) hgood.out
          have hq1 : 1 ≤ q := by rw [r1]; exact Nat.le_add_left 1 _
          have R1 := Lib.hid r1
          have R2 := Lib.hid r2
          have hBz : Hid (Blk (wr.setCell ⟨b, pre.length + (n + 2), none⟩ (.int .u32 ((gd us (n + 2) : Int) - cy - bb + 4294967296))) .u32 58 b (pre ++ (us'.set (n + 2) ((gd us (n + 2) : Int) - cy - bb + 4294967296).toNat ++ post))) := by
            rw [← set_mid pre us' post (n + 2) _ (by rw [hl'.out]; omega)]
            exact Lib.hid (hB'.out.setI (pre.length + (n + 2)) (by omega))
          have hlz : Hid ((us'.set (n + 2) ((gd us (n + 2) : Int) - cy - bb + 4294967296).toNat).length = n + 3) := by rw [List.length_set]; exact hl'
          have HDZ := Lib.hid hdz
          have hoz := hon.set (pre.length + (n + 2)) (.int .u32 ((gd us (n + 2) : Int) - cy - bb + 4294967296))
          clear hst hZ r1 r2 hdz
          go_wp2_with (go_at_call 65; refine (sub32_yes _ _ _ _ (by omega) (by omega) (by omega) (by omega) (by omega) (by omega) (by omega)).mono ?_; rintro e w' ⟨rfl, rfl⟩)
          generalize us'.set (n + 2) ((gd us (n + 2) : Int) - cy - bb + 4294967296).toNat = uz at *
          clear hcu hfu hcy hbb hbo hgu
          generalize hW2 : wr.setCell ⟨b, pre.length + (n + 2), none⟩ (.int .u32 ((gd us (n + 2) : Int) - cy - bb + 4294967296)) = w2 at *
          clear hW2 hon hB' hval hsame hl' hd'
          go_loopw [13, 131] (fun v13 v131 wr => ∃ (i cc : Nat) (us2 : List Nat), i ≤ n + 2 ∧ cc ≤ 1 ∧ v13 = .int .u32 cc ∧ v131 = .int .i64 i ∧ Hid (Blk wr .u32 58 b (pre ++ (us2 ++ post))) ∧ Hid (us2.length = n + 3) ∧ Hid (Dig 4294967296 us2) ∧ Hid (∀ k, i ≤ k → gd us2 k = gd uz k) ∧
              Hid (val 4294967296 (us2.take i) + 4294967296 ^ i * cc = val 4294967296 (uz.take i) + val 4294967296 (vs.take i)) ∧ Only b w wr) (fun _ v131 _ => n + 2 - (intOf v131).toNat)
          case atStart => exact ⟨0, 0, uz, by omega, by omega, rfl, rfl, hBz, hlz, HDZ, Lib.hid (fun _ _ => rfl), Lib.hid (by simp [val]), hoz⟩
          case round =>
            clear hBz hoz
            obtain ⟨i, cc, us2, hi, hcc, rfl, rfl, hB', hl', hd', hsame, hval, hon⟩ := hrel
            by_cases hil2 : i < n + 2
            · obtain ⟨bv1, ov1, he, hcv⟩ := hv.out i (by rw [hvl.out]; exact hil2)
              obtain ⟨rfl, rfl⟩ : bv = bv1 ∧ ov = ov1 := by
                have := Option.some.inj he
                exact ⟨congrArg Addr.block this, congrArg Addr.off this⟩
              have hcv' := hon.cell hcv (hne.out bv ov rfl)
              have hgv := dv.out.gd (by decide) i
              have hcu := hB'.out.cell (mid_len (pre := pre) (post := post) hl'.out i (by omega))
              rw [gd_mid _ _ _ _ (by rw [hl'.out]; omega), hsame.out i (Nat.le_refl _)] at hcu
              have hfu := hB'.out.free (pre.length + i)
              have hgu := HDZ.out.gd (by decide) i
              clear he hcv
              go_wp2_with (go_at_call 64; refine (add32_any _ _ _ _ (by omega) (by omega) (by omega) (by omega) (by omega) (by omega)).mono ?_; rintro e w' ⟨rfl, rfl⟩)
              go_roundw
              case rel =>
                have hst := add_step 4294967296 us2 uz vs i cc ((gd uz i + gd vs i + cc) % 4294967296) ((gd uz i + gd vs i + cc) / 4294967296) (by rw [hl'.out]; omega) hval.out (by omega)
                refine ⟨i + 1, (gd uz i + gd vs i + cc) / 4294967296, us2.set i ((gd uz i + gd vs i + cc) % 4294967296), by omega, by omega, congrArg (Value.int .u32) (by omega), by go_num, Lib.hid ?_, Lib.hid (by rw [List.length_set]; exact hl'.out), Lib.hid (hd'.out.set _ _ (by omega)), Lib.hid ?_, Lib.hid hst, hon.set _ _⟩
                · rw [← set_mid pre us2 post i _ (by rw [hl'.out]; omega)]
                  exact hB'.out.set (pre.length + i) ((gd uz i + gd vs i + cc) % 4294967296)
                · intro k hk
                  rw [gd_set_ne _ _ (by omega)]; exact hsame.out k (by omega)
              case measure => simp [intOf]; omega
            · obtain rfl : i = n + 2 := by omega
              have hcu := hB'.out.cell (mid_len (pre := pre) (post := post) hl'.out (n + 2) (by omega))
              rw [gd_mid _ _ _ _ (by rw [hl'.out]; omega), hsame.out (n + 2) (Nat.le_refl _)] at hcu
              have hfu := hB'.out.free (pre.length + (n + 2))
              have hgu := HDZ.out.gd (by decide) (n + 2)
              have hgs := Lib.hid (hsame.out (n + 2) (Nat.le_refl _))
              go_wp2
              go_ret
              have hvv := hval.out
              rw [val_full _ vs _ (by rw [hvl.out]; exact Nat.le_refl _)] at hvv
              have hRl : val 4294967296 us % val 4294967296 vs < 4294967296 ^ (n + 2 + 1) := by
                have h1 := Nat.mod_lt (val 4294967296 us) hV0.out
                have h2 := val_lt dv.out
                rw [hvl.out] at h2
                have h3 : 4294967296 ^ (n + 2) ≤ 4294967296 ^ (n + 2 + 1) := Nat.pow_le_pow_right (by decide) (by omega)
                omega
              have hend := add_back_end (by decide) us2 uz (val 4294967296 vs) cc (val 4294967296 uz) (n + 2) (val 4294967296 us % val 4294967296 vs) hl'.out hgs.out hvv rfl hlz.out R2.out hRl hd'.out HDZ.out
              rw [hgs.out] at hend
              refine ⟨?_, us2.set (n + 2) ((gd uz (n + 2) + cc) % 4294967296), by rw [List.length_set]; exact hl'.out, hd'.out.set _ _ (Nat.mod_lt _ (by decide)), hend, ?_, hon.set _ _⟩
              · refine ret_int (?_ : (q : Int) - 1 = _)
                rw [R1.out]
                generalize val 4294967296 us / val 4294967296 vs = x
                omega
              · rw [← set_mid pre us2 post (n + 2) _ (by rw [hl'.out]; omega)]
                have e1 : (((gd uz (n + 2) : Nat) : Int) + (cc : Nat)) % 4294967296 = (((gd uz (n + 2) + cc) % 4294967296 : Nat) : Int) := by omega
                rw [e1]
                exact hB'.out.set (pre.length + (n + 2)) ((gd uz (n + 2) + cc) % 4294967296)
end Go.Proofs.YtboolbcckfldaaaDoor
