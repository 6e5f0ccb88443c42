/- Long division of the program's natural numbers: the divisor has two digits or more. -/
import Derived.Test.YtboolbcckfldaaaDoorWalkJ
namespace Go.Proofs.YtboolbcckfldaaaDoor
open Go.RowKit
set_option linter.unusedVariables false
set_option linter.unusedSimpArgs false

theorem lz32_any (x : Nat) (w : World) (h : x < 4294967296) (h0 : x ≠ 0) :
    Calls Tryd.prog 67 #[.int .u32 (x : Int)] w fun e w' => e = .returned (.int .i64 ((32 - Lib.bitLen x : Nat) : Int)) ∧ w = w' := by
  refine (Tryd.bits_LeadingZeros32 x w (by omega) (by omega)).mono ?_
  rintro e w' ⟨rfl, rfl⟩
  have := (bitLen32 h h0).2.1
  exact ⟨ret_int (by rw [Int.toNat_natCast]; omega), rfl⟩

theorem norm_facts {ys : List Nat} (n : Nat) (hl : ys.length = n + 2) (d : Dig 4294967296 ys) (h0 : gd ys (n + 1) ≠ 0) :
    4294967296 ^ (n + 1) * 2147483648 ≤ val 4294967296 ys * 2 ^ (32 - Lib.bitLen (gd ys (n + 1))) ∧ val 4294967296 ys * 2 ^ (32 - Lib.bitLen (gd ys (n + 1))) < 4294967296 ^ (n + 2) := by
  obtain ⟨_, _, h1, h2⟩ := bitLen32 (d.gd (by decide) (n + 1)) h0
  generalize 2 ^ (32 - Lib.bitLen (gd ys (n + 1))) = p at *
  have h3 := val_split 4294967296 ys (n + 1) (by omega)
  have h4 := val_drop 4294967296 ys (n + 1) (by omega)
  rw [List.drop_of_length_le (show ys.length ≤ n + 1 + 1 by omega)] at h4
  simp only [val, Nat.mul_zero, Nat.add_zero] at h4
  have h5 := val_lt (d.take (n + 1))
  rw [List.length_take, Nat.min_eq_left (by omega)] at h5
  rw [h4] at h3
  generalize gd ys (n + 1) = g at *
  generalize hP : 4294967296 ^ (n + 1) = P at *
  have hP2 : 4294967296 ^ (n + 2) = P * 4294967296 := by rw [← hP, ← Nat.pow_succ]
  rw [hP2, h3]
  have a1 : P * 2147483648 ≤ P * (g * p) := Nat.mul_le_mul_left _ h1
  have a2 : P * ((g + 1) * p) ≤ P * 4294967296 := Nat.mul_le_mul_left _ h2
  have hp : 0 < p := by
    rcases Nat.eq_zero_or_pos p with h | h
    · subst h; omega
    · exact h
  have a3 : (val 4294967296 (ys.take (n + 1)) + P * g) * p < (P + P * g) * p := Nat.mul_lt_mul_of_pos_right (by omega) hp
  have e1 : (P + P * g) * p = P * ((g + 1) * p) := by
    rw [Nat.add_mul g 1, Nat.one_mul, Nat.mul_add, Nat.add_mul, ← Nat.mul_assoc P g p, Nat.add_comm]
  have e2 : (val 4294967296 (ys.take (n + 1)) + P * g) * p = val 4294967296 (ys.take (n + 1)) * p + P * (g * p) := by rw [Nat.add_mul, Nat.mul_assoc]
  omega

theorem cast_unshift (a b s : Nat) : ((a : Int) * 4294967296 + (b : Int)) / 2 ^ s % 4294967296 = (((a * 4294967296 + b) / 2 ^ s % 4294967296 : Nat) : Int) := by
  have e : ((2 : Int) ^ s) = ((2 ^ s : Nat) : Int) := by rw [Int.natCast_pow]; rfl
  rw [e, Int.natCast_emod, Int.natCast_ediv, Int.natCast_add, Int.natCast_mul]; rfl

set_option maxHeartbeats 8000000 in
set_option maxRecDepth 100000 in
theorem divide_long (A B : Option Addr) (c d n e' : Nat) (xs ys : List Nat) (w : World) (hx : RdAt w .u32 A xs) (hy : RdAt w .u32 B ys) (hxl : xs.length = n + 2 + e') (hyl : ys.length = n + 2) (hl : n + e' ≤ 900000000) (dx : Dig 4294967296 xs) (dy : Dig 4294967296 ys)
    (hc : n + 2 + e' ≤ c) (hd : n + 2 ≤ d) (h0 : gd ys (n + 1) ≠ 0)
    (hcmp : ∀ w : World, RdAt w .u32 A xs → RdAt w .u32 B ys → Calls Tryd.prog 41 #[.slice A (n + 2 + e') c, .slice B (n + 2) d] w (RetCmp (val 4294967296 xs) (val 4294967296 ys) w)) (hge : val 4294967296 ys ≤ val 4294967296 xs) :
    Calls Tryd.prog 44 #[.slice A (n + 2 + e') c, .slice B (n + 2) d] w (RetDiv (val 4294967296 xs / val 4294967296 ys) (val 4294967296 xs % val 4294967296 ys) w) := by
  have HC := Lib.hid (hcmp w hx hy)
  have HX := Lib.hid hx
  have HY := Lib.hid hy
  have HXL := Lib.hid hxl
  have HYL := Lib.hid hyl
  have HDX := Lib.hid dx
  have HDY := Lib.hid dy
  have HN := Lib.hid (norm_facts n hyl dy h0)
  have HBL := Lib.hid (bitLen32 (dy.gd (by decide) (n + 1)) h0)
  obtain ⟨b, o, rfl, hct⟩ := hy (n + 1) (by omega)
  have gt := dy.gd (by decide) (n + 1)
  obtain ⟨s, hs⟩ : ∃ s, s = 32 - Lib.bitLen (gd ys (n + 1)) := ⟨_, rfl⟩
  have hs31 : s ≤ 31 := by have := HBL.out.1; omega
  have HS := Lib.hid hs
  have h1f : ((n : Int) + 2 == 1) = false := by rw [beq_eq_false_iff_ne]; omega
  clear hx hy hxl hyl dx dy hcmp hs
  go_enter Tryd.func44, Tryd.ntmps44
  go_wp2_with fail
  refine HC.out.mono ?_
  rintro e w' ⟨r, rfl, h1, h2, nd, rfl⟩
  have hr : ¬ r < 0 := fun h => by have := h1.1 h; omega
  have hr' : 0 ≤ r := by omega
  clear h1 h2 hr HC
  go_wp2_with fail
  refine (lz32_any _ _ gt h0).mono ?_
  rintro e w' ⟨rfl, rfl⟩
  rw [← HS.out]
  go_wp2_with fail
  rw [← HYL.out]
  refine (shift_lists (some ⟨b, o, none⟩) d s ys _ (HY.out.below (below_drewN (Below.refl _ _) _)) (by rw [HYL.out]; omega) HDY.out hs31).mono ?_
  rintro e w1 ⟨b1, zs1, rfl, hz1l, hd1, hv1, hB1, hb1, hbl1⟩
  rw [HYL.out] at hz1l ⊢
  have hN := HN.out
  rw [← HS.out, ← hv1] at hN
  obtain ⟨hN1, hN2⟩ := hN
  obtain ⟨vs, hvs⟩ : ∃ vs, vs = trimL zs1 := ⟨_, rfl⟩
  have HVL : Hid (vs.length = n + 2) := by
    have h1 := digs_val (by decide) hd1
    rw [← hvs] at h1
    have h2 := digs_length_le (B := 4294967296) (by decide) hN2
    have h3 : ¬ (digs 4294967296 (val 4294967296 zs1)).length ≤ n + 1 := fun h => by
      have h4 := lt_pow_digs (B := 4294967296) (by decide) (val 4294967296 zs1)
      have h5 : 4294967296 ^ (digs 4294967296 (val 4294967296 zs1)).length ≤ 4294967296 ^ (n + 1) := Nat.pow_le_pow_right (by decide) h
      have h6 : 4294967296 ^ (n + 1) * 1 ≤ 4294967296 ^ (n + 1) * 2147483648 := Nat.mul_le_mul_left _ (by decide)
      omega
    rw [h1] at h2 h3
    exact Lib.hid (by omega)
  have HVV : Hid (val 4294967296 vs = val 4294967296 ys * 2 ^ s) := Lib.hid (by rw [hvs, val_trimL, hv1])
  have HVD : Hid (Dig 4294967296 vs) := Lib.hid (by rw [hvs]; exact hd1.trimL)
  have HVR : Hid (RdAt w1 .u32 (some ⟨b1, 0, none⟩) vs) := Lib.hid (by rw [hvs]; exact hB1.rd.trimL)
  have HVT : 2147483648 ≤ gd vs (n + 1) := by
    have := top_shift (M := 4294967296) (n := n + 1) (y := val 4294967296 ys) (p := 2 ^ s) (by decide) HVD.out HVL.out HVV.out (by rw [← hv1]; exact hN1)
    omega
  have HN1 := Lib.hid hN1
  have HN2 := Lib.hid hN2
  have HV1 := Lib.hid hv1
  have hb1lt := hB1.lt
  have HTR := Lib.hid (trim_any (some ⟨b1, 0, none⟩) (n + 2 + 1) (n + 2 + 1) zs1 w1 (Lib.hid hz1l) (Lib.hid hB1.rd) (by omega) (by omega))
  rw [← hvs, HVL.out] at HTR
  clear hz1l hd1 hv1 hB1 hN1 hN2 hvs
  go_wp2_with fail
  refine HTR.out.mono ?_
  rintro e w' ⟨rfl, rfl⟩
  go_wp2_with fail
  have hbl1' := (below_drewN (Below.refl w.heap.size w) nd).trans hbl1
  rw [← HXL.out]
  refine (shift_lists A c s xs _ (HX.out.below hbl1') (by rw [HXL.out]; omega) HDX.out hs31).mono ?_
  rintro e w2 ⟨b2, us, rfl, hul, hud, huv, hB2, hb2, hbl2⟩
  rw [HXL.out] at hul ⊢
  obtain ⟨w3, hmk, hbk, HW, hsz⟩ := make_nat w2 ((n : Int) + 2 + e' + 1 - (n + 2)) (by omega) (by omega)
  rw [show ((n : Int) + 2 + e' + 1 - (n + 2)).toNat = e' + 1 from by omega] at hmk hbk
  have hb2lt := hB2.lt
  have hs2 := hbl2.size
  have hs1 := hbl1.size
  simp only [World.heap_drewN] at hs1
  have HU3 : Hid (Blk w3 .u32 58 b2 us) := Lib.hid (hB2.below HW hb2lt)
  have HV3 : Hid (RdAt w3 .u32 (some ⟨b1, 0, none⟩) vs) := Lib.hid ((HVR.out.below hbl2).below HW)
  have hbl3 := (hbl1'.trans (hbl2.mono (by omega))).trans (HW.mono (by omega))
  have HQ3 := Lib.hid hbk
  have HSZ := Lib.hid hsz
  have HUL := Lib.hid hul
  have HUD := Lib.hid hud
  have HUV := Lib.hid huv
  have hb3 : b2 < w2.heap.size := hb2lt
  clear hB2 hbk hsz hul hud huv hbl1 hbl2 hbl1' HW HTR HVR hct
  go_wp2_with fail
  have hwb2 : w.heap.size ≤ b2 := by omega
  generalize hB3 : w2.heap.size = b3 at *
  have hwb3 : w.heap.size ≤ b3 := by omega
  have HSTART : Hid (val 4294967296 us < val 4294967296 vs * 4294967296 ^ (e' + 1)) := by
    have h1 := val_lt HDX.out
    rw [HXL.out] at h1
    have h2 : val 4294967296 xs * 2 ^ s < 4294967296 ^ (n + 2 + e') * 2 ^ s := Nat.mul_lt_mul_of_pos_right h1 (Nat.pow_pos (by decide))
    have h3 : 4294967296 ^ (n + 2 + e') * 2 ^ s ≤ 4294967296 ^ (n + 2 + e') * 2147483648 := Nat.mul_le_mul_left _ (pow_le_31 hs31)
    have h4 : 4294967296 ^ (n + 1) * 2147483648 * 4294967296 ^ (e' + 1) ≤ val 4294967296 vs * 4294967296 ^ (e' + 1) := Nat.mul_le_mul_right _ (by rw [HVV.out, ← HV1.out]; exact HN1.out)
    have h5 : 4294967296 ^ (n + 1) * 2147483648 * 4294967296 ^ (e' + 1) = 4294967296 ^ (n + 2 + e') * 2147483648 := by
      rw [Nat.mul_right_comm, ← Nat.pow_add, show n + 1 + (e' + 1) = n + 2 + e' from by omega]
    rw [HUV.out]
    exact Lib.hid (by omega)
  go_loopw [13] (fun v13 wr => ∃ (k : Nat) (zs qs : List Nat), k ≤ e' + 1 ∧ v13 = .int .i64 ((k : Int) - 1) ∧ Hid (Blk wr .u32 58 b2 zs) ∧ Hid (Blk wr .u32 58 b3 qs) ∧ Hid (RdAt wr .u32 (some ⟨b1, 0, none⟩) vs) ∧ Hid (zs.length = n + 2 + e' + 1) ∧ Hid (qs.length = e' + 1) ∧ Hid (Dig 4294967296 zs) ∧ Hid (Dig 4294967296 qs) ∧
      Hid (val 4294967296 xs * 2 ^ s = val 4294967296 vs * 4294967296 ^ k * val 4294967296 (qs.drop k) + val 4294967296 zs) ∧ Hid (val 4294967296 zs < val 4294967296 vs * 4294967296 ^ k) ∧ Below w.heap.size w wr) (fun v13 _ => (intOf v13 + 1).toNat)
  case atStart =>
    refine ⟨e' + 1, us, _, Nat.le_refl _, congrArg (Value.int .i64) (by omega), HU3, HQ3, HV3, HUL, Lib.hid (by simp), HUD, Lib.hid (Dig.replicate (by decide) _), Lib.hid ?_, HSTART, hbl3⟩
    rw [List.drop_of_length_le (by simp), HUV.out]; simp [val]
  case round =>
    obtain ⟨k, zs, qs, hk, rfl, hZ, hQ, hV, hzl, hql, hzd, hqd, hI, hlt, hbl⟩ := hrel
    clear HU3 HQ3 HV3 HUD HSTART hbl3 hmk hb2lt hs1 hs2 HUL HSZ
    rcases Nat.eq_zero_or_pos k with rfl | hkp
    · rw [show (((0 : Nat) : Int) - 1) = -1 from rfl]
      have hI0 := hI.out
      have hlt0 := hlt.out
      rw [Nat.pow_zero, Nat.mul_one, List.drop_zero] at hI0
      rw [Nat.pow_zero, Nat.mul_one] at hlt0
      have hend := long_end (Nat.pow_pos (by decide)) rfl HVV.out hI0 hlt0
      have HE1 := Lib.hid hend.1
      have HE2 := Lib.hid hend.2
      have HZN : Hid (val 4294967296 zs < 4294967296 ^ (n + 2)) := Lib.hid (Nat.lt_trans hlt0 (by rw [HVV.out, ← HV1.out]; exact HN2.out))
      clear hI0 hlt0 hend hI hlt hV
      obtain ⟨wo, hwo⟩ : ∃ wo : World, wo = wr := ⟨_, rfl⟩
      subst hwo
      go_wp2_with fail
      go_loopw [83] (fun v83 wr => ∃ (i : Nat) (ws : List Nat), i ≤ n + 2 ∧ v83 = .int .i64 i ∧ Hid (Blk wr .u32 58 b2 ws) ∧ Hid (Blk wr .u32 58 b3 qs) ∧ Hid (ws.length = n + 2 + e' + 1) ∧ Hid (Dig 4294967296 ws) ∧ Hid (∀ k, i ≤ k → gd ws k = gd zs k) ∧
          Hid (val 4294967296 (ws.take i) = val 4294967296 zs / 2 ^ s % 4294967296 ^ i) ∧ Below w.heap.size w wr) (fun v83 _ => n + 2 - (intOf v83).toNat)
      case atStart => exact ⟨0, zs, by omega, rfl, hZ, hQ, hzl, hzd, Lib.hid (fun _ _ => rfl), Lib.hid (by simp [val, Nat.mod_one]), hbl⟩
      case round =>
        clear hZ hQ hbl
        obtain ⟨i, ws, hi, rfl, hW, hQ, hwl, hwd, hsame, hval, hbl⟩ := hrel
        by_cases hil : i < n + 2
        · have hc0 := hW.out.cell (i := i) (by rw [hwl.out]; omega)
          have hf0 := hW.out.free i
          have hc1 := hW.out.cell (i := i + 1) (by rw [hwl.out]; omega)
          rw [hsame.out i (Nat.le_refl _)] at hc0
          rw [hsame.out (i + 1) (by omega)] at hc1
          have g0 := hzd.out.gd (by decide) i
          have g1 := hzd.out.gd (by decide) (i + 1)
          have ho := or_hi (gd zs (i + 1)) (gd zs i) (by omega) (by omega) (by omega) (by omega)
          go_wp2_with fail
          have j1 : (i : Int) + 1 < (n : Int) + 2 + e' + 1 := by omega
          have j2 : (i : Int) < (n : Int) + 2 + e' + 1 := by omega
          have j3 : (0 : Int) ≤ (i : Int) + 1 := by omega
          have j4 : ((i : Int) + 1).toNat = i + 1 := by omega
          have j5 : (i : Int) < (n : Int) + 2 := by omega
          have q1 : IntKind.i64.wrap ((i : Int) + 1) = (i : Int) + 1 := wr64 (by omega) (by omega)
          have q2 : IntKind.u64.wrap (((gd zs (i + 1) : Nat) : Int) * 4294967296) = ((gd zs (i + 1) : Nat) : Int) * 4294967296 := wru64 (by omega) (by omega)
          refine region_tail 19 (by kernel_rfl) (by kernel_rfl) ?_
          simp only [List.take_succ_cons, List.take_zero, List.drop_succ_cons, List.drop_zero]
          repeat still_step
          refine wpStill_nil ?_
          clear q1 q2 j4
          go_wp2
          go_roundw
          case rel =>
            rw [cast_unshift]
            have hM : (4294967296 : Nat) = 2 ^ s * 2 ^ (32 - s) := by rw [← Nat.pow_add, show s + (32 - s) = 32 from by omega]
            have hun := unshift_digit (M := 4294967296) (by decide) (Nat.pow_pos (by decide)) hM zs hzd.out i
            refine ⟨i + 1, ws.set i ((gd zs (i + 1) * 4294967296 + gd zs i) / 2 ^ s % 4294967296), by omega, by go_num, Lib.hid ((hW.out.drewN 1).set i _), Lib.hid ((hQ.out.drewN 1).far (by simp; omega) _), Lib.hid (by rw [List.length_set]; exact hwl.out), Lib.hid (hwd.out.set _ _ (Nat.mod_lt _ (by decide))), Lib.hid ?_, Lib.hid ?_, (below_drewN hbl 1).setCell (by simp; omega) _⟩
            · intro k hk
              rw [gd_set_ne _ _ (by omega)]; exact hsame.out k (by omega)
            · rw [val_set_take _ _ (by rw [hwl.out]; omega), hval.out, hun, ← take_mod]
          case measure => simp [intOf]; omega
        · obtain rfl : i = n + 2 := by omega
          have HT1 := Lib.hid (trim_any (some ⟨b3, 0, none⟩) (e' + 1) (e' + 1) qs wr hql (Lib.hid hQ.out.rd) (by omega) (Nat.le_refl _))
          have HT2 := Lib.hid (trim_any (some ⟨b2, 0, none⟩) (n + 2) (n + 2 + e' + 1) (ws.take (n + 2)) wr (by rw [Hid, List.length_take, hwl.out]; omega) (Lib.hid (hW.out.rd.take _)) (by omega) (by omega))
          go_wp2_with fail
          refine HT1.out.mono ?_
          rintro e w' ⟨rfl, rfl⟩
          go_wp2_with fail
          refine HT2.out.mono ?_
          rintro e w' ⟨rfl, rfl⟩
          go_wp2_with fail
          go_ret2
          have hq : trimL qs = digs 4294967296 (val 4294967296 xs / val 4294967296 ys) := by rw [← digs_val (by decide) hqd.out, HE1.out]
          have hr : trimL (ws.take (n + 2)) = digs 4294967296 (val 4294967296 xs % val 4294967296 ys) := by
            rw [← digs_val (by decide) (hwd.out.take _), hval.out, HE2.out, Nat.mul_div_cancel _ (Nat.pow_pos (by decide))]
            congr 1
            apply Nat.mod_eq_of_lt
            have h1 : val 4294967296 xs % val 4294967296 ys ≤ val 4294967296 zs := by
              rw [HE2.out]; exact Nat.le_mul_of_pos_right _ (Nat.pow_pos (by decide))
            exact Nat.lt_of_le_of_lt h1 HZN.out
          refine ⟨some ⟨b3, 0, none⟩, e' + 1, some ⟨b2, 0, none⟩, n + 2 + e' + 1, ret_slices (by rw [hq]) (by rw [hr]), ?_, ?_, ?_, ?_, hbl⟩
          · rw [← hq, ← hql.out]; exact trimL_length_le qs
          · rw [← hr]; have h1 := trimL_length_le (ws.take (n + 2)); rw [List.length_take] at h1; omega
          · rw [← hq]; exact hQ.out.rd.trimL
          · rw [← hr]; exact (hW.out.rd.take _).trimL
    · obtain ⟨m, rfl⟩ : ∃ m, k = m + 1 := ⟨k - 1, by omega⟩
      rw [show (((m + 1 : Nat) : Int) - 1) = (m : Int) from by omega]
      have hpl : (zs.take m).length = m := by rw [List.length_take, hzl.out]; omega
      have husl : ((zs.drop m).take (n + 3)).length = n + 3 := by rw [List.length_take, List.length_drop, hzl.out]; omega
      have hsplit : zs = zs.take m ++ ((zs.drop m).take (n + 3) ++ (zs.drop m).drop (n + 3)) := by rw [List.take_append_drop, List.take_append_drop]
      obtain ⟨pre, hpre⟩ : ∃ pre, pre = zs.take m := ⟨_, rfl⟩
      obtain ⟨us', hus'⟩ : ∃ us', us' = (zs.drop m).take (n + 3) := ⟨_, rfl⟩
      obtain ⟨post, hpost⟩ : ∃ post, post = (zs.drop m).drop (n + 3) := ⟨_, rfl⟩
      rw [← hpre, ← hus', ← hpost] at hsplit
      rw [← hpre] at hpl
      rw [← hus'] at husl
      have hVn : val 4294967296 vs < 4294967296 ^ (n + 2) := by rw [HVV.out, ← HV1.out]; exact HN2.out
      have hV0 : 0 < val 4294967296 vs := by
        rw [HVV.out, ← HV1.out]
        have h1 : 0 < 4294967296 ^ (n + 1) * 2147483648 := Nat.mul_pos (Nat.pow_pos (by decide)) (by decide)
        exact Nat.lt_of_lt_of_le h1 HN1.out
      have hzd' : Dig 4294967296 us' := by rw [hus']; exact (hzd.out.drop _).take _
      have hstep := fun (us2 : List Nat) (h1 : us2.length = n + 3) (h2 : val 4294967296 us2 = val 4294967296 us' % val 4294967296 vs) => long_step (n := n + 2) (by decide) hsplit hpl husl h1 hzd.out hVn hV0 (by rw [hql.out]; omega) hI.out hlt.out h2
      have hlt2 := long_seg (n := n + 2) (by decide) hsplit hpl husl hlt.out
      have hcall := digit_walk (some ⟨b1, 0, none⟩) b2 (n + 2 + e' + 1 - m) (n + 2 + 1) n pre us' post vs wr (by rw [← hsplit]; exact hZ) hV (fun bb oo h => by have := congrArg Addr.block (Option.some.inj h); simp at this; omega)
        husl HVL.out (by omega) (by rw [hpl]; omega) hzd' HVD (by omega) (by omega) HVT hlt2
      rw [hpl] at hcall
      have HCALL := Lib.hid hcall
      have HSPLIT := Lib.hid hsplit
      have HUSL := Lib.hid husl
      have HV0 := Lib.hid hV0
      have HLT2 := Lib.hid hlt2
      have HSTEP := Lib.hid hstep
      clear hcall hstep hpl husl hsplit hpre hus' hpost hVn hV0 hzd' hlt2
      go_wp2_with fail
      rw [show m + (n + 2) + 1 - m = n + 3 from by omega]
      refine HCALL.out.mono ?_
      rintro e w' ⟨rfl, us2, h1, h2, h3, h4, h5⟩
      obtain ⟨_, hs1, hs2⟩ := HSTEP.out us2 h1 h3
      have hqv : val 4294967296 us' / val 4294967296 vs < 4294967296 := by
        rw [Nat.div_lt_iff_lt_mul HV0.out]; exact HLT2.out
      have hQ' : Hid (Blk w' .u32 58 b3 qs) := by
        have := hQ.out
        unfold Blk at this ⊢
        rw [h5.block b3 (by omega)]; exact Lib.hid this
      have hV' : Hid (RdAt w' .u32 (some ⟨b1, 0, none⟩) vs) := Lib.hid (fun i hi => by
        obtain ⟨bb, oo, e, hc⟩ := hV.out i hi
        have e1 := congrArg Addr.block (Option.some.inj e)
        simp at e1
        exact ⟨bb, oo, e, h5.cell hc (by simp; omega)⟩)
      have hbl' := hbl.trans (h5.below (B := w.heap.size) (by omega))
      have hcq := hQ'.out.cell (i := m) (by rw [hql.out]; omega)
      have hfq := hQ'.out.free m
      have hZ' := Lib.hid h4
      have hZl : Hid ((pre ++ (us2 ++ post)).length = n + 2 + e' + 1) := by
        rw [List.length_append, List.length_append, h1, ← HUSL.out, ← List.length_append, ← List.length_append, ← HSPLIT.out]; exact hzl
      have hZd : Hid (Dig 4294967296 (pre ++ (us2 ++ post))) := by
        refine Lib.hid (Dig.append ?_ (Dig.append h2 ?_))
        · intro x hx; exact hzd.out x (by rw [HSPLIT.out]; exact List.mem_append_left _ hx)
        · intro x hx; exact hzd.out x (by rw [HSPLIT.out]; exact List.mem_append_right _ (List.mem_append_right _ hx))
      have HS1 := Lib.hid hs1
      have HS2 := Lib.hid hs2
      have HQV := Lib.hid hqv
      clear h1 h2 h3 h4 h5 hs1 hs2 hqv hZ hQ hV hzl hzd hI hlt HCALL HSTEP HSPLIT HUSL
      go_wp2
      go_roundw
      case rel =>
        refine ⟨m, pre ++ (us2 ++ post), qs.set m (val 4294967296 us' / val 4294967296 vs), by omega, rfl, Lib.hid (hZ'.out.far (by simp; omega) _), Lib.hid (hQ'.out.set m (val 4294967296 us' / val 4294967296 vs)), Lib.hid ?_, hZl, Lib.hid (by rw [List.length_set]; exact hql.out), hZd, Lib.hid (hqd.out.set _ _ HQV.out), HS1, HS2, hbl'.setCell (by simp; omega) _⟩
        intro i hi
        obtain ⟨bb, oo, e, hc⟩ := hV'.out i hi
        have e1 := congrArg Addr.block (Option.some.inj e)
        simp at e1
        exact ⟨bb, oo, e, by rw [World.cell?_of_block (w := w') (Below.heap_setCell _ _ _ _ (by simp; omega))]; exact hc⟩
      case measure => simp [intOf]

theorem divide_any (A B : Option Addr) (c d x y : Nat) (w : World) (hx : RdAt w .u32 A (digs 4294967296 x)) (hy : RdAt w .u32 B (digs 4294967296 y)) (hl : (digs 4294967296 x).length ≤ 900000000) (hm : (digs 4294967296 y).length ≤ 900000000) (hc : (digs 4294967296 x).length ≤ c) (hd : (digs 4294967296 y).length ≤ d) (hy0 : y ≠ 0) :
    Calls Tryd.prog 44 #[.slice A (digs 4294967296 x).length c, .slice B (digs 4294967296 y).length d] w (RetDiv (x / y) (x % y) w) := by
  by_cases hlt : x < y
  · exact divide_less A B c d x y w hx hy (by omega) (by omega) hc hlt
  · have hge : y ≤ x := by omega
    by_cases h1 : (digs 4294967296 y).length = 1
    · exact divide_one A B c d x y w hx hy (by omega) h1 hge
    · have h0 : (digs 4294967296 y).length ≠ 0 := fun h => hy0 ((digs_nil_iff (B := 4294967296) (by decide) y).1 (List.eq_nil_of_length_eq_zero h))
      have hmono := digs_len_mono (B := 4294967296) (by decide) hge
      obtain ⟨n, hn⟩ : ∃ n, (digs 4294967296 y).length = n + 2 := ⟨(digs 4294967296 y).length - 2, by omega⟩
      obtain ⟨e', he'⟩ : ∃ e', (digs 4294967296 x).length = n + 2 + e' := ⟨(digs 4294967296 x).length - (n + 2), by omega⟩
      have vx := val_digs (B := 4294967296) (by decide) x
      have vy := val_digs (B := 4294967296) (by decide) y
      have hlast := digs_last (B := 4294967296) (by decide) y hy0
      rw [hn, show n + 2 - 1 = n + 1 from by omega] at hlast
      have := divide_long A B c d n e' (digs 4294967296 x) (digs 4294967296 y) w hx hy he' hn (by omega) (digs_Dig (by decide) x) (digs_Dig (by decide) y) (by omega) (by omega) hlast
        (fun w hx hy => by
          have := compare_any A B c d x y w hx hy (by omega) (by omega)
          rw [he', hn] at this
          rw [vx, vy]; exact this) (by rw [vx, vy]; exact hge)
      rw [vx, vy] at this
      rw [he', hn]; exact this
end Go.Proofs.YtboolbcckfldaaaDoor
