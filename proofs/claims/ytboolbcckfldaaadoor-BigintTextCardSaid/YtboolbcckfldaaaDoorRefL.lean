import Derived.Test.YtboolbcckfldaaaDoorRefK
import Derived.Test.YtboolbcckfldaaaDoorWalkV
namespace Go.Proofs.YtboolbcckfldaaaDoor
open Go.RowKit
set_option linter.unusedVariables false
set_option linter.unusedSimpArgs false

set_option maxHeartbeats 1000000 in
set_option maxRecDepth 100000 in
theorem Rdigits_own (s : ByteArray) (w : World) (hs : s.size ≤ 2000000000) (hlen : (digs 16777216 (sv s)).length = (s.size + 2) / 3) :
    Calls Tryd.prog 48 #[.string s] w (fun e w' => ∃ b, w.heap.size ≤ b ∧ e = .returned (.slice (some ⟨b, 0, none⟩) (digs 16777216 (sv s)).length (digs 16777216 (sv s)).length) ∧ Blk w' .i64 3 b (digs 16777216 (sv s)) ∧ Below w.heap.size w w') := by
  obtain ⟨w1, hmk, hbk, HW, hsz⟩ := make_rnat w (((s.size : Int) + 2) / 3) (by omega) (by omega)
  have HL := Lib.hid hlen
  clear hlen
  have HS := Lib.hid hsz
  have HB := Lib.hid hbk
  clear hsz hbk
  go_enter Tryd.func48, Tryd.ntmps48
  go_wp2
  go_loopw [4] (fun v4 wr => ∃ (k : Nat) (zs : List Nat), k ≤ s.size ∧ v4 = .int .i64 k ∧ Hid (Blk wr .i64 3 w.heap.size zs) ∧ Hid (zs.length = (s.size + 2) / 3) ∧ Hid (Dig 16777216 zs) ∧ Hid (val 16777216 zs = val 256 ((rb s).take k)) ∧ Below w.heap.size w wr) (fun v4 _ => s.size - (intOf v4).toNat)
  case atStart => exact ⟨0, _, by omega, rfl, HB, Lib.hid (by simp; omega), Lib.hid (Dig.replicate (by decide) _), Lib.hid (by simp [val, val_replicate]), HW⟩
  case round =>
    obtain ⟨k, zs, hk, rfl, hB, hz, hdz, hv, hbl⟩ := hrel
    clear HB HS HW hmk
    by_cases hkl : k < s.size
    · have hcz := hB.out.cell (i := k / 3) (by rw [hz.out]; omega)
      have hfz := hB.out.free (k / 3)
      go_wp2_with fail
      have i1 : (0:Int) ≤ (k : Int) / 3 := by omega
      have i2 : (k : Int) / 3 < ((s.size : Int) + 2) / 3 := by omega
      have i3 : (0:Int) ≤ (s.size : Int) - 1 - k := by omega
      have i4 : (s.size : Int) - 1 - k < (s.size : Int) := by omega
      have i8 : (k : Int) ≤ (s.size : Int) - 1 := by omega
      have i5 : (0:Int) ≤ 8 * ((k : Int) % 3) := by omega
      have i6 : 8 * ((k : Int) % 3) < 24 := by omega
      have q1 : IntKind.i64.wrap ((k : Int) / 3) = (k : Int) / 3 := wr64 (by omega) (by omega)
      have q2 : IntKind.i64.wrap ((k : Int) % 3) = (k : Int) % 3 := wr64 (by omega) (by omega)
      have q3 : IntKind.i64.wrap (8 * ((k : Int) % 3)) = 8 * ((k : Int) % 3) := wr64 (by omega) (by omega)
      have i7 : ((k : Int) / 3).toNat = k / 3 := by omega
      have q0 : ((k : Int)).tmod 3 = (k : Int) % 3 := Int.tmod_eq_emod_of_nonneg (by omega)
      refine region_tail 14 (by kernel_rfl) (by kernel_rfl) ?_
      simp only [List.take_succ_cons, List.take_zero, List.drop_succ_cons, List.drop_zero]
      repeat still_step
      refine wpStill_nil ?_
      clear q0 q1 q2 q3 i7
      go_wp2
      go_roundw
      case rel =>
        have hk3 : 3 * (k / 3) + k % 3 = k := Nat.div_add_mod k 3
        have hv2 : val 16777216 zs = val 256 ((rb s).take (3 * (k / 3) + k % 3)) := by rw [hk3]; exact hv.out
        have hd := of_digit3 zs (rb s) (k / 3) (k % 3) (by decide) hv2 (rb_Dig s)
        have hs1 := of_step3 zs (rb s) (k / 3) (k % 3) (by decide) (by rw [hz.out]; omega) hv2
        rw [hk3, gd_rb s k hkl] at hs1
        have hb := (s[s.size - 1 - k]'(by omega)).toNat_lt
        have hp : 256 ^ (k % 3) ≤ 65536 := by
          have : k % 3 = 0 ∨ k % 3 = 1 ∨ k % 3 = 2 := by omega
          rcases this with e | e | e <;> simp [e]
        have hm : (s[s.size - 1 - k]'(by omega)).toNat * 256 ^ (k % 3) ≤ 255 * 256 ^ (k % 3) := Nat.mul_le_mul_right _ (by omega)
        refine ⟨k + 1, _, by omega, by go_num, Lib.hid ?_, Lib.hid ?_, Lib.hid ?_, Lib.hid hs1, (hbl.trans ?_).setCell (Nat.le_refl _) _⟩
        · rw [shl3 _ _ _ (Nat.mod_lt _ (by decide)) (by omega) hb]
          exact (hB.out.drewN 1).set _ _
        · rw [List.length_set]; exact hz.out
        · exact hdz.out.set _ _ (by omega)
        · exact ((Below.refl _ _).drew)
      case measure => simp [intOf]; omega
    · obtain rfl : k = s.size := by omega
      go_wp2_with fail
      go_ret
      have hd : digs 16777216 (sv s) = zs := digs_full (by decide) hdz.out (by rw [hv.out, ← rb_length, List.take_length]; rfl) (HL.out.trans hz.out.symm)
      have hl := hz.out
      rw [hd]
      exact ⟨w.heap.size, Nat.le_refl _, ret_slice2 (by omega) (by omega), hB.out, hbl⟩

theorem Rdigits_omg (z : Int) (w : World) (hz : Bd 1000000000 z) : Calls Tryd.prog 48 #[.string (mg z)] w (fun e w' => ∃ b, w.heap.size ≤ b ∧ e = .returned (.slice (some ⟨b, 0, none⟩) (digs 16777216 z.natAbs).length (digs 16777216 z.natAbs).length) ∧ Blk w' .i64 3 b (digs 16777216 z.natAbs) ∧ Below w.heap.size w w') := by
  have h := Rdigits_own (mg z) w (by have := hz.size; omega) (by rw [sv_mg, digs3_len]; unfold mg; rw [size_magB])
  rwa [sv_mg] at h

def strLen : Value → Nat
  | .string s => s.size
  | _ => 0
theorem str_size (l : List UInt8) : (ByteArray.mk l.toArray).size = l.length := by simp [ByteArray.size]
theorem enc_digit (r : Nat) (h : r < 10) : Utf8.encode (48 + (r : Int)) = ⟨#[UInt8.ofNat (48 + r)]⟩ := by
  have : r = 0 ∨ r = 1 ∨ r = 2 ∨ r = 3 ∨ r = 4 ∨ r = 5 ∨ r = 6 ∨ r = 7 ∨ r = 8 ∨ r = 9 := by omega
  rcases this with rfl | rfl | rfl | rfl | rfl | rfl | rfl | rfl | rfl | rfl <;> rfl
theorem dec_pos (n : Nat) : 0 < (Lib.decDigits n).length := by
  by_cases h : 10 ≤ n
  · rw [dec_big h]; simp
  · rw [Lib.decDigits_one (by omega)]; simp
theorem print_step {P z q r rem V V' low low' m : Nat} (h : 10 * V + P * 16777216 * rem = m + 9 * low) (hl : low = low' + P * z) (hv : V' + P * z = V + P * q) (ht : 10 * q + r = rem * 16777216 + z) : 10 * V' + P * r = m + 9 * low' := by
  have h1 : 10 * (P * q) + P * r = P * 16777216 * rem + P * z := by
    rw [← Nat.mul_assoc, Nat.mul_comm 10 P, Nat.mul_assoc, ← Nat.mul_add, ht, Nat.mul_add, Nat.mul_comm rem, Nat.mul_assoc]
  omega

set_option maxHeartbeats 1000000 in
set_option maxRecDepth 100000 in
theorem RPrint_bad (n : Bool) (s : ByteArray) (w : World) (h : vld n s = false) : Calls Tryd.prog 32 #[.agg #[.bool n, .string s]] w (fun e w' => e = .returned (.string ⟨#[]⟩) ∧ Below w.heap.size w w') := by
  have H1 := fun W => Lib.hid (RValid_no n s W h)
  clear h
  go_enter Tryd.func32, Tryd.ntmps32
  go_wp2_with fail
  have t1 := Ob.new (w) 23 #[.bool n, .string s]
  have bl := ((Below.refl w.heap.size w).alloc (Nat.le_refl _) (.cells #[.bool n, .string s] 23))
  try simp only [World.size_alloc] at t1
  generalize World.alloc w _ = W1 at t1 bl ⊢
  refine ((H1 W1).out).mono ?_
  rintro e W2 ⟨rfl, hb⟩
  have t1 := t1.below hb t1.lt
  have bl := bl.trans (Below.mono hb bl.size)
  clear hb
  go_wp2_with fail
  go_ret
  exact ⟨rfl, bl⟩
set_option maxHeartbeats 1000000 in
set_option maxRecDepth 100000 in
theorem RPrint_zero (w : World) : Calls Tryd.prog 32 #[vI 0] w (fun e w' => e = .returned (strOf (Lib.itoa 0)) ∧ Below w.heap.size w w') := by
  have H1 := fun W => Lib.hid (RValid_yes 0 W)
  obtain ⟨e1, e2⟩ := mg_empty (z := 0) rfl
  rw [show Lib.itoa 0 = [48] from by rw [show (0 : Int) = ((0 : Nat) : Int) from rfl, Lib.itoa_nonneg, Lib.decDigits_one (by decide)]; rfl]
  go_enter Tryd.func32, Tryd.ntmps32
  go_wp2_with fail
  have t1 := Ob.new (w) 23 #[.bool (sg 0), .string (mg 0)]
  have bl := ((Below.refl w.heap.size w).alloc (Nat.le_refl _) (.cells #[.bool (sg 0), .string (mg 0)] 23))
  try simp only [World.size_alloc] at t1
  generalize World.alloc w _ = W1 at t1 bl ⊢
  refine ((H1 W1).out).mono ?_
  rintro e W2 ⟨rfl, hb⟩
  have t1 := t1.below hb t1.lt
  have bl := bl.trans (Below.mono hb bl.size)
  clear hb
  obtain ⟨c0_0, c0_1⟩ := t1.cells2
  go_wp2_with fail
  clear c0_0 c0_1
  go_ret
  exact ⟨rfl, bl⟩

set_option maxHeartbeats 4000000 in
set_option maxRecDepth 100000 in
theorem RPrint_nz (x : Int) (w : World) (hx : Bd 10000000 x) (hx0 : x ≠ 0) : Calls Tryd.prog 32 #[vI x] w (fun e w' => e = .returned (strOf (Lib.itoa x)) ∧ Below w.heap.size w w') := by
  have H1 := fun W => Lib.hid (RValid_yes x W)
  have HX := fun W => Lib.hid (Rdigits_omg x W (hx.mono (by omega)))
  obtain ⟨e1, e2⟩ := mg_full (z := x) hx0
  have ln := hx.digs24
  have hdl : (Lib.decDigits x.natAbs).length ≤ 300000000 := Nat.le_trans (dec_len (by omega) hx) (by omega)
  have HX0 := Lib.hid hx0
  clear hx hx0
  go_enter Tryd.func32, Tryd.ntmps32
  go_wp2_with fail
  have t1 := Ob.new (w) 23 #[.bool (sg x), .string (mg x)]
  have bl := ((Below.refl w.heap.size w).alloc (Nat.le_refl _) (.cells #[.bool (sg x), .string (mg x)] 23))
  try simp only [World.size_alloc] at t1
  generalize World.alloc w _ = W1 at t1 bl ⊢
  refine ((H1 W1).out).mono ?_
  rintro e W2 ⟨rfl, hb⟩
  have t1 := t1.below hb t1.lt
  have bl := bl.trans (Below.mono hb bl.size)
  clear hb
  obtain ⟨c0_0, c0_1⟩ := t1.cells2
  go_wp2_with fail
  clear c0_0 c0_1
  refine ((HX W2).out).mono ?_
  rintro e W3 ⟨bb, hbb, rfl, hB1, hb⟩
  have hne := Nat.ne_of_lt (Nat.lt_of_lt_of_le t1.lt hbb)
  have hbb := Nat.le_trans bl.size hbb
  have t1 := t1.below hb t1.lt
  have bl := bl.trans (Below.mono hb bl.size)
  clear hb
  go_wp2_with fail
  clear H1 HX e1 e2
  have HB1 := Lib.hid hB1
  clear hB1
  obtain ⟨cc, hcc'⟩ : ∃ c, c = (digs 16777216 x.natAbs).length := ⟨_, rfl⟩
  have hcl : cc ≤ 100000000 := by omega
  have HCC := Lib.hid hcc'
  clear hcc'
  go_loopw [3, 4] (fun v3 v4 wr => ∃ (m : Nat) (zs : List Nat) (s : List UInt8), v3 = .slice (some ⟨bb, 0, none⟩) (digs 16777216 m).length cc ∧ v4 = strOf s ∧ (digs 16777216 m).length ≤ cc ∧ Hid (zs.length = cc) ∧ Hid (Dig 16777216 zs) ∧ Hid (val 16777216 zs = m) ∧ Hid (m ≤ x.natAbs) ∧ Hid ((m = 0 ∧ s = Lib.decDigits x.natAbs) ∨ (m ≠ 0 ∧ Lib.decDigits x.natAbs = Lib.decDigits m ++ s)) ∧ Hid (Blk wr .i64 3 bb zs) ∧ Ob wr w.heap.size 23 #[.bool (sg x), .string (mg x)] ∧ Below w.heap.size w wr) (fun _ v4 _ => (Lib.decDigits x.natAbs).length + 1 - strLen v4)
  case atStart =>
    have h0 := HX0.out
    have hcc := HCC.out
    refine ⟨x.natAbs, digs 16777216 x.natAbs, [], by rw [hcc], rfl, by omega, Lib.hid hcc.symm, Lib.hid (digs_Dig (by decide) _), Lib.hid (val_digs (by decide) _), Lib.hid (Nat.le_refl _), Lib.hid (.inr ⟨by omega, (List.append_nil _).symm⟩), HB1, t1, bl⟩
  case round =>
    clear HB1 t1 bl
    obtain ⟨m, zs, s, rfl, rfl, hmc, hz, hdz, hv, hm, hs, hB, t1, bl⟩ := hrel
    by_cases hm0 : m = 0
    · have hs' : Hid (s = Lib.decDigits x.natAbs) := Lib.hid (by
        rcases hs.out with h | h
        · exact h.2
        · exact absurd hm0 h.1)
      subst hm0
      have e0 : (digs 16777216 0).length = 0 := by rw [digs_zero]; rfl
      obtain ⟨q0, q1⟩ := t1.cells2
      rw [e0]
      have hsl : s.length ≤ 300000000 := by rw [hs'.out]; exact hdl
      simp only [strOf]
      by_cases hneg : x < 0
      · have hsg : sg x = true := by unfold sg; simpa using hneg
        rw [hsg] at q0
        go_wp2_with fail
        go_ret
        refine ⟨?_, bl⟩
        rw [hs'.out]
        unfold Lib.itoa
        rw [if_pos hneg]
        simp [strOf, str_app]
      · have hsg : sg x = false := by unfold sg; simpa using hneg
        rw [hsg] at q0
        go_wp2_with fail
        go_ret
        refine ⟨?_, bl⟩
        rw [hs'.out]
        unfold Lib.itoa
        rw [if_neg (by omega), show x.toNat = x.natAbs from by omega]
        try rfl
    · have hdec : Hid (Lib.decDigits x.natAbs = Lib.decDigits m ++ s) := Lib.hid (by
        rcases hs.out with h | h
        · exact absurd h.1 hm0
        · exact h.2)
      have hpos : 0 < (digs 16777216 m).length := by
        apply Nat.pos_of_ne_zero
        intro h
        exact hm0 ((digs_nil_iff (by decide) m).1 (List.length_eq_zero_iff.1 h))
      have hsl : s.length ≤ 300000000 := by have := congrArg List.length hdec.out; rw [List.length_append] at this; omega
      clear hs
      obtain ⟨Ln, hLn⟩ : ∃ L, L = (digs 16777216 m).length := ⟨_, rfl⟩
      rw [← hLn] at hmc hpos ⊢
      have HLN := Lib.hid hLn
      clear hLn
      obtain ⟨wo, rfl⟩ : ∃ wo : World, wo = wr := ⟨_, rfl⟩
      have HM0 := Lib.hid hm0
      go_wp2_with fail
      go_loopw [5, 6] (fun v5 v6 wr => ∃ (k rem : Nat) (zs : List Nat), k ≤ Ln ∧ rem < 10 ∧ v5 = .int .i64 rem ∧ v6 = .int .i64 ((k : Int) - 1) ∧ Hid (zs.length = cc) ∧ Hid (Dig 16777216 zs) ∧ Hid (10 * val 16777216 zs + 16777216 ^ k * rem = m + 9 * val 16777216 (zs.take k)) ∧ Hid (Blk wr .i64 3 bb zs) ∧ Ob wr w.heap.size 23 #[.bool (sg x), .string (mg x)] ∧ Below w.heap.size w wr) (fun _ v6 _ => ((intOf v6) + 1).toNat)
      case atStart =>
        refine ⟨Ln, 0, zs, Nat.le_refl _, by omega, rfl, rfl, hz, hdz, Lib.hid ?_, hB, t1, bl⟩
        have h1 := lt_pow_digs (B := 16777216) (by decide) m
        rw [← HLN.out] at h1
        have h2 : val 16777216 (zs.take Ln) = m := by
          have h3 := val_append 16777216 (zs.take Ln) (zs.drop Ln)
          rw [List.take_append_drop, hv.out, List.length_take, Nat.min_eq_left (by rw [hz.out]; omega)] at h3
          have h4 : val 16777216 (zs.drop Ln) = 0 := by
            rcases Nat.eq_zero_or_pos (val 16777216 (zs.drop Ln)) with h | h
            · exact h
            · have : 16777216 ^ Ln * 1 ≤ 16777216 ^ Ln * val 16777216 (zs.drop Ln) := Nat.mul_le_mul_left _ h
              omega
          rw [h4] at h3
          omega
        rw [h2, hv.out]; omega
      case round =>
        clear hB t1 bl hz hdz hv
        obtain ⟨k, rem, zs, hk, hrem, rfl, rfl, hz, hdz, hv, hB, t1, bl⟩ := hrel
        by_cases hk0 : 0 < k
        · have hge : (0 : Int) ≤ (k : Int) - 1 := by omega
          have hlt : (k : Int) - 1 < Ln := by omega
          have hi : ((k : Int) - 1).toNat = k - 1 := by omega
          have hlz : k - 1 < zs.length := by rw [hz.out]; omega
          have hcz := hB.out.cell hlz
          have hfz := hB.out.free (k - 1)
          have hg := hdz.out.gd (by decide) (k - 1)
          have HG := Lib.hid hg
          go_wp2_with fail
          go_roundw
          case rel =>
            have hg := HG.out
            have hlow := val_take_succ' 16777216 zs (k - 1)
            have hset := val_set 16777216 zs (k - 1) ((rem * 16777216 + gd zs (k - 1)) / 10) hlz
            have hP : 16777216 ^ k = 16777216 ^ (k - 1) * 16777216 := by rw [← Nat.pow_succ]; congr 1; omega
            have h := hv.out
            rw [hP] at h
            rw [show k - 1 + 1 = k from by omega] at hlow
            refine ⟨k - 1, (rem * 16777216 + gd zs (k - 1)) % 10, zs.set (k - 1) ((rem * 16777216 + gd zs (k - 1)) / 10), by omega, by omega, ?_, ?_, Lib.hid (by simp [hz.out]), Lib.hid (hdz.out.set _ _ (by omega)), Lib.hid ?_, Lib.hid ?_, t1.far hne _, bl.setCell hbb _⟩
            · congr 1
            · congr 1; omega
            · rw [List.take_set_of_le (Nat.le_refl _)]
              exact print_step h hlow hset (by omega)
            · have hb := hB.out.set (k - 1) ((rem * 16777216 + gd zs (k - 1)) / 10)
              have e : (((rem * 16777216 + gd zs (k - 1)) / 10 : Nat) : Int) = ((rem : Int) * 16777216 + (gd zs (k - 1) : Nat)) / 10 := by omega
              rw [e] at hb
              exact hb
          case measure => simp [intOf]; omega
        · obtain rfl : k = 0 := by omega
          have hV : 10 * val 16777216 zs + rem = m := by have h := hv.out; rw [Nat.pow_zero, Nat.one_mul, List.take_zero] at h; simpa [val] using h
          have hmB : m < 16777216 ^ Ln := by rw [HLN.out]; exact lt_pow_digs (B := 16777216) (by decide) m
          have hlt : (zs.take Ln).length = Ln := by rw [List.length_take, Nat.min_eq_left (by rw [hz.out]; omega)]
          have hvt : val 16777216 (zs.take Ln) = val 16777216 zs := by
            have h3 := val_append 16777216 (zs.take Ln) (zs.drop Ln)
            rw [List.take_append_drop, hlt] at h3
            have h4 : val 16777216 (zs.drop Ln) = 0 := by
              rcases Nat.eq_zero_or_pos (val 16777216 (zs.drop Ln)) with h | h
              · exact h
              · have : 16777216 ^ Ln * 1 ≤ 16777216 ^ Ln * val 16777216 (zs.drop Ln) := Nat.mul_le_mul_left _ h
                omega
            rw [h4] at h3
            omega
          have htr : Hid (trimL (zs.take Ln) = digs 16777216 (m / 10)) := Lib.hid (by
            rw [← digs_val (by decide) (hdz.out.take _), hvt]
            congr 1; omega)
          have hrem' : Hid (rem = m % 10) := Lib.hid (by omega)
          have hvz : Hid (val 16777216 zs = m / 10) := Lib.hid (by omega)
          have HTR := Lib.hid (Rtrim_any (some ⟨bb, 0, none⟩) Ln cc (zs.take Ln) wr (Lib.hid hlt) (Lib.hid (hB.out.rd.take Ln)) (by omega) hmc)
          have hml : (digs 16777216 (m / 10)).length ≤ cc := by
            have := digs_len_mono (B := 16777216) (by decide) (Nat.div_le_self m 10)
            rw [← HLN.out] at this
            omega
          rw [htr.out] at HTR
          clear hV hmB hlt hvt hv
          go_wp2_with fail
          refine HTR.out.mono ?_
          rintro e W9 ⟨rfl, rfl⟩
          clear HTR
          simp only [strOf]
          have hes : (Utf8.encode (48 + (rem : Int))).size = 1 := by rw [enc_digit rem hrem]; rfl
          go_wp2_with fail
          go_roundw
          case rel =>
            have h1 := hrem'.out
            have h2 := hdec.out
            have h3 := hm.out
            refine ⟨m / 10, zs, UInt8.ofNat (48 + m % 10) :: s, rfl, ?_, hml, hz, hdz, hvz, Lib.hid (by omega), Lib.hid ?_, hB, t1, bl⟩
            · rw [enc_digit rem hrem, h1]
              simp [strOf, str_app]
            · by_cases h10 : m / 10 = 0
              · left
                refine ⟨h10, ?_⟩
                rw [h2, Lib.decDigits_one (show m < 10 by omega), show m % 10 = m from by omega]
                rfl
              · right
                refine ⟨h10, ?_⟩
                rw [h2, dec_big (show 10 ≤ m by omega), List.append_assoc]
                rfl
          case measure =>
            have := congrArg List.length hdec.out
            rw [List.length_append] at this
            rw [enc_digit rem hrem]
            simp only [strOf, strLen, str_size, ByteArray.size_append]
            have h1 : (ByteArray.mk #[UInt8.ofNat (48 + rem)]).size = 1 := rfl
            have h2 : [UInt8.ofNat (48 + rem)].length = 1 := rfl
            omega

theorem RPrint_any (x : Int) (w : World) (hx : Bd 10000000 x) : Calls Tryd.prog 32 #[vI x] w (fun e w' => e = .returned (strOf (Lib.itoa x)) ∧ Below w.heap.size w w') := by
  by_cases h : x = 0
  · subst h; exact RPrint_zero w
  · exact RPrint_nz x w hx h
end Go.Proofs.YtboolbcckfldaaaDoor
