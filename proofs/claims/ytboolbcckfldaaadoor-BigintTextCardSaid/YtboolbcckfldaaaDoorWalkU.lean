import Derived.Test.YtboolbcckfldaaaDoorNumG
import Derived.Test.YtboolbcckfldaaaDoorWalkT

namespace Go.Proofs.YtboolbcckfldaaaDoor
open Go.RowKit
set_option linter.unusedVariables false
set_option linter.unusedSimpArgs false

/-- the number that a slice reads as -/
def rdVal (w : World) : Value → Nat
  | .slice (some ⟨b, o, none⟩) n _ => val 4294967296 ((List.range n).map fun i => match w.cell? ⟨b, o + i, none⟩ with | some (.int _ k) => k.toNat | _ => 0)
  | _ => 0
theorem rdVal_eq {w : World} {A : Option Addr} {xs : List Nat} (c : Nat) (h : RdAt w .u32 A xs) : rdVal w (.slice A xs.length c) = val 4294967296 xs := by
  rcases Nat.eq_zero_or_pos xs.length with h0 | h0
  · have : xs = [] := List.eq_nil_of_length_eq_zero h0
    subst this
    rcases A with _ | ⟨b, o, _ | _⟩ <;> simp [rdVal, val]
  · obtain ⟨b, o, rfl, _⟩ := h 0 h0
    show val 4294967296 ((List.range xs.length).map fun i => match w.cell? ⟨b, o + i, none⟩ with | some (.int _ k) => k.toNat | _ => 0) = val 4294967296 xs
    congr 1
    apply List.ext_getElem (by simp)
    intro i h1 h2
    obtain ⟨b', o', e, hc⟩ := h i h2
    cases e
    simp only [List.getElem_map, List.getElem_range, hc, gd]
    simp [h2]

theorem nbits_le {k : Nat} {z : Int} (h : Bd k z) : nbits z.natAbs ≤ 8 * k := by
  unfold Bd at h
  unfold nbits
  split
  · omega
  · rename_i h0
    have h2 : z.natAbs < 2 ^ (8 * k) := by rw [Nat.pow_mul]; exact h
    exact (Nat.log2_lt h0).2 h2

set_option maxHeartbeats 4000000 in
set_option maxRecDepth 100000 in
theorem Sqrt_any (n : Nat) (w : World) (hx : Bd 100000000 n) (hn : n ≠ 0) : Calls Tryd.prog 18 #[vI n] w (fun e w' => ∃ r : Nat, RetIE r 0 w e w' ∧ r * r ≤ n ∧ n < (r + 1) * (r + 1)) := by
  have h0 := Box2.new w 23 (.bool (sg n)) (.string (mg n))
  have HOF := fun W => Lib.hid (of_mg n W (hx.mono (by omega)))
  have HBITS := fun W => Lib.hid (Bits_any n W (hx.mono (by omega)))
  have hl := hx.digs
  have hb8 : nbits n ≤ 900000000 := by have := nbits_le hx; rw [Int.natAbs_natCast] at this; omega
  have hpos : 0 < nbits n := by unfold nbits; rw [if_neg hn]; omega
  obtain ⟨e1, e2⟩ := mg_full (z := (n : Int)) (by omega)
  have e3 : Hid (sg (n : Int) = false) := Lib.hid (by unfold sg; simp)
  rw [Int.natAbs_natCast] at hl
  clear hx
  go_enter Tryd.func18, Tryd.ntmps18
  go_wp2_with fail
  obtain ⟨W0, hW0⟩ : ∃ W0, W0 = ((w.alloc (.cells #[.bool (sg n), .string (mg n)] 23)).alloc (.cells #[.bool false, .string ⟨#[]⟩] 23)) := ⟨_, rfl⟩
  rw [← hW0] at h0 ⊢
  clear hW0
  refine (Valid_yes n W0).mono ?_
  rintro e W1 ⟨rfl, hb⟩
  have h1 := h0.below hb
  clear hb h0
  obtain ⟨x0, x1⟩ := h1.x.cells
  obtain ⟨y0, _⟩ := h1.x.cells
  rw [e3.out] at x0
  go_wp2_with fail
  refine (HOF W1).out.mono ?_
  rintro e W2 ⟨A, c, rfl, hc, hr, hb⟩
  rw [Int.natAbs_natCast] at hc hr ⊢
  have HR1 := Lib.hid hr
  clear hr
  have h2 := h1.below hb
  clear hb h1 x0 x1 y0
  obtain ⟨x0, x1⟩ := h2.x.cells
  go_wp2_with fail
  refine (HBITS W2).out.mono ?_
  rintro e W3 ⟨rfl, hb⟩
  rw [Int.natAbs_natCast]
  have h3 := h2.below hb
  have hr3 := HR1.out.below hb
  clear hb h2 HR1 x0 x1
  obtain ⟨k, hk⟩ : ∃ k, k = (nbits n + 1) / 2 := ⟨_, rfl⟩
  have hkI : ((nbits n : Int) + 1) / 2 = (k : Int) := by omega
  have hk9 : k ≤ 900000000 := by omega
  obtain ⟨w4, hmk, hbk, HW, hsz⟩ := make_nat W3 ((k : Int) / 32 + 1) (by omega) (by omega)
  have HK := Lib.hid hk
  have HR := Lib.hid hr3
  have h4 := h3.below HW
  have H3 := Lib.hid h3
  have HB := Lib.hid hbk
  clear hk hr3 h3 hbk
  rw [show ((k : Int) / 32 + 1).toNat = k / 32 + 1 from by omega] at HB
  have hc0 := HB.out.cell (i := k / 32) (by simp)
  have hf0 := HB.out.free (k / 32)
  obtain ⟨x0, x1⟩ := h4.x.cells
  go_wp2_with fail
  try rw [hkI]
  clear hkI hb8 hpos
  have hP := digs_pow2 k
  go_loopw [6] (fun v6 wr => ∃ (x : Nat) (B : Option Addr) (d : Nat), v6 = .slice B (digs 4294967296 x).length d ∧ (digs 4294967296 x).length ≤ d ∧ Hid (0 < x) ∧ Hid (x ≤ 2 ^ k) ∧ Hid (n < (x + 1) * (x + 1)) ∧ Hid (RdAt wr .u32 B (digs 4294967296 x)) ∧ Hid (RdAt wr .u32 A (digs 4294967296 n)) ∧ Box2 w wr 23 (.bool (sg n)) (.string (mg n))) (fun v6 wr => rdVal wr v6)
  case atStart =>
    have hv : ((2 : Int) ^ (k % 32) % 4294967296) = ((2 ^ (k % 32) : Nat) : Int) := by
      have hlt : 2 ^ (k % 32) < 4294967296 := by
        have : (2 : Nat) ^ (k % 32) < 2 ^ 32 := Nat.pow_lt_pow_right (by decide) (Nat.mod_lt _ (by decide))
        exact this
      rw [show ((2 : Int) ^ (k % 32)) = ((2 ^ (k % 32) : Nat) : Int) from by simp]
      generalize 2 ^ (k % 32) = g at *
      omega
    rw [hv]
    have hB2 := HB.out.set (k / 32) (2 ^ (k % 32))
    have hb2 : Below W3.heap.size W3 (w4.setCell ⟨W3.heap.size, k / 32, none⟩ (.int .u32 ((2 ^ (k % 32) : Nat) : Int))) := HW.setCell (by simp) _
    have hl2 : k / 32 + 1 = (digs 4294967296 (2 ^ k)).length := by rw [← hP]; simp
    rw [hP] at hB2
    refine ⟨2 ^ k, some ⟨W3.heap.size, 0, none⟩, k / 32 + 1, by rw [← hl2], by omega, Lib.hid (Nat.pow_pos (by decide)), Lib.hid (Nat.le_refl _), Lib.hid ?_, Lib.hid hB2.rd, Lib.hid (HR.out.below hb2), H3.out.below hb2⟩
    have := nbits_lt n
    rw [← HK.out] at this
    have h2 : 2 ^ (2 * k) = 2 ^ k * 2 ^ k := by rw [← Nat.pow_add]; congr 1; omega
    have h3 : 2 ^ k * 2 ^ k ≤ (2 ^ k + 1) * (2 ^ k + 1) := Nat.mul_le_mul (by omega) (by omega)
    omega
  case round =>
    obtain ⟨x, B, d, rfl, hd, hx0, hx2, hxn, hrx, hrn, hB⟩ := hrel
    have hlx : (digs 4294967296 x).length ≤ 30000000 := by
      have h1 := digs_len_mono (B := 4294967296) (by decide) hx2.out
      have hl2 : k / 32 + 1 = (digs 4294967296 (2 ^ k)).length := by rw [← hP]; simp
      omega
    have hlq : (digs 4294967296 (n / x)).length ≤ 100000000 := by
      have h1 := digs_len_mono (B := 4294967296) (by decide) (Nat.div_le_self n x)
      omega
    have hls : (digs 4294967296 (x + n / x)).length ≤ 200000000 := by
      have h1 := digs_len_add (x : Int) ((n / x : Nat) : Int)
      simp only [Int.natAbs_natCast] at h1
      omega
    clear h4 HB hc0 hf0 HW hsz hmk x0 x1 HR HK hP H3
    have HM := Lib.hid (rdVal_eq d hrx.out)
    rw [val_digs (by decide)] at HM
    have HDIV := Lib.hid (divide_any A B c d n x wr hrn.out hrx.out (by omega) (by omega) hc hd (by have := hx0.out; omega))
    go_wp2_with fail
    refine HDIV.out.mono ?_
    rintro e W5 ⟨C, c1, D, d1, rfl, hc1, hd1, hq, hr, hb5⟩
    have hB5 := hB.below hb5
    have HX5 := Lib.hid (hrx.out.below hb5)
    have HN5 := Lib.hid (hrn.out.below hb5)
    have HQ5 := Lib.hid hq
    clear hb5 hrx hrn hB hq hr
    have HADD := Lib.hid (add_any B C d c1 x (n / x) W5 HX5.out HQ5.out (by omega) (by omega) hd hc1)
    go_wp2_with fail
    refine HADD.out.mono ?_
    rintro e W6 ⟨S, s1, rfl, hs1, hs, hb6⟩
    have hB6 := hB5.below hb6
    have HX6 := Lib.hid (HX5.out.below hb6)
    have HN6 := Lib.hid (HN5.out.below hb6)
    have HSM := Lib.hid (small_any S s1 (x + n / x) 2 W6 hs (by omega) (by omega) (by omega))
    clear hb6 hB5 HX5 HN5 HQ5 hs
    go_wp2_with fail
    refine HSM.out.mono ?_
    rintro e W7 ⟨Y, y1, rfl, hy1, hy, hb7⟩
    rw [show (2 : Int).toNat = 2 from rfl] at hy hy1 ⊢
    have hB7 := hB6.below hb7
    have HX7 := Lib.hid (HX6.out.below hb7)
    have HN7 := Lib.hid (HN6.out.below hb7)
    have HY7 := Lib.hid hy
    clear hb7 hB6 HX6 HN6 hy
    have hly : (digs 4294967296 ((x + n / x) / 2)).length ≤ 200000000 := by
      have h1 := digs_len_mono (B := 4294967296) (by decide) (Nat.div_le_self (x + n / x) 2)
      omega
    obtain ⟨y, hyd⟩ : ∃ y, y = (x + n / x) / 2 := ⟨_, rfl⟩
    rw [← hyd] at hly HY7 hy1 ⊢
    have HYD := Lib.hid hyd
    clear hyd
    have HCMP := Lib.hid (compare_any Y B y1 d y x W7 HY7.out HX7.out (by omega) (by omega))
    go_wp2_with fail
    refine HCMP.out.mono ?_
    rintro e W8 ⟨r, rfl, hr1, hr2, nn, rfl⟩
    by_cases hyx : y < x
    · have hr0 := hr1.2 hyx
      have hr0' : ¬ 0 ≤ r := by omega
      clear hr1 hr2
      go_wp2_with fail
      go_roundw
      case rel =>
        refine ⟨y, Y, y1, rfl, hy1, Lib.hid ?_, Lib.hid ?_, Lib.hid ?_, HY7.out, HN7.out, hB7.below (below_drewN (Below.refl _ _) nn)⟩
        · have := hx0.out
          have h2 := HYD.out
          rcases Nat.lt_or_ge x 2 with h3 | h3
          · obtain rfl : x = 1 := by omega
            rw [Nat.div_one] at h2; omega
          · generalize n / x = g at h2; omega
        · have := hx2.out; omega
        · rw [HYD.out]; exact sqrt_step hx0.out
      case measure =>
        show rdVal (W7.drewN nn) (.slice Y (digs 4294967296 y).length y1) < rdVal wr (.slice B (digs 4294967296 x).length d)
        rw [HM.out, rdVal_eq (w := W7.drewN nn) y1 HY7.out, val_digs (by decide)]
        exact hyx
    · have hr0 : ¬ r < 0 := fun h => hyx (hr1.1 h)
      have hr0' : 0 ≤ r := by omega
      clear hr1 hr2
      have HWI := Lib.hid (with_any B d x false (W7.drewN nn) HX7.out (by omega))
      go_wp2_with fail
      refine HWI.out.mono ?_
      rintro e W9 ⟨rfl, hb9⟩
      have hB9 := hB7.below ((below_drewN (Below.refl _ _) nn).trans hb9)
      obtain ⟨z0, z1⟩ := hB9.z.cells
      obtain ⟨c0, c1⟩ := hB9.z.free
      go_wp2_with fail
      rw [show sgnd false x = (x : Int) from rfl]
      obtain ⟨q0, q1, hbl⟩ := hB9.ret (.bool (sg x)) (.string (mg x))
      exact bodyPost_ret (v := .tuple #[vI x, .int .i64 0]) (by simp [results, Tryd.results18, go_sem, vI, q0, q1]) rfl ⟨x, ⟨rfl, hbl⟩, sqrt_end (by have := HYD.out; omega), hxn.out⟩
end Go.Proofs.YtboolbcckfldaaaDoor
