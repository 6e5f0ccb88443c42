import Derived.Test.YtboolbcckfldaaaDoorWalkV
namespace Go.Proofs.YtboolbcckfldaaaDoor
open Go.RowKit
set_option linter.unusedVariables false
set_option linter.unusedSimpArgs false

/-- where the call stands behind the loop over digits: a zero divisor, or two machine words -/
theorem word_mod (p q : Nat) (hp : p < 18446744073709551616) : p % q < 18446744073709551616 := Nat.lt_of_le_of_lt (Nat.mod_le p q) hp

set_option maxHeartbeats 4000000 in
set_option maxRecDepth 100000 in
theorem Gcd_any (x y : Int) (w : World) (hx : Bd 80000000 x) (hy : Bd 80000000 y) : Calls Tryd.prog 34 #[vI x, vI y] w (RetI (Nat.gcd x.natAbs y.natAbs : Nat) w) := by
  have h0 := Box3.new w 23 x y
  have lx := hx.digs
  have ly := hy.digs
  have HX := fun W => Lib.hid (of_mg x W (hx.mono (by omega)))
  have HY := fun W => Lib.hid (of_mg y W (hy.mono (by omega)))
  clear hx hy
  go_enter Tryd.func34, Tryd.ntmps34
  go_wp2_with fail
  obtain ⟨W0, hW0⟩ : ∃ W0, W0 = (((w.alloc (.cells #[.bool (sg x), .string (mg x)] 23)).alloc (.cells #[.bool (sg y), .string (mg y)] 23)).alloc (.cells #[.bool false, .string ⟨#[]⟩] 23)) := ⟨_, rfl⟩
  rw [← hW0] at h0 ⊢
  clear hW0
  refine (Valid_yes x W0).mono ?_
  rintro e W1 ⟨rfl, hb⟩
  have h1 := h0.below hb
  obtain ⟨y0, y1⟩ := h1.y.cells
  clear hb h0
  go_wp2_with fail
  refine (Valid_yes y W1).mono ?_
  rintro e W2 ⟨rfl, hb⟩
  have h2 := h1.below hb
  clear hb h1 y0 y1
  go_wp2_with fail
  have hd : Box3 w W2.drew 23 x y := h2.drewN 1
  go_region_held3 (fun W => W.cell? ⟨w.heap.size, 0, none⟩ = some (.bool (sg x)) ∧ W.cell? ⟨w.heap.size, 1, none⟩ = some (.string (mg x)) ∧ W.cell? ⟨w.heap.size + 1, 0, none⟩ = some (.bool (sg y)) ∧ W.cell? ⟨w.heap.size + 1, 1, none⟩ = some (.string (mg y)))
    (first | exact Box3.seen (by assumption) | exact Box3.seen_set (by assumption) _ _)
    (first
      | (go_at_call_of 39 (Value.string (mg x)); refine (HX _).out.mono ?_; rintro e W' ⟨A, c, rfl, hc1, hrx, hb⟩; have hS := Box3.below (by assumption) hb)
      | (go_at_call_of 39 (Value.string (mg y)); refine (HY _).out.mono ?_; rintro e W'' ⟨B, d, rfl, hc2, hry, hb2⟩; have hS2 := Box3.below (by assumption) hb2; have hrx2 := hrx.below hb2))
  have HRX := Lib.hid hrx2
  have HRY := Lib.hid hry
  clear hrx hrx2 hry hb hb2 hS hd h2 HX HY
  go_wp2_with fail
  go_loopw [5, 6] (fun v5 v6 wr => ∃ (a b : Nat) (A B : Option Addr) (c d : Nat), v5 = .slice A (digs 4294967296 a).length c ∧ v6 = .slice B (digs 4294967296 b).length d ∧ (digs 4294967296 a).length ≤ c ∧ (digs 4294967296 b).length ≤ d ∧ (digs 4294967296 a).length ≤ 80000000 ∧ (digs 4294967296 b).length ≤ 80000000 ∧ Hid (Nat.gcd a b = Nat.gcd x.natAbs y.natAbs) ∧ Hid (RdAt wr .u32 A (digs 4294967296 a)) ∧ Hid (RdAt wr .u32 B (digs 4294967296 b)) ∧ Box3 w wr 23 x y) (fun _ v6 wr => rdVal wr v6)
  case atStart => exact ⟨x.natAbs, y.natAbs, A, B, c, d, rfl, rfl, hc1, hc2, by omega, by omega, Lib.hid rfl, HRX, HRY, hS2⟩
  case round =>
    clear HRX HRY hS2 hc1 hc2 lx ly
    obtain ⟨a, b, A, B, c, d, rfl, rfl, hc, hd, la, lb, hg, hra, hrb, hB⟩ := hrel
    have HM := Lib.hid (rdVal_eq d hrb.out)
    rw [val_digs (by decide)] at HM
    by_cases hbody : 2 < (digs 4294967296 b).length ∨ ((digs 4294967296 b).length ≤ 2 ∧ 2 < (digs 4294967296 a).length ∧ 0 < (digs 4294967296 b).length)
    · have hb0 : b ≠ 0 := by
        rintro rfl
        rw [digs_zero] at hbody
        simp at hbody
      have HDIV := Lib.hid (divide_any A B c d a b wr hra.out hrb.out (by omega) (by omega) hc hd hb0)
      have lr : (digs 4294967296 (a % b)).length ≤ 80000000 := Nat.le_trans (digs_len_mono (by decide) (Nat.mod_le a b)) la
      have HB0 := Lib.hid hb0
      clear hb0
      rcases hbody with g1 | ⟨g0, g1, g2⟩
      all_goals
        go_wp2_with fail
        refine HDIV.out.mono ?_
        rintro e W5 ⟨C, c1, D, d1, rfl, hc1, hd1, hq, hr, hb5⟩
        have hB5 := hB.below hb5
        have HB5 := Lib.hid (hrb.out.below hb5)
        have HR5 := Lib.hid hr
        clear hb5 hq hr
        go_wp2_with fail
        go_roundw
        case rel => exact ⟨b, a % b, B, D, d, d1, rfl, rfl, hd, hd1, lb, lr, Lib.hid (by rw [← gcd_step]; exact hg.out), HB5, HR5, hB5⟩
        case measure =>
          show rdVal W5 (.slice D (digs 4294967296 (a % b)).length d1) < rdVal wr (.slice B (digs 4294967296 b).length d)
          rw [HM.out, rdVal_eq (w := W5) d1 HR5.out, val_digs (by decide)]
          exact Nat.mod_lt _ (by have := HB0.out; omega)
    · by_cases hz : (digs 4294967296 b).length = 0
      · have hb0 : b = 0 := (digs_nil_iff (by decide) b).1 (List.eq_nil_of_length_eq_zero hz)
        have hzi : ((digs 4294967296 b).length : Int) = 0 := by omega
        have g1 : ¬ (2 : Int) < ((digs 4294967296 b).length : Int) := by omega
        have g2 : ¬ (0 : Int) < ((digs 4294967296 b).length : Int) := by omega
        have g3 : (((digs 4294967296 b).length : Int) == 0) = true := by rw [hzi]; rfl
        have HWI := Lib.hid (with_any A c a false wr hra.out (by omega))
        have HG : Hid ((Nat.gcd x.natAbs y.natAbs : Nat) = a) := Lib.hid (by rw [← hg.out, hb0, Nat.gcd_zero_right])
        have HZI := Lib.hid hzi
        clear hbody hz hb0 hzi hg
        by_cases g4 : (2 : Int) < ((digs 4294967296 a).length : Int)
        all_goals
          go_wp2_with fail
          refine HWI.out.mono ?_
          rintro e W9 ⟨rfl, hb9⟩
          have hB9 := hB.below hb9
          obtain ⟨z0, z1⟩ := hB9.z.cells
          obtain ⟨c0, c1⟩ := hB9.z.free
          go_wp2_with fail
          rw [show sgnd false a = (a : Int) from rfl]
          obtain ⟨q0, q1, hbl⟩ := hB9.ret (.bool (sg a)) (.string (mg a))
          rw [HG.out]
          exact bodyPost_ret (v := vI a) (by simp [results, Tryd.results34, go_sem, vI, q0, q1]) rfl ⟨rfl, hbl⟩
      · have g1 : ¬ (2 : Int) < ((digs 4294967296 b).length : Int) := by omega
        have g2 : ¬ (2 : Int) < ((digs 4294967296 a).length : Int) := by omega
        have g3 : (((digs 4294967296 b).length : Int) == 0) = false := by rw [beq_eq_false_iff_ne]; omega
        have H1 := Lib.hid (single_any A c a wr hra.out (by omega))
        have H2 := Lib.hid (single_any B d b wr hrb.out (by omega))
        have pa : Hid (a < 18446744073709551616) := Lib.hid (by
          have := lt_pow_digs (B := 4294967296) (by decide) a
          have h2 : 4294967296 ^ (digs 4294967296 a).length ≤ 4294967296 ^ 2 := Nat.pow_le_pow_right (by decide) (by omega)
          omega)
        have pb : Hid (b < 18446744073709551616) := Lib.hid (by
          have := lt_pow_digs (B := 4294967296) (by decide) b
          have h2 : 4294967296 ^ (digs 4294967296 b).length ≤ 4294967296 ^ 2 := Nat.pow_le_pow_right (by decide) (by omega)
          omega)
        clear hbody hz
        go_wp2_with fail
        refine H1.out.mono ?_
        rintro e W5 ⟨rfl, rfl⟩
        go_wp2_with fail
        refine H2.out.mono ?_
        rintro e W5 ⟨rfl, rfl⟩
        clear H1 H2 g1 g2 g3 la lb hc hd hra hrb HM
        go_wp2_with fail
        obtain ⟨wo, rfl⟩ : ∃ wo : World, wo = wr := ⟨_, rfl⟩
        go_loopw [9, 10] (fun v9 v10 wr => ∃ (p q n : Nat), v9 = .int .u64 p ∧ v10 = .int .u64 q ∧ Hid (p < 18446744073709551616) ∧ Hid (q < 18446744073709551616) ∧ Hid (Nat.gcd p q = Nat.gcd x.natAbs y.natAbs) ∧ wr = wo.drewN n) (fun _ v10 _ => (intOf v10).toNat)
        case atStart => exact ⟨a, b, 0, rfl, rfl, pa, pb, hg, rfl⟩
        case round =>
          clear hg pa pb
          obtain ⟨p, q, n, rfl, rfl, pp, pq, hg, rfl⟩ := hrel
          by_cases hq : q = 0
          · subst hq
            have HG : Hid ((Nat.gcd x.natAbs y.natAbs : Nat) = p) := Lib.hid (by rw [← hg.out, Nat.gcd_zero_right])
            have HW := Lib.hid (word_any (p : Int) (wo.drewN n) (by omega) (by have := pp.out; omega))
            rw [show ((p : Int)).toNat = p from rfl] at HW
            clear hg
            go_wp2_with fail
            refine HW.out.mono ?_
            rintro e W6 ⟨C, c1, rfl, hc1, hr, hb6⟩
            have hB6 := (hB.drewN n).below hb6
            have lp : (digs 4294967296 p).length ≤ 1000000000 := by
              have := digs_length_le (B := 4294967296) (n := p) (k := 2) (by decide) (by have := pp.out; omega)
              omega
            have HWI := Lib.hid (with_any C c1 p false W6 hr lp)
            clear hb6 hr hB
            go_wp2_with fail
            refine HWI.out.mono ?_
            rintro e W9 ⟨rfl, hb9⟩
            have hB9 := hB6.below hb9
            obtain ⟨z0, z1⟩ := hB9.z.cells
            obtain ⟨c0, c1'⟩ := hB9.z.free
            go_wp2_with fail
            rw [show sgnd false p = (p : Int) from rfl]
            obtain ⟨q0, q1, hbl⟩ := hB9.ret (.bool (sg p)) (.string (mg p))
            rw [HG.out]
            exact bodyPost_ret (v := vI p) (by simp [results, Tryd.results34, go_sem, vI, q0, q1]) rfl ⟨rfl, hbl⟩
          · have hq' : ((q : Int) != 0) = true := by rw [bne_iff_ne]; omega
            have hq2 : ((q : Int) == 0) = false := by rw [beq_eq_false_iff_ne]; omega
            have HQ := Lib.hid hq
            have hq3 : ¬ (q : Int) = 0 := by omega
            have hr1 : IntKind.u64.wrap ((p : Int) % (q : Int)) = ((p % q : Nat) : Int) := by
              have := word_mod p q pp.out
              rw [← Int.natCast_emod]
              exact wru64 (by omega) (by omega)
            have hr2 : ((p : Int)).tmod (q : Int) = (p : Int) % (q : Int) := Int.tmod_eq_emod_of_nonneg (by omega)
            clear hq
            go_wp2_with fail
            go_quiet (fail)
            go_wp2_with fail
            go_roundw
            case rel => exact ⟨q, p % q, _, rfl, by first | rfl | (congr 1; omega), pq, Lib.hid (word_mod p q pp.out), Lib.hid (by rw [← gcd_step]; exact hg.out), by first | rfl | (simp only [World.drewN_drewN]; rfl)⟩
            case measure =>
              have := Nat.mod_lt p (Nat.pos_of_ne_zero HQ.out)
              simp [intOf]; omega
end Go.Proofs.YtboolbcckfldaaaDoor
