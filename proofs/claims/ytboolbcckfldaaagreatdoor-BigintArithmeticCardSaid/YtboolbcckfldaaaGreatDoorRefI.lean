import Derived.Test.YtboolbcckfldaaaGreatDoorRefH
namespace Go.Proofs.YtboolbcckfldaaaGreatDoor
open Go.RowKit
set_option linter.unusedVariables false
set_option linter.unusedSimpArgs false

theorem nbits_half {x : Nat} (h : x ≠ 0) : nbits (x / 2) + 1 = nbits x := by
  unfold nbits
  rw [if_neg h]
  by_cases h2 : x / 2 = 0
  · rw [if_pos h2]
    have : x = 1 := by omega
    subst this; rfl
  · rw [if_neg h2, Nat.log2_def x, if_pos (by omega)]
theorem nbits_top {k g L : Nat} (hg : g ≠ 0) (hL : L < 2 ^ (24 * k)) : nbits (L + 2 ^ (24 * k) * g) = 24 * k + nbits g := by
  have hp : 0 < 2 ^ (24 * k) := Nat.pow_pos (by decide)
  have hn : L + 2 ^ (24 * k) * g ≠ 0 := by
    have := Nat.mul_pos hp (Nat.pos_of_ne_zero hg); omega
  unfold nbits
  rw [if_neg hn, if_neg hg]
  have h1 := Nat.log2_self_le hg
  have h2 := Nat.lt_log2_self (n := g)
  have h4 : 2 ^ (24 * k + g.log2) ≤ L + 2 ^ (24 * k) * g := by
    rw [Nat.pow_add]
    have := Nat.mul_le_mul_left (2 ^ (24 * k)) h1
    omega
  have h5 : L + 2 ^ (24 * k) * g < 2 ^ (24 * k + (g.log2 + 1)) := by
    rw [Nat.pow_add]
    have : 2 ^ (24 * k) * (g + 1) ≤ 2 ^ (24 * k) * 2 ^ (g.log2 + 1) := Nat.mul_le_mul_left _ h2
    rw [Nat.mul_add] at this; omega
  have h6 := (Nat.le_log2 hn).2 h4
  have h7 := (Nat.log2_lt hn).2 h5
  omega
theorem nbits_digs (n : Nat) (k : Nat) (hk : (digs 16777216 n).length = k + 1) : nbits n = 24 * k + nbits (gd (digs 16777216 n) k) := by
  have hn : n ≠ 0 := by rintro rfl; rw [digs_zero] at hk; simp at hk
  have h0 : gd (digs 16777216 n) k ≠ 0 := by have := digs_last (B := 16777216) (by decide) n hn; rw [hk] at this; simpa using this
  have h1 := val_split 16777216 (digs 16777216 n) k (by omega)
  have h2 := val_drop 16777216 (digs 16777216 n) k (by omega)
  rw [List.drop_of_length_le (show (digs 16777216 n).length ≤ k + 1 by omega)] at h2
  simp only [val, Nat.mul_zero, Nat.add_zero] at h2
  have h3 := val_lt ((digs_Dig (B := 16777216) (by decide) n).take k)
  rw [List.length_take, Nat.min_eq_left (by omega)] at h3
  rw [h2, val_digs (by decide)] at h1
  rw [show (16777216 : Nat) ^ k = 2 ^ (24 * k) from by rw [Nat.pow_mul]] at h1 h3
  have := nbits_top h0 h3
  rw [← h1] at this
  exact this

set_option maxHeartbeats 1000000 in
set_option maxRecDepth 100000 in
theorem Rbits_any (A : Option Addr) (c n : Nat) (w : World) (hx : RdAt w .i64 A (digs 16777216 n)) (hl : (digs 16777216 n).length ≤ 1000000000) :
    Calls Tryz.prog 48 #[.slice A (digs 16777216 n).length c] w (RetN (nbits n) w) := by
  rcases Nat.eq_zero_or_pos (digs 16777216 n).length with h0 | h0
  · have hn : n = 0 := (digs_nil_iff (by decide) n).1 (List.eq_nil_of_length_eq_zero h0)
    rw [h0]
    subst hn
    go_enter Tryz.func48, Tryz.ntmps48
    go_wp2_with fail
    go_ret
    exact ⟨rfl, Below.refl _ _⟩
  · obtain ⟨k, hk⟩ : ∃ k, (digs 16777216 n).length = k + 1 := ⟨(digs 16777216 n).length - 1, by omega⟩
    have HN := Lib.hid (nbits_digs n k hk)
    obtain ⟨b, o, rfl, hc⟩ := hx k (by omega)
    have hg := (digs_Dig (B := 16777216) (by decide) n).gd (by decide) k
    generalize gd (digs 16777216 n) k = g at *
    rw [hk]
    have hq : (((k : Int) + 1) == 0) = false := by rw [beq_eq_false_iff_ne]; omega
    have hkl : k ≤ 1000000000 := by omega
    clear hk h0 hx hl
    go_enter Tryz.func48, Tryz.ntmps48
    go_wp2_with fail
    go_loop [3, 4] (fun v3 v4 => ∃ m x : Nat, v3 = .int .i64 m ∧ v4 = .int .i64 x ∧ x < 16777216 ∧ m ≤ 24 * k + 100000000 - x ∧ Hid (m + nbits x = 24 * k + nbits g)) (fun _ v4 => (intOf v4).toNat)
    case atStart => exact ⟨24 * k, g, by go_num, rfl, hg, by omega, Lib.hid rfl⟩
    case round =>
      obtain ⟨m, x, rfl, rfl, hx, hm, hv⟩ := hrel
      by_cases hx0 : 0 < x
      · have HX := Lib.hid (nbits_half (x := x) (by omega))
        go_wp2_with fail
        go_round
        case rel => exact ⟨m + 1, x / 2, by go_num, by go_num, by omega, by omega, Lib.hid (by have := HX.out; have := hv.out; omega)⟩
        case measure => simp [intOf]; omega
      · go_wp2_with fail
        go_ret
        have h1 := hv.out
        have h2 := HN.out
        have h3 : x = 0 := by omega
        subst h3
        rw [show nbits 0 = 0 from rfl] at h1
        exact ⟨ret_int (by omega), Below.refl _ _⟩

set_option maxHeartbeats 1000000 in
set_option maxRecDepth 100000 in
theorem RBits_any (x : Int) (w : World) (hx : Bd 400000000 x) : Calls Tryz.prog 23 #[vI x] w (RetN (nbits x.natAbs) w) := by
  have H1 := fun W => Lib.hid (RValid_yes x W)
  have HX := fun W => Lib.hid (Rdigits_mg x W (hx.mono (by omega)))
  have lx := hx.digs24
  clear hx
  go_enter Tryz.func23, Tryz.ntmps23
  go_wp2_with fail
  have t1 := Ob.new (w) 23 #[.bool (sg x), .string (mg x)]
  have bl := ((Below.refl w.heap.size w).alloc (Nat.le_refl _) (.cells #[.bool (sg x), .string (mg x)] 23))
  try simp only [World.size_alloc] at t1
  generalize World.alloc w _ = W1 at t1 bl ⊢
  refine ((H1 W1).out).mono ?_
  rintro e W2 ⟨rfl, hb⟩
  have t1 := t1.below hb t1.lt
  have bl := bl.trans (Below.mono hb bl.size)
  clear hb
  obtain ⟨c0_0, c0_1⟩ := t1.cells2
  go_wp2_with fail
  clear c0_0 c0_1
  refine ((HX W2).out).mono ?_
  rintro e W3 ⟨A1, c1, rfl, hc1, hr1, hb⟩
  have t1 := t1.below hb t1.lt
  have bl := bl.trans (Below.mono hb bl.size)
  clear hb
  go_wp2_with fail
  refine (Rbits_any A1 c1 x.natAbs W3 hr1 (by omega)).mono ?_
  rintro e W4 ⟨rfl, hb⟩
  have t1 := t1.below hb t1.lt
  have hr1 := hr1.below hb
  have bl := bl.trans (Below.mono hb bl.size)
  clear hb
  go_wp2_with fail
  go_ret
  exact ⟨rfl, bl⟩

theorem sign_cases (x : Int) : x.sign = -1 ∧ x < 0 ∨ x.sign = 0 ∧ x = 0 ∨ x.sign = 1 ∧ 0 < x := by
  rcases Int.lt_trichotomy x 0 with h | h | h
  · exact .inl ⟨Int.sign_eq_neg_one_of_neg h, h⟩
  · exact .inr (.inl ⟨by rw [h]; rfl, h⟩)
  · exact .inr (.inr ⟨Int.sign_eq_one_of_pos h, h⟩)
theorem sub_sign_lt {x y : Int} (h : x < y) : (x - y).sign = -1 := Int.sign_eq_neg_one_of_neg (by omega)
theorem sub_sign_gt {x y : Int} (h : y < x) : (x - y).sign = 1 := Int.sign_eq_one_of_pos (by omega)

set_option maxHeartbeats 1000000 in
set_option maxRecDepth 100000 in
theorem RCmp_lt (x y : Int) (w : World) (h : x.sign < y.sign) : Calls Tryz.prog 21 #[vI x, vI y] w (RetN (x - y).sign w) := by
  have H1 := fun W => Lib.hid (RValid_yes x W)
  have H2 := fun W => Lib.hid (RValid_yes y W)
  have H3 := fun W => Lib.hid (RSign_any x W)
  have H4 := fun W => Lib.hid (RSign_any y W)
  have HV : Hid ((x - y).sign = -1) := Lib.hid (sub_sign_lt (by
    have h1 := sign_cases x
    have h2 := sign_cases y
    omega))
  have hq : (x.sign != y.sign) = true := by rw [bne_iff_ne]; omega
  rw [HV.out]
  clear HV
  generalize x.sign = sx at *
  generalize y.sign = sy at *
  go_enter Tryz.func21, Tryz.ntmps21
  go_wp2_with fail
  have t2 := (Ob.new (w) 23 #[.bool (sg x), .string (mg x)]).alloc (.cells #[.bool (sg y), .string (mg y)] 23)
  have t3 := Ob.new ((w.alloc (.cells #[.bool (sg x), .string (mg x)] 23))) 23 #[.bool (sg y), .string (mg y)]
  have bl := (((Below.refl w.heap.size w).alloc (Nat.le_refl _) (.cells #[.bool (sg x), .string (mg x)] 23)).alloc (by simp only [World.size_alloc]; omega) (.cells #[.bool (sg y), .string (mg y)] 23))
  try simp only [World.size_alloc] at t2 t3
  generalize World.alloc (World.alloc w _) _ = W1 at t2 t3 bl ⊢
  refine ((H1 W1).out).mono ?_
  rintro e W2 ⟨rfl, hb⟩
  have t2 := t2.below hb t2.lt
  have t3 := t3.below hb t3.lt
  have bl := bl.trans (Below.mono hb bl.size)
  clear hb
  obtain ⟨c0_0, c0_1⟩ := t3.cells2
  go_wp2_with fail
  clear c0_0 c0_1
  refine ((H2 W2).out).mono ?_
  rintro e W3 ⟨rfl, hb⟩
  have t2 := t2.below hb t2.lt
  have t3 := t3.below hb t3.lt
  have bl := bl.trans (Below.mono hb bl.size)
  clear hb
  go_wp2_with fail
  refine region_qb (by kernel_rfl) (by kernel_rfl) ?_
  refine qb_run (vI x) (by kernel_rfl) (fun w' hC => by obtain ⟨q0, q1⟩ := (t2.below hC t2.lt).cells2; go_simp) ?_
  simp only [Act.put, List.setIfInBounds_toArray, List.set_cons_zero, List.set_cons_succ]
  refine qb_call (.int .i64 sx) 19 #[vI x] (by kernel_rfl) (fun w' => by go_simp) (fun w' hC => ((H3 w').out).mono (fun e w'' h => ⟨h.1, hC.step h.2⟩)) ?_
  simp only [Act.put, List.setIfInBounds_toArray, List.set_cons_zero, List.set_cons_succ]
  refine qb_run (vI y) (by kernel_rfl) (fun w' hC => by obtain ⟨q0, q1⟩ := (t3.below hC t3.lt).cells2; go_simp) ?_
  simp only [Act.put, List.setIfInBounds_toArray, List.set_cons_zero, List.set_cons_succ]
  refine qb_call (.int .i64 sy) 19 #[vI y] (by kernel_rfl) (fun w' => by go_simp) (fun w' hC => ((H4 w').out).mono (fun e w'' h => ⟨h.1, hC.step h.2⟩)) ?_
  simp only [Act.put, List.setIfInBounds_toArray, List.set_cons_zero, List.set_cons_succ]
  refine qb_mv (.int .i64 sx) _ (.inr rfl) (by kernel_rfl) (by rfl) ?_
  simp only [Act.put, List.setIfInBounds_toArray, List.set_cons_zero, List.set_cons_succ]
  refine qb_mv (.int .i64 sy) _ (.inr rfl) (by kernel_rfl) (by rfl) ?_
  simp only [Act.put, List.setIfInBounds_toArray, List.set_cons_zero, List.set_cons_succ]
  refine wpQuiet_nil (fun W4 hb => ?_)
  have t2 := t2.below hb t2.lt
  have t3 := t3.below hb t3.lt
  have bl := bl.trans (Below.mono hb bl.size)
  clear hb
  go_wp2_with fail
  go_ret
  exact ⟨rfl, bl⟩
set_option maxHeartbeats 1000000 in
set_option maxRecDepth 100000 in
theorem RCmp_gt (x y : Int) (w : World) (h : y.sign < x.sign) : Calls Tryz.prog 21 #[vI x, vI y] w (RetN (x - y).sign w) := by
  have H1 := fun W => Lib.hid (RValid_yes x W)
  have H2 := fun W => Lib.hid (RValid_yes y W)
  have H3 := fun W => Lib.hid (RSign_any x W)
  have H4 := fun W => Lib.hid (RSign_any y W)
  have HV : Hid ((x - y).sign = 1) := Lib.hid (sub_sign_gt (by
    have h1 := sign_cases x
    have h2 := sign_cases y
    omega))
  have hq : (x.sign != y.sign) = true := by rw [bne_iff_ne]; omega
  rw [HV.out]
  clear HV
  generalize x.sign = sx at *
  generalize y.sign = sy at *
  go_enter Tryz.func21, Tryz.ntmps21
  go_wp2_with fail
  have t2 := (Ob.new (w) 23 #[.bool (sg x), .string (mg x)]).alloc (.cells #[.bool (sg y), .string (mg y)] 23)
  have t3 := Ob.new ((w.alloc (.cells #[.bool (sg x), .string (mg x)] 23))) 23 #[.bool (sg y), .string (mg y)]
  have bl := (((Below.refl w.heap.size w).alloc (Nat.le_refl _) (.cells #[.bool (sg x), .string (mg x)] 23)).alloc (by simp only [World.size_alloc]; omega) (.cells #[.bool (sg y), .string (mg y)] 23))
  try simp only [World.size_alloc] at t2 t3
  generalize World.alloc (World.alloc w _) _ = W1 at t2 t3 bl ⊢
  refine ((H1 W1).out).mono ?_
  rintro e W2 ⟨rfl, hb⟩
  have t2 := t2.below hb t2.lt
  have t3 := t3.below hb t3.lt
  have bl := bl.trans (Below.mono hb bl.size)
  clear hb
  obtain ⟨c0_0, c0_1⟩ := t3.cells2
  go_wp2_with fail
  clear c0_0 c0_1
  refine ((H2 W2).out).mono ?_
  rintro e W3 ⟨rfl, hb⟩
  have t2 := t2.below hb t2.lt
  have t3 := t3.below hb t3.lt
  have bl := bl.trans (Below.mono hb bl.size)
  clear hb
  go_wp2_with fail
  refine region_qb (by kernel_rfl) (by kernel_rfl) ?_
  refine qb_run (vI x) (by kernel_rfl) (fun w' hC => by obtain ⟨q0, q1⟩ := (t2.below hC t2.lt).cells2; go_simp) ?_
  simp only [Act.put, List.setIfInBounds_toArray, List.set_cons_zero, List.set_cons_succ]
  refine qb_call (.int .i64 sx) 19 #[vI x] (by kernel_rfl) (fun w' => by go_simp) (fun w' hC => ((H3 w').out).mono (fun e w'' h => ⟨h.1, hC.step h.2⟩)) ?_
  simp only [Act.put, List.setIfInBounds_toArray, List.set_cons_zero, List.set_cons_succ]
  refine qb_run (vI y) (by kernel_rfl) (fun w' hC => by obtain ⟨q0, q1⟩ := (t3.below hC t3.lt).cells2; go_simp) ?_
  simp only [Act.put, List.setIfInBounds_toArray, List.set_cons_zero, List.set_cons_succ]
  refine qb_call (.int .i64 sy) 19 #[vI y] (by kernel_rfl) (fun w' => by go_simp) (fun w' hC => ((H4 w').out).mono (fun e w'' h => ⟨h.1, hC.step h.2⟩)) ?_
  simp only [Act.put, List.setIfInBounds_toArray, List.set_cons_zero, List.set_cons_succ]
  refine qb_mv (.int .i64 sx) _ (.inr rfl) (by kernel_rfl) (by rfl) ?_
  simp only [Act.put, List.setIfInBounds_toArray, List.set_cons_zero, List.set_cons_succ]
  refine qb_mv (.int .i64 sy) _ (.inr rfl) (by kernel_rfl) (by rfl) ?_
  simp only [Act.put, List.setIfInBounds_toArray, List.set_cons_zero, List.set_cons_succ]
  refine wpQuiet_nil (fun W4 hb => ?_)
  have t2 := t2.below hb t2.lt
  have t3 := t3.below hb t3.lt
  have bl := bl.trans (Below.mono hb bl.size)
  clear hb
  go_wp2_with fail
  go_ret
  exact ⟨rfl, bl⟩
theorem cmp_same {x y : Int} (h : x.sign = y.sign) : x.sign * cmpN x.natAbs y.natAbs = (x - y).sign := by
  have h1 := sign_cases x
  have h2 := sign_cases y
  rcases Int.lt_trichotomy x y with h3 | h3 | h3
  · rw [sub_sign_lt h3]
    rcases h1 with ⟨e, h1⟩ | ⟨e, h1⟩ | ⟨e, h1⟩
    · rw [e, cmpN_gt (by omega)]; rfl
    · omega
    · rw [e, cmpN_lt (by omega)]; rfl
  · subst h3
    rw [Int.sub_self, cmpN_eq rfl]; simp
  · rw [sub_sign_gt h3]
    rcases h1 with ⟨e, h1⟩ | ⟨e, h1⟩ | ⟨e, h1⟩
    · rw [e, cmpN_lt (by omega)]; rfl
    · omega
    · rw [e, cmpN_gt (by omega)]; rfl
set_option maxHeartbeats 1000000 in
set_option maxRecDepth 100000 in
theorem RCmp_same (x y : Int) (w : World) (hx : Bd 400000000 x) (hy : Bd 400000000 y) (h : x.sign = y.sign) : Calls Tryz.prog 21 #[vI x, vI y] w (RetN (x - y).sign w) := by
  have H1 := fun W => Lib.hid (RValid_yes x W)
  have H2 := fun W => Lib.hid (RValid_yes y W)
  have H3 := fun W => Lib.hid (RSign_any x W)
  have H4 : ∀ W, Hid (Calls Tryz.prog 19 #[vI y] W (RetN x.sign W)) := fun W => Lib.hid (by rw [h]; exact RSign_any y W)
  have HX := fun W => Lib.hid (Rdigits_mg x W (hx.mono (by omega)))
  have HY := fun W => Lib.hid (Rdigits_mg y W (hy.mono (by omega)))
  have lx := hx.digs24
  have ly := hy.digs24
  have HV := Lib.hid (cmp_same h)
  have hq : (x.sign != x.sign) = false := by simp
  have HQ : Hid (IntKind.i64.wrap (x.sign * cmpN x.natAbs y.natAbs) = x.sign * cmpN x.natAbs y.natAbs) := Lib.hid (by
    rw [HV.out]
    have := sign_cases (x - y)
    exact wr64 (by omega) (by omega))
  clear hx hy h
  rw [← HV.out]
  clear HV
  generalize x.sign = sx at *
  generalize hco : cmpN x.natAbs y.natAbs = co at *
  have HO : ∀ (A1 A2 : Option Addr) (c1 c2 : Nat) W, RdAt W .i64 A1 (digs 16777216 x.natAbs) → RdAt W .i64 A2 (digs 16777216 y.natAbs) → Hid (Calls Tryz.prog 44 #[.slice A1 (digs 16777216 x.natAbs).length c1, .slice A2 (digs 16777216 y.natAbs).length c2] W (RetN co W)) := fun A1 A2 c1 c2 W r1 r2 => Lib.hid (by
    subst hco
    exact (Rorder_any A1 A2 c1 c2 x.natAbs y.natAbs W r1 r2 (by omega) (by omega)).mono (fun e w' h => RetOrd.below h))
  clear hco
  go_enter Tryz.func21, Tryz.ntmps21
  go_wp2_with fail
  have t2 := (Ob.new (w) 23 #[.bool (sg x), .string (mg x)]).alloc (.cells #[.bool (sg y), .string (mg y)] 23)
  have t3 := Ob.new ((w.alloc (.cells #[.bool (sg x), .string (mg x)] 23))) 23 #[.bool (sg y), .string (mg y)]
  have bl := (((Below.refl w.heap.size w).alloc (Nat.le_refl _) (.cells #[.bool (sg x), .string (mg x)] 23)).alloc (by simp only [World.size_alloc]; omega) (.cells #[.bool (sg y), .string (mg y)] 23))
  try simp only [World.size_alloc] at t2 t3
  generalize World.alloc (World.alloc w _) _ = W1 at t2 t3 bl ⊢
  refine ((H1 W1).out).mono ?_
  rintro e W2 ⟨rfl, hb⟩
  have t2 := t2.below hb t2.lt
  have t3 := t3.below hb t3.lt
  have bl := bl.trans (Below.mono hb bl.size)
  clear hb
  obtain ⟨c0_0, c0_1⟩ := t3.cells2
  go_wp2_with fail
  clear c0_0 c0_1
  refine ((H2 W2).out).mono ?_
  rintro e W3 ⟨rfl, hb⟩
  have t2 := t2.below hb t2.lt
  have t3 := t3.below hb t3.lt
  have bl := bl.trans (Below.mono hb bl.size)
  clear hb
  go_wp2_with fail
  refine region_qb (by kernel_rfl) (by kernel_rfl) ?_
  refine qb_run (vI x) (by kernel_rfl) (fun w' hC => by obtain ⟨q0, q1⟩ := (t2.below hC t2.lt).cells2; go_simp) ?_
  simp only [Act.put, List.setIfInBounds_toArray, List.set_cons_zero, List.set_cons_succ]
  refine qb_call (.int .i64 sx) 19 #[vI x] (by kernel_rfl) (fun w' => by go_simp) (fun w' hC => ((H3 w').out).mono (fun e w'' h => ⟨h.1, hC.step h.2⟩)) ?_
  simp only [Act.put, List.setIfInBounds_toArray, List.set_cons_zero, List.set_cons_succ]
  refine qb_run (vI y) (by kernel_rfl) (fun w' hC => by obtain ⟨q0, q1⟩ := (t3.below hC t3.lt).cells2; go_simp) ?_
  simp only [Act.put, List.setIfInBounds_toArray, List.set_cons_zero, List.set_cons_succ]
  refine qb_call (.int .i64 sx) 19 #[vI y] (by kernel_rfl) (fun w' => by go_simp) (fun w' hC => ((H4 w').out).mono (fun e w'' h => ⟨h.1, hC.step h.2⟩)) ?_
  simp only [Act.put, List.setIfInBounds_toArray, List.set_cons_zero, List.set_cons_succ]
  refine qb_mv (.int .i64 sx) _ (.inr rfl) (by kernel_rfl) (by rfl) ?_
  simp only [Act.put, List.setIfInBounds_toArray, List.set_cons_zero, List.set_cons_succ]
  refine qb_mv (.int .i64 sx) _ (.inr rfl) (by kernel_rfl) (by rfl) ?_
  simp only [Act.put, List.setIfInBounds_toArray, List.set_cons_zero, List.set_cons_succ]
  refine wpQuiet_nil (fun W4 hb => ?_)
  have t2 := t2.below hb t2.lt
  have t3 := t3.below hb t3.lt
  have bl := bl.trans (Below.mono hb bl.size)
  clear hb
  go_wp2_with fail
  have s2 := t2
  have s3 := t3
  refine region_by (CB W4) 9 [(0, true), (1, true), (2, true), (4, true), (5, true), (3, false), (6, false), (7, false), (8, true)] (by kernel_rfl) (by kernel_rfl) (CB.drew0 W4) ?_
  refine wpBy.look _ (.int .i64 sx) rfl (by kernel_rfl) (by intro w' hC; go_simp) ?_
  try simp only [Act.put, List.setIfInBounds_toArray, List.set_cons_zero, List.set_cons_succ]
  refine wpBy.look _ (.pointer (some ⟨w.heap.size, 1, none⟩)) rfl (by kernel_rfl) (by intro w' hC; go_simp) ?_
  try simp only [Act.put, List.setIfInBounds_toArray, List.set_cons_zero, List.set_cons_succ]
  refine wpBy.look _ (.string (mg x)) rfl (by kernel_rfl) (by intro w' hC; obtain ⟨q0, q1⟩ := (s2.below hC s2.lt).cells2; go_simp) ?_
  try simp only [Act.put, List.setIfInBounds_toArray, List.set_cons_zero, List.set_cons_succ]
  refine wpBy.look _ (.pointer (some ⟨w.heap.size + 1, 1, none⟩)) rfl (by kernel_rfl) (by intro w' hC; go_simp) ?_
  try simp only [Act.put, List.setIfInBounds_toArray, List.set_cons_zero, List.set_cons_succ]
  refine wpBy.look _ (.string (mg y)) rfl (by kernel_rfl) (by intro w' hC; obtain ⟨q0, q1⟩ := (s3.below hC s3.lt).cells2; go_simp) ?_
  try simp only [Act.put, List.setIfInBounds_toArray, List.set_cons_zero, List.set_cons_succ]
  refine wpBy.do _ rfl (fun K hK => ?_)
  go_simp
  refine ((HX _).out).mono ?_
  rintro e W5 ⟨A1, c1, rfl, hc1, hr1, hb⟩
  have hb : CB W4 W5 := CB.of_drew hb
  have hS := hb
  have t2 := t2.below hb t2.lt
  have t3 := t3.below hb t3.lt
  have bl := bl.trans (Below.mono hb bl.size)
  dsimp only
  refine hK.out _ _ hS ?_
  clear hK K hb
  try simp only [Act.put, List.setIfInBounds_toArray, List.set_cons_zero, List.set_cons_succ]
  refine wpBy.do _ rfl (fun K hK => ?_)
  go_simp
  refine ((HY W5).out).mono ?_
  rintro e W6 ⟨A2, c2, rfl, hc2, hr2, hb⟩
  have hS := hS.step hb
  have t2 := t2.below hb t2.lt
  have t3 := t3.below hb t3.lt
  have hr1 := hr1.below hb
  have bl := bl.trans (Below.mono hb bl.size)
  dsimp only
  refine hK.out _ _ hS ?_
  clear hK K hb
  try simp only [Act.put, List.setIfInBounds_toArray, List.set_cons_zero, List.set_cons_succ]
  refine wpBy.do _ rfl (fun K hK => ?_)
  go_simp
  refine ((HO A1 A2 c1 c2 W6 hr1 hr2).out).mono ?_
  rintro e W7 ⟨rfl, hb⟩
  have hS := hS.step hb
  have t2 := t2.below hb t2.lt
  have t3 := t3.below hb t3.lt
  have hr1 := hr1.below hb
  have hr2 := hr2.below hb
  have bl := bl.trans (Below.mono hb bl.size)
  dsimp only
  refine hK.out _ _ hS ?_
  clear hK K hb
  try simp only [Act.put, List.setIfInBounds_toArray, List.set_cons_zero, List.set_cons_succ]
  refine wpBy.look _ (.int .i64 (sx * co)) rfl (by kernel_rfl) (by intro w' hC; have q1 := HQ.out; go_simp) ?_
  try simp only [Act.put, List.setIfInBounds_toArray, List.set_cons_zero, List.set_cons_succ]
  clear hS s2 s3
  simp only [wpBy, List.drop_succ_cons, List.drop_zero]
  go_wp2_with fail
  refine NoPanic.normal ?_
  go_wp2_with fail
  go_ret
  exact ⟨rfl, bl⟩
theorem RCmp_any (x y : Int) (w : World) (hx : Bd 400000000 x) (hy : Bd 400000000 y) : Calls Tryz.prog 21 #[vI x, vI y] w (RetN (x - y).sign w) := by
  rcases Int.lt_trichotomy x.sign y.sign with h | h | h
  · exact RCmp_lt x y w h
  · exact RCmp_same x y w hx hy h
  · exact RCmp_gt x y w h
end Go.Proofs.YtboolbcckfldaaaGreatDoor
