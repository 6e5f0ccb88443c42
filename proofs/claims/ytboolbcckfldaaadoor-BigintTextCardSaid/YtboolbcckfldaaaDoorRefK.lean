import Derived.Test.YtboolbcckfldaaaDoorRefJ
import Derived.Test.YtboolbcckfldaaaDoorRefI
namespace Go.Proofs.YtboolbcckfldaaaDoor
open Go.RowKit
set_option linter.unusedVariables false
set_option linter.unusedSimpArgs false

set_option maxHeartbeats 1000000 in
set_option maxRecDepth 100000 in
theorem RSqrt_bad (n : Bool) (s : ByteArray) (w : World) (h : vld n s = false) : Calls Tryd.prog 26 #[.agg #[.bool n, .string s]] w (RetIE 0 1 w) := by
  have H1 := fun W => Lib.hid (RValid_no n s W h)
  clear h
  go_enter Tryd.func26, Tryd.ntmps26
  go_wp2_with fail
  have t1 := (Ob.new (w) 23 #[.bool n, .string s]).alloc (.cells #[.bool false, .string ⟨#[]⟩] 23)
  have t2 := Ob.new ((w.alloc (.cells #[.bool n, .string s] 23))) 23 #[.bool false, .string ⟨#[]⟩]
  have bl := (((Below.refl w.heap.size w).alloc (Nat.le_refl _) (.cells #[.bool n, .string s] 23)).alloc (by simp only [World.size_alloc]; omega) (.cells #[.bool false, .string ⟨#[]⟩] 23))
  try simp only [World.size_alloc] at t1 t2
  generalize World.alloc (World.alloc w _) _ = W1 at t1 t2 bl ⊢
  refine ((H1 W1).out).mono ?_
  rintro e W2 ⟨rfl, hb⟩
  have t1 := t1.below hb t1.lt
  have t2 := t2.below hb t2.lt
  have bl := bl.trans (Below.mono hb bl.size)
  clear hb
  try simp only [ptr, Act.put, List.setIfInBounds_toArray, List.set_cons_zero, List.set_cons_succ]
  have fr2 := t2.free
  obtain ⟨z2_0, z2_1⟩ := t2.cells2
  go_wp2_with fail
  clear fr2 z2_0 z2_1
  have t1 := t1.far2 (show w.heap.size ≠ w.heap.size + 1 by omega) (.bool false) (.string ⟨#[]⟩)
  have t2 := t2.set2 (.bool false) (.string ⟨#[]⟩)
  have bl := (below_set (below_set bl (show w.heap.size ≤ w.heap.size + 1 by omega) 0 (.bool false)) (show w.heap.size ≤ w.heap.size + 1 by omega) 1 (.string ⟨#[]⟩))
  generalize World.setCell (World.setCell W2 _ _) _ _ = W3 at t1 t2 bl ⊢
  obtain ⟨r2_0, r2_1⟩ := t2.cells2
  exact bodyPost_ret (v := .tuple #[.agg #[.bool false, .string ⟨#[]⟩], .int .i64 1]) (by simp [results, Tryd.results26, go_sem, r2_0, r2_1]) rfl (⟨by rw [vI_zero], bl⟩)
set_option maxHeartbeats 1000000 in
set_option maxRecDepth 100000 in
theorem RSqrt_negs (s : ByteArray) (w : World) (h : vld true s = true) : Calls Tryd.prog 26 #[.agg #[.bool true, .string s]] w (RetIE 0 2 w) := by
  have H1 : ∀ W, Hid (Calls Tryd.prog 33 #[.agg #[.bool true, .string s]] W (RetB true W)) := fun W => Lib.hid (by have := RValid_any true s W; rwa [h] at this)
  clear h
  go_enter Tryd.func26, Tryd.ntmps26
  go_wp2_with fail
  have t1 := (Ob.new (w) 23 #[.bool true, .string s]).alloc (.cells #[.bool false, .string ⟨#[]⟩] 23)
  have t2 := Ob.new ((w.alloc (.cells #[.bool true, .string s] 23))) 23 #[.bool false, .string ⟨#[]⟩]
  have bl := (((Below.refl w.heap.size w).alloc (Nat.le_refl _) (.cells #[.bool true, .string s] 23)).alloc (by simp only [World.size_alloc]; omega) (.cells #[.bool false, .string ⟨#[]⟩] 23))
  try simp only [World.size_alloc] at t1 t2
  generalize World.alloc (World.alloc w _) _ = W1 at t1 t2 bl ⊢
  refine ((H1 W1).out).mono ?_
  rintro e W2 ⟨rfl, hb⟩
  have t1 := t1.below hb t1.lt
  have t2 := t2.below hb t2.lt
  have bl := bl.trans (Below.mono hb bl.size)
  clear hb
  try simp only [ptr, Act.put, List.setIfInBounds_toArray, List.set_cons_zero, List.set_cons_succ]
  have fr2 := t2.free
  obtain ⟨z2_0, z2_1⟩ := t2.cells2
  obtain ⟨c0_0, c0_1⟩ := t1.cells2
  go_wp2_with fail
  clear c0_0 c0_1
  clear fr2 z2_0 z2_1
  have t1 := t1.far2 (show w.heap.size ≠ w.heap.size + 1 by omega) (.bool false) (.string ⟨#[]⟩)
  have t2 := t2.set2 (.bool false) (.string ⟨#[]⟩)
  have bl := (below_set (below_set bl (show w.heap.size ≤ w.heap.size + 1 by omega) 0 (.bool false)) (show w.heap.size ≤ w.heap.size + 1 by omega) 1 (.string ⟨#[]⟩))
  generalize World.setCell (World.setCell W2 _ _) _ _ = W3 at t1 t2 bl ⊢
  obtain ⟨r2_0, r2_1⟩ := t2.cells2
  exact bodyPost_ret (v := .tuple #[.agg #[.bool false, .string ⟨#[]⟩], .int .i64 2]) (by simp [results, Tryd.results26, go_sem, r2_0, r2_1]) rfl (⟨by rw [vI_zero], bl⟩)

theorem root_even {R r X : Nat} (h : R + 4 * (r * r) = X) (hlt : R < 4 * r + 1) : (2 * r) * (2 * r) + R = X ∧ R ≤ 2 * (2 * r) := by
  have e : (2 * r) * (2 * r) = 4 * (r * r) := by rw [Nat.mul_mul_mul_comm]
  rw [e]; omega
theorem root_odd {R r X : Nat} (h : R + 4 * (r * r) = X) (hge : 4 * r + 1 ≤ R) (hub : R ≤ 8 * r + 3) : (2 * r + 1) * (2 * r + 1) + (R - (4 * r + 1)) = X ∧ R - (4 * r + 1) ≤ 2 * (2 * r + 1) := by
  have e : (2 * r + 1) * (2 * r + 1) = 4 * (r * r) + 4 * r + 1 := by
    have : (2 * r) * (2 * r) = 4 * (r * r) := by rw [Nat.mul_mul_mul_comm]
    rw [Nat.add_mul, Nat.mul_add, this]; omega
  rw [e]; omega
theorem bits_zero {n i : Nat} (h : nbits n ≤ i) : n / 2 ^ i % 2 = 0 := by
  have : n < 2 ^ i := by
    by_cases h0 : n = 0
    · subst h0; exact Nat.pow_pos (by decide)
    · unfold nbits at h
      rw [if_neg h0] at h
      exact (Nat.log2_lt h0).1 (by omega)
  rw [Nat.div_eq_of_lt this]
theorem half_step (n m : Nat) (h : 0 < m) : n / 2 ^ (m - 1) = 2 * (n / 2 ^ m) + n / 2 ^ (m - 1) % 2 := by
  obtain ⟨k, rfl⟩ : ∃ k, m = k + 1 := ⟨m - 1, by omega⟩
  rw [Nat.add_sub_cancel, Nat.pow_succ, ← Nat.div_div_eq_div_mul]
  omega
theorem sqr_len (K n : Nat) (hK : (digs 16777216 n).length ≤ K) (v : Nat) (hv : v ≤ 16 * n + 16) : (digs 16777216 v).length ≤ K + 1 := by
  have h := lt_pow_digs (B := 16777216) (by decide) n
  have h2 : (16777216 : Nat) ^ (digs 16777216 n).length ≤ 16777216 ^ K := Nat.pow_le_pow_right (by decide) hK
  refine digs_length_le (by decide) ?_
  rw [Nat.pow_succ]
  generalize (16777216 : Nat) ^ K = P at *
  omega

set_option maxHeartbeats 8000000 in
set_option maxRecDepth 100000 in
theorem RSqrt_any (n q : Nat) (w : World) (hx : Bd 10000000 n) (hq1 : q * q ≤ n) (hq2 : n < (q + 1) * (q + 1)) : Calls Tryd.prog 26 #[vI n] w (RetIE q 0 w) := by
  have e3 : sg (n : Int) = false := by unfold sg; simp
  have H1 : ∀ W, Hid (Calls Tryd.prog 33 #[.agg #[.bool false, .string (mg n)]] W (RetB true W)) := fun W => Lib.hid (by have := RValid_yes n W; rwa [vI, e3] at this)
  have HX : ∀ W, Hid (Calls Tryd.prog 48 #[.string (mg n)] W (RetD .i64 16777216 n W)) := fun W => Lib.hid (by have := Rdigits_mg n W (hx.mono (by omega)); rwa [Int.natAbs_natCast] at this)
  have ln := hx.digs24
  rw [Int.natAbs_natCast] at ln
  have hnb : nbits n ≤ 80000000 := by have := nbits_le hx; rw [Int.natAbs_natCast] at this; omega
  have HQ1 := Lib.hid hq1
  have HQ2 := Lib.hid hq2
  rw [vI, e3]
  clear hx hq1 hq2 e3
  go_enter Tryd.func26, Tryd.ntmps26
  go_wp2_with fail
  have t1 := (Ob.new (w) 23 #[.bool false, .string (mg n)]).alloc (.cells #[.bool false, .string ⟨#[]⟩] 23)
  have t2 := Ob.new ((w.alloc (.cells #[.bool false, .string (mg n)] 23))) 23 #[.bool false, .string ⟨#[]⟩]
  have bl := (((Below.refl w.heap.size w).alloc (Nat.le_refl _) (.cells #[.bool false, .string (mg n)] 23)).alloc (by simp only [World.size_alloc]; omega) (.cells #[.bool false, .string ⟨#[]⟩] 23))
  try simp only [World.size_alloc] at t1 t2
  generalize World.alloc (World.alloc w _) _ = W1 at t1 t2 bl ⊢
  refine ((H1 W1).out).mono ?_
  rintro e W2 ⟨rfl, hb⟩
  have t1 := t1.below hb t1.lt
  have t2 := t2.below hb t2.lt
  have bl := bl.trans (Below.mono hb bl.size)
  clear hb
  obtain ⟨c0_0, c0_1⟩ := t1.cells2
  go_wp2_with fail
  clear c0_0 c0_1
  refine ((HX W2).out).mono ?_
  rintro e W3 ⟨A1, c1, rfl, hc1, hr1, hb⟩
  have t1 := t1.below hb t1.lt
  have t2 := t2.below hb t2.lt
  have bl := bl.trans (Below.mono hb bl.size)
  clear hb
  go_wp2_with fail
  refine (Rbits_any A1 c1 n W3 hr1 (by omega)).mono ?_
  rintro e W4 ⟨rfl, hb⟩
  have t1 := t1.below hb t1.lt
  have t2 := t2.below hb t2.lt
  have hr1 := hr1.below hb
  have bl := bl.trans (Below.mono hb bl.size)
  clear hb
  go_wp2_with fail
  clear H1 HX
  have LN := Lib.hid (fun v hv => sqr_len 10000000 n ln v hv)
  have hnb2 := Lib.hid (nbits_lt n)
  obtain ⟨k0, hk0⟩ : ∃ k, k = (nbits n + 1) / 2 := ⟨_, rfl⟩
  have hkI : ((nbits n : Int) + 1) / 2 = (k0 : Int) := by omega
  have hk9 : k0 ≤ 50000000 := by omega
  rw [← hk0] at hnb2
  try rw [hkI]
  clear hk0 hkI
  have HR1 := Lib.hid hr1
  clear hr1
  go_loopw [5, 6, 7] (fun v5 v6 v7 wr => ∃ (k r s : Nat) (A B : Option Addr) (c d : Nat), k ≤ k0 ∧ v7 = .int .i64 k ∧ v5 = .slice A (digs 16777216 r).length c ∧ v6 = .slice B (digs 16777216 s).length d ∧ Hid ((digs 16777216 r).length ≤ c) ∧ Hid ((digs 16777216 s).length ≤ d) ∧ Hid (r * r + s = n / 2 ^ (2 * k)) ∧ Hid (s ≤ 2 * r) ∧ Hid (RdAt wr .i64 A (digs 16777216 r)) ∧ Hid (RdAt wr .i64 B (digs 16777216 s)) ∧ Hid (RdAt wr .i64 A1 (digs 16777216 n)) ∧ Ob wr w.heap.size 23 #[.bool false, .string (mg n)] ∧ Ob wr (w.heap.size + 1) 23 #[.bool false, .string ⟨#[]⟩] ∧ Below w.heap.size w wr) (fun _ _ v7 _ => (intOf v7).toNat)
  case atStart =>
    refine ⟨k0, 0, 0, none, none, 0, 0, Nat.le_refl _, rfl, by rw [digs_zero]; rfl, by rw [digs_zero]; rfl, Lib.hid (by rw [digs_zero]; exact Nat.le_refl _), Lib.hid (by rw [digs_zero]; exact Nat.le_refl _), Lib.hid ?_, Lib.hid (Nat.le_refl _), Lib.hid (by rw [digs_zero]; exact RdAt.nil _ _ _), Lib.hid (by rw [digs_zero]; exact RdAt.nil _ _ _), HR1, t1, t2, bl⟩
    rw [Nat.div_eq_of_lt hnb2.out]
  case round =>
    clear HR1 t1 t2 bl
    obtain ⟨k, r, s, A, B, c, d, hk, rfl, rfl, rfl, hc, hd, hv, hs, hrA, hrB, hrn, t1, t2, bl⟩ := hrel
    by_cases hk0' : 0 < k
    · obtain ⟨wo, rfl⟩ : ∃ wo : World, wo = wr := ⟨_, rfl⟩
      have hvx : Hid (r * r + s ≤ n) := Lib.hid (by rw [hv.out]; exact Nat.div_le_self _ _)
      have hrr : Hid (r ≤ n) := Lib.hid (by have := hvx.out; have := Nat.le_mul_self r; omega)
      go_wp2_with fail
      go_loopw [6, 8] (fun v6 v8 wr => ∃ (m R : Nat) (B : Option Addr) (d : Nat), m ≤ 2 * k ∧ 2 * k ≤ m + 2 ∧ v8 = .int .i64 ((m : Int) - 1) ∧ v6 = .slice B (digs 16777216 R).length d ∧ Hid ((digs 16777216 R).length ≤ d) ∧ Hid (R + r * r * 2 ^ (2 * k - m) = n / 2 ^ m) ∧ Hid (R ≤ 2 ^ (2 * k - m) * (s + 1) - 1) ∧ Hid (RdAt wr .i64 B (digs 16777216 R)) ∧ Hid (RdAt wr .i64 A (digs 16777216 r)) ∧ Hid (RdAt wr .i64 A1 (digs 16777216 n)) ∧ Ob wr w.heap.size 23 #[.bool false, .string (mg n)] ∧ Ob wr (w.heap.size + 1) 23 #[.bool false, .string ⟨#[]⟩] ∧ Below w.heap.size w wr) (fun _ v8 _ => (intOf v8 + 1).toNat)
      case atStart =>
        refine ⟨2 * k, s, B, d, Nat.le_refl _, by omega, by go_num, rfl, hd, Lib.hid ?_, Lib.hid ?_, hrB, hrA, hrn, t1, t2, bl⟩
        · rw [Nat.sub_self, Nat.pow_zero, Nat.mul_one, Nat.add_comm]; exact hv.out
        · rw [Nat.sub_self, Nat.pow_zero, Nat.one_mul]; omega
      case round =>
        clear hrB hrA hrn t1 t2 bl hd
        obtain ⟨m, R, B, d, hm1, hm2, rfl, rfl, hd, hV, hU, hrB, hrA, hrn, t1, t2, bl⟩ := hrel
        by_cases hm : 2 * k < m + 2
        · have hRn : Hid (R ≤ n) := Lib.hid (by
            have h1 := hV.out
            have h2 := Nat.div_le_self n (2 ^ m)
            omega)
          have hm0 : 0 < m := by omega
          have HB1 := fun W h => Lib.hid (Rbits_any A1 c1 n W h (by omega))
          have lR := LN.out R (by have := hRn.out; omega)
          have hmi : ((m : Int) - 1) < (m : Int) := by omega
          by_cases hib : m - 1 < nbits n
          · have HB2 : ∀ W, RdAt W .i64 A1 (digs 16777216 n) → Hid (Calls Tryd.prog 50 #[.slice A1 (digs 16777216 n).length c1, .int .i64 ((m : Int) - 1)] W (RetN ((n / 2 ^ (m - 1) % 2 : Nat) : Int) W)) := fun W h => Lib.hid (by
              rw [show ((m : Int) - 1) = ((m - 1 : Nat) : Int) from by omega]
              exact Rbit_any A1 c1 n (m - 1) W h (by omega) hib)
            have hit : ((m : Int) - 1) < (nbits n : Int) := by omega
            obtain ⟨b, hbv⟩ : ∃ b, b = n / 2 ^ (m - 1) % 2 := ⟨_, rfl⟩
            rw [← hbv] at HB2
            have HB1' : Hid (b ≤ 1) := Lib.hid (by omega)
            have HBV := Lib.hid hbv
            have HTW := fun W h => Lib.hid (Rtwice_any B d R b W h (by omega) HB1'.out)
            clear hbv
            go_wp2_with fail
            refine (HB1 wr hrn.out).mono ?_
            rintro e W5 ⟨rfl, hb⟩
            have t1 := t1.below hb t1.lt
            have t2 := t2.below hb t2.lt
            have bl := bl.trans (Below.mono hb bl.size)
            have hrA := Lib.hid (hrA.out.below hb)
            have hrB := Lib.hid (hrB.out.below hb)
            have hrn := Lib.hid (hrn.out.below hb)
            clear hb
            go_wp2_with fail
            refine (HB2 W5 hrn.out).out.mono ?_
            rintro e W6 ⟨rfl, hb⟩
            have t1 := t1.below hb t1.lt
            have t2 := t2.below hb t2.lt
            have bl := bl.trans (Below.mono hb bl.size)
            have hrA := Lib.hid (hrA.out.below hb)
            have hrB := Lib.hid (hrB.out.below hb)
            have hrn := Lib.hid (hrn.out.below hb)
            clear hb
            go_wp2_with fail
            refine (HTW W6 hrB.out).out.mono ?_
            rintro e W7 ⟨B', d', rfl, hd', hrB', hb⟩
            have t1 := t1.below hb t1.lt
            have t2 := t2.below hb t2.lt
            have bl := bl.trans (Below.mono hb bl.size)
            have hrA' := Lib.hid (hrA.out.below hb)
            have hrn' := Lib.hid (hrn.out.below hb)
            have HD' := Lib.hid hd'
            have HRB' := Lib.hid hrB'
            clear hb hd' hrB' hrA hrn hrB
            go_wp2_with fail
            go_roundw
            case rel =>
              have hp : 0 < 2 ^ (2 * k - m) := Nat.pow_pos (by decide)
              have e2 : 2 ^ (2 * k - (m - 1)) = 2 * 2 ^ (2 * k - m) := by rw [← Nat.pow_succ']; congr 1; omega
              have h1 := hV.out
              have h2 := half_step n m hm0
              have h3 := HBV.out
              have h4 := hU.out
              have h5 := HB1'.out
              refine ⟨m - 1, 2 * R + b, B', d', by omega, by omega, by first | (congr 1; omega) | go_num, rfl, HD', Lib.hid ?_, Lib.hid ?_, HRB', hrA', hrn', t1, t2, bl⟩
              · rw [h2, ← h1, ← h3, e2]
                have : r * r * (2 * 2 ^ (2 * k - m)) = 2 * (r * r * 2 ^ (2 * k - m)) := Nat.mul_left_comm _ _ _
                omega
              · rw [e2, Nat.mul_assoc]
                have : 2 ^ (2 * k - m) * 1 ≤ 2 ^ (2 * k - m) * (s + 1) := Nat.mul_le_mul_left _ (by omega)
                generalize 2 ^ (2 * k - m) * (s + 1) = P at *
                omega
            case measure => simp [intOf]; omega
          · obtain ⟨b, hb0⟩ : ∃ b : Nat, b = 0 := ⟨0, rfl⟩
            have HB1' : Hid (b ≤ 1) := Lib.hid (by omega)
            have HBV : Hid (b = n / 2 ^ (m - 1) % 2) := Lib.hid (by rw [bits_zero (by omega), hb0])
            have HTW : ∀ W, RdAt W .i64 B (digs 16777216 R) → Hid (Calls Tryd.prog 51 #[.slice B (digs 16777216 R).length d, .int .i64 0] W (RetD .i64 16777216 (2 * R + b) W)) := fun W h => Lib.hid (by
              subst hb0
              exact Rtwice_any B d R 0 W h (by omega) (by omega))
            have hit : ¬ ((m : Int) - 1) < (nbits n : Int) := by omega
            clear hb0
            go_wp2_with fail
            refine (HB1 wr hrn.out).mono ?_
            rintro e W5 ⟨rfl, hb⟩
            have t1 := t1.below hb t1.lt
            have t2 := t2.below hb t2.lt
            have bl := bl.trans (Below.mono hb bl.size)
            have hrA := Lib.hid (hrA.out.below hb)
            have hrB := Lib.hid (hrB.out.below hb)
            have hrn := Lib.hid (hrn.out.below hb)
            clear hb
            go_wp2_with fail
            refine (HTW W5 hrB.out).out.mono ?_
            rintro e W7 ⟨B', d', rfl, hd', hrB', hb⟩
            have t1 := t1.below hb t1.lt
            have t2 := t2.below hb t2.lt
            have bl := bl.trans (Below.mono hb bl.size)
            have hrA' := Lib.hid (hrA.out.below hb)
            have hrn' := Lib.hid (hrn.out.below hb)
            have HD' := Lib.hid hd'
            have HRB' := Lib.hid hrB'
            clear hb hd' hrB' hrA hrn hrB
            go_wp2_with fail
            go_roundw
            case rel =>
              have hp : 0 < 2 ^ (2 * k - m) := Nat.pow_pos (by decide)
              have e2 : 2 ^ (2 * k - (m - 1)) = 2 * 2 ^ (2 * k - m) := by rw [← Nat.pow_succ']; congr 1; omega
              have h1 := hV.out
              have h2 := half_step n m hm0
              have h3 := HBV.out
              have h4 := hU.out
              have h5 := HB1'.out
              refine ⟨m - 1, 2 * R + b, B', d', by omega, by omega, by first | (congr 1; omega) | go_num, rfl, HD', Lib.hid ?_, Lib.hid ?_, HRB', hrA', hrn', t1, t2, bl⟩
              · rw [h2, ← h1, ← h3, e2]
                have : r * r * (2 * 2 ^ (2 * k - m)) = 2 * (r * r * 2 ^ (2 * k - m)) := Nat.mul_left_comm _ _ _
                omega
              · rw [e2, Nat.mul_assoc]
                have : 2 ^ (2 * k - m) * 1 ≤ 2 ^ (2 * k - m) * (s + 1) := Nat.mul_le_mul_left _ (by omega)
                generalize 2 ^ (2 * k - m) * (s + 1) = P at *
                omega
            case measure => simp [intOf]; omega
        · have hRn : Hid (R ≤ n) := Lib.hid (by
            have h1 := hV.out
            have h2 := Nat.div_le_self n (2 ^ m)
            omega)
          have hk1 : 2 * k - m = 2 := by omega
          have hmk : m = 2 * (k - 1) := by omega
          have hV2 : Hid (R + 4 * (r * r) = n / 2 ^ (2 * (k - 1))) := Lib.hid (by
            have h1 := hV.out
            rw [hk1, hmk] at h1
            rw [← h1]; omega)
          have hU2 : Hid (R ≤ 8 * r + 3) := Lib.hid (by
            have h1 := hU.out
            have h2 := hs.out
            rw [hk1] at h1
            omega)
          have l1 := LN.out (2 * r) (by have := hrr.out; omega)
          have l2 := LN.out (4 * r + 1) (by have := hrr.out; omega)
          have l3 := LN.out R (by have := hRn.out; omega)
          have l0 := LN.out r (by have := hrr.out; omega)
          have HT0 : ∀ W, RdAt W .i64 A (digs 16777216 r) → Hid (Calls Tryd.prog 51 #[.slice A (digs 16777216 r).length c, .int .i64 0] W (RetD .i64 16777216 (2 * r) W)) := fun W h => Lib.hid (Rtwice_any A c r 0 W h (by omega) (by omega))
          have HT1 : ∀ (D : Option Addr) e W, RdAt W .i64 D (digs 16777216 (2 * r)) → Hid (Calls Tryd.prog 51 #[.slice D (digs 16777216 (2 * r)).length e, .int .i64 1] W (RetD .i64 16777216 (4 * r + 1) W)) := fun D e W h => Lib.hid (by
            have := Rtwice_any D e (2 * r) 1 W h (by omega) (by omega)
            rwa [show 2 * (2 * r) + 1 = 4 * r + 1 from by omega] at this)
          have HT2 : ∀ W, RdAt W .i64 A (digs 16777216 r) → Hid (Calls Tryd.prog 51 #[.slice A (digs 16777216 r).length c, .int .i64 1] W (RetD .i64 16777216 (2 * r + 1) W)) := fun W h => Lib.hid (Rtwice_any A c r 1 W h (by omega) (by omega))
          clear hV hU hk1
          go_wp2_with fail
          refine (HT0 wr hrA.out).out.mono ?_
          rintro e W5 ⟨D, dd, rfl, hdd, hrD, hb⟩
          have t1 := t1.below hb t1.lt
          have t2 := t2.below hb t2.lt
          have bl := bl.trans (Below.mono hb bl.size)
          have hrA := Lib.hid (hrA.out.below hb)
          have hrB := Lib.hid (hrB.out.below hb)
          have hrn := Lib.hid (hrn.out.below hb)
          have HRD := Lib.hid hrD
          clear hb hdd hrD
          go_wp2_with fail
          refine (HT1 D dd W5 HRD.out).out.mono ?_
          rintro e W6 ⟨T, tt, rfl, htt, hrT, hb⟩
          have t1 := t1.below hb t1.lt
          have t2 := t2.below hb t2.lt
          have bl := bl.trans (Below.mono hb bl.size)
          have hrA := Lib.hid (hrA.out.below hb)
          have hrB := Lib.hid (hrB.out.below hb)
          have hrn := Lib.hid (hrn.out.below hb)
          have HRT := Lib.hid hrT
          clear hb htt hrT HRD
          go_wp2_with fail
          refine ((Rorder_any B T d tt R (4 * r + 1) W6 hrB.out HRT.out (by omega) (by omega)).mono (fun e w' h => RetOrd.below h)).mono ?_
          rintro e W7 ⟨rfl, hb⟩
          have t1 := t1.below hb t1.lt
          have t2 := t2.below hb t2.lt
          have bl := bl.trans (Below.mono hb bl.size)
          have hrA := Lib.hid (hrA.out.below hb)
          have hrB := Lib.hid (hrB.out.below hb)
          have hrn := Lib.hid (hrn.out.below hb)
          have HRT := Lib.hid (HRT.out.below hb)
          clear hb
          by_cases hge : 4 * r + 1 ≤ R
          · have hc0 : 0 ≤ cmpN R (4 * r + 1) := by unfold cmpN; split <;> (try split) <;> omega
            have HGE := Lib.hid hge
            have HMI := Lib.hid (Rminus_any B T d tt R (4 * r + 1) W7 hrB.out HRT.out (by omega) hge)
            clear hge
            go_wp2_with fail
            refine HMI.out.mono ?_
            rintro e W8 ⟨M, mm, rfl, hmm, hrM, hb⟩
            have t1 := t1.below hb t1.lt
            have t2 := t2.below hb t2.lt
            have bl := bl.trans (Below.mono hb bl.size)
            have hrA := Lib.hid (hrA.out.below hb)
            have hrn := Lib.hid (hrn.out.below hb)
            have HRM := Lib.hid hrM
            have HMM := Lib.hid hmm
            clear hb hrM hmm HMI
            go_wp2_with fail
            refine (HT2 W8 hrA.out).out.mono ?_
            rintro e W9 ⟨N, nn, rfl, hnn, hrN, hb⟩
            have t1 := t1.below hb t1.lt
            have t2 := t2.below hb t2.lt
            have bl := bl.trans (Below.mono hb bl.size)
            have hrn := Lib.hid (hrn.out.below hb)
            have HRM := Lib.hid (HRM.out.below hb)
            have HRN := Lib.hid hrN
            have HNN := Lib.hid hnn
            clear hb hrN hnn
            go_wp2_with fail
            go_roundw
            case rel =>
              obtain ⟨g1, g2⟩ := root_odd hV2.out HGE.out hU2.out
              exact ⟨k - 1, 2 * r + 1, R - (4 * r + 1), N, M, nn, mm, by omega, by first | (congr 1; omega) | go_num, rfl, rfl, HNN, HMM, Lib.hid g1, Lib.hid g2, HRN, HRM, hrn, t1, t2, bl⟩
            case measure => simp [intOf]; omega
          · have hc0 : ¬ 0 ≤ cmpN R (4 * r + 1) := by rw [cmpN_lt (by omega)]; omega
            have HGE := Lib.hid hge
            clear hge
            go_wp2_with fail
            refine (HT0 W7 hrA.out).out.mono ?_
            rintro e W9 ⟨N, nn, rfl, hnn, hrN, hb⟩
            have t1 := t1.below hb t1.lt
            have t2 := t2.below hb t2.lt
            have bl := bl.trans (Below.mono hb bl.size)
            have hrn := Lib.hid (hrn.out.below hb)
            have hrB := Lib.hid (hrB.out.below hb)
            have HRN := Lib.hid hrN
            have HNN := Lib.hid hnn
            clear hb hrN hnn
            go_wp2_with fail
            go_roundw
            case rel =>
              obtain ⟨g1, g2⟩ := root_even hV2.out (by have := HGE.out; omega)
              exact ⟨k - 1, 2 * r, R, N, B, nn, d, by omega, by first | (congr 1; omega) | go_num, rfl, rfl, HNN, hd, Lib.hid g1, Lib.hid g2, HRN, hrB, hrn, t1, t2, bl⟩
            case measure => simp [intOf]; omega
    · obtain rfl : k = 0 := by omega
      have hV3 := hv.out
      rw [Nat.mul_zero, Nat.pow_zero, Nat.div_one] at hV3
      have hr : r = q := by
        refine sqrt_uniq (n := n) (by omega) ?_ HQ1.out HQ2.out
        have := hs.out
        rw [Nat.add_mul, Nat.mul_add]; omega
      subst hr
      have l0 := LN.out r (by have := Nat.le_mul_self r; omega)
      have HS : ∀ W, RdAt W .i64 A (digs 16777216 r) → Hid (Calls Tryd.prog 54 #[.bool false, .slice A (digs 16777216 r).length c] W (RetI (r : Int) W)) := fun W h => Lib.hid (Rsigned_d A c r false W h (by omega))
      clear hv hV3 HQ1 HQ2 hs
      go_wp2_with fail
      refine (HS wr hrA.out).out.mono ?_
      rintro e W9 ⟨rfl, hb⟩
      have t1 := t1.below hb t1.lt
      have t2 := t2.below hb t2.lt
      have bl := bl.trans (Below.mono hb bl.size)
      have fr := t2.free
      obtain ⟨z0, z1⟩ := t2.cells2
      clear hb
      go_wp2_with fail
      obtain ⟨r0, r1⟩ := (t2.set2 (.bool (sg r)) (.string (mg r))).cells2
      have bl := below_set (below_set bl (show w.heap.size ≤ w.heap.size + 1 by omega) 0 (.bool (sg r))) (show w.heap.size ≤ w.heap.size + 1 by omega) 1 (.string (mg r))
      exact bodyPost_ret (v := .tuple #[vI r, .int .i64 0]) (by simp [results, Tryd.results26, go_sem, r0, r1]) rfl ⟨rfl, bl⟩
end Go.Proofs.YtboolbcckfldaaaDoor
