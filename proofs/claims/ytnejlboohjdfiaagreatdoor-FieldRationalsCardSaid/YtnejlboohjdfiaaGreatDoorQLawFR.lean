/- FieldRationals: for quotients of integers of 16 bits, sums, products, comparisons and the integer part are those of fractions. -/
import Derived.Test.YtnejlboohjdfiaaGreatDoorQJ
namespace Go.Proofs.YtnejlboohjdfiaaGreatDoor
open Go Go.RowKit
set_option linter.unusedVariables false
set_option linter.unusedSimpArgs false

theorem s4_int (z : Int) : s4 z 0 0 0 = z.sign := by
  have h := cmp_ints z 0
  rw [cmp_int (zint_ok 0)] at h
  simpa [zint] using h
theorem low_rat {n d : Int} (hd : 0 < d) : (low ⟨n, 0, 0, 0, d⟩).c1 = 0 ∧ (low ⟨n, 0, 0, 0, d⟩).c2 = 0 ∧ (low ⟨n, 0, 0, 0, d⟩).c3 = 0 ∧ ∃ g, 0 < g ∧ (low ⟨n, 0, 0, 0, d⟩).c0 * g = n ∧ (low ⟨n, 0, 0, 0, d⟩).d * g = d := by
  obtain ⟨h0, h1, h2, h3, h4⟩ := low_eq (x := ⟨n, 0, 0, 0, d⟩) (by show d ≠ 0; omega)
  have hg := sgG_pos (x := ⟨n, 0, 0, 0, d⟩) hd
  have z : ∀ {a : Int}, a * sgG ⟨n, 0, 0, 0, d⟩ = 0 → a = 0 := fun h => (Int.mul_eq_zero.1 h).resolve_right (by omega)
  exact ⟨z h1, z h2, z h3, _, hg, h0, h4⟩
theorem rat_ok {n d : Int} (hd : 0 < d) : Ok (low ⟨n, 0, 0, 0, d⟩) := low_ok (by show d ≠ 0; omega)
theorem Fl_rat {n d f : Int} (hd : 0 < d) (h1 : f * d ≤ n) (h2 : n < (f + 1) * d) : Fl (low ⟨n, 0, 0, 0, d⟩) f := by
  obtain ⟨z1, z2, z3, g, hg, e0, e4⟩ := low_rat (n := n) hd
  have ok := rat_ok (n := n) hd
  generalize low ⟨n, 0, 0, 0, d⟩ = x at *
  have t : ∀ m : Int, (m * x.d - x.c0) * g = m * d - n := fun m => by rw [Int.sub_mul, e0, Int.mul_assoc, e4]
  constructor
  · rw [cmp_int ok, z1, z2, z3, show (-0 : Int) = 0 from rfl, s4_int]
    refine Int.sign_nonpos_iff.2 ?_
    rcases Int.lt_or_le 0 (f * x.d - x.c0) with h | h
    · have h3 := Int.mul_pos h hg
      rw [t] at h3; omega
    · exact h
  · rw [cmp_int ok, z1, z2, z3, show (-0 : Int) = 0 from rfl, s4_int]
    refine Int.sign_pos_iff.2 ?_
    rcases Int.lt_or_le 0 ((f + 1) * x.d - x.c0) with h | h
    · exact h
    · have h3 := Int.mul_nonpos_of_nonpos_of_nonneg h (show 0 ≤ g by omega)
      rw [t] at h3; omega
theorem toK_rat {n d : Int} (hd : d ≠ 0) : toK (low ⟨n, 0, 0, 0, d⟩) = toK ⟨n, 0, 0, 0, d⟩ := toK_low hd
theorem add_rat {n d m c : Int} (hd : 0 < d) (hc : 0 < c) : addN (low ⟨n, 0, 0, 0, d⟩) (low ⟨m, 0, 0, 0, c⟩) = low ⟨n * c + m * d, 0, 0, 0, d * c⟩ := by
  have hdc := Int.mul_pos hd hc
  refine toK_inj (addN_ok (rat_ok hd) (rat_ok hc)) (rat_ok hdc) ?_
  rw [toK_add (rat_ok hd) (rat_ok hc), toK_rat (by omega), toK_rat (by omega), toK_rat (by omega), ← toK_addR (x := ⟨n, 0, 0, 0, d⟩) (y := ⟨m, 0, 0, 0, c⟩) (by show d ≠ 0; omega) (by show c ≠ 0; omega)]
  unfold addR
  simp
theorem mul_rat {n d m c : Int} (hd : 0 < d) (hc : 0 < c) : mulN (low ⟨n, 0, 0, 0, d⟩) (low ⟨m, 0, 0, 0, c⟩) = low ⟨n * m, 0, 0, 0, d * c⟩ := by
  have hdc := Int.mul_pos hd hc
  refine toK_inj (mulN_ok (rat_ok hd) (rat_ok hc)) (rat_ok hdc) ?_
  rw [toK_mul (rat_ok hd) (rat_ok hc), toK_rat (by omega), toK_rat (by omega), toK_rat (by omega), ← toK_mulR (x := ⟨n, 0, 0, 0, d⟩) (y := ⟨m, 0, 0, 0, c⟩) (by show d ≠ 0; omega) (by show c ≠ 0; omega)]
  unfold mulR
  simp
theorem cmp_rat {n d m c : Int} (hd : 0 < d) (hc : 0 < c) : cmpK (low ⟨n, 0, 0, 0, d⟩) (low ⟨m, 0, 0, 0, c⟩) = (n * c - m * d).sign := by
  have hdc := Int.mul_pos hd hc
  unfold cmpK
  have e : subN (low ⟨n, 0, 0, 0, d⟩) (low ⟨m, 0, 0, 0, c⟩) = low ⟨n * c - m * d, 0, 0, 0, d * c⟩ := by
    refine toK_inj (subN_ok (rat_ok hd) (rat_ok hc)) (rat_ok hdc) ?_
    rw [toK_sub (rat_ok hd) (rat_ok hc), toK_rat (by omega), toK_rat (by omega), toK_rat (by omega), ← toK_neg, ← toK_addR (x := ⟨n, 0, 0, 0, d⟩) (y := negN ⟨m, 0, 0, 0, c⟩) (by show d ≠ 0; omega) (by show c ≠ 0; omega)]
    unfold addR negN
    simp [Int.sub_eq_add_neg, Int.neg_mul]
  rw [e, sgn_low hdc]
  unfold sgnN
  exact s4_int _
theorem fbits_and (a b : Int) : bits .and .i64 a b = IntKind.i64.wrap ((BitVec.ofInt 64 a &&& BitVec.ofInt 64 b).toNat : Int) := rfl
theorem and_1023 (x : Int) : bits .and .i64 x 1023 = x % 1024 := by
  have h2 : (BitVec.ofInt 64 (1023 : Int)).toNat = 2 ^ 10 - 1 := by decide
  rw [fbits_and, BitVec.toNat_and, h2, Nat.and_two_pow_sub_one_eq_mod, BitVec.toNat_ofInt, IntKind.wrap_i64]
  simp only [Nat.reducePow]
  omega
theorem fquo_run (x y : Int) (w : World) (h : y ≠ 0) (hx : x.natAbs < 72057594037927936) : (Op.intDiv .quo .i64 x y).run Tryz.prog w = .ok (.int .i64 (x.tdiv y)) w := by
  have h1 : (x.tdiv y).natAbs ≤ x.natAbs := by rw [Int.natAbs_tdiv]; exact Nat.div_le_self _ _
  unfold Op.intDiv
  rw [if_neg h]
  simp only
  generalize x.tdiv y = z at *
  rw [wr64 (by omega) (by omega)]
  rfl
theorem frem_run (x y : Int) (w : World) (h : y ≠ 0) : (Op.intDiv .rem .i64 x y).run Tryz.prog w = .ok (.int .i64 (x.tmod y)) w := by
  unfold Op.intDiv
  rw [if_neg h]
  rfl
theorem conv16 (a n : Int) (h : IntKind.i64.wrap a = n) (w : World) : (convert 53 3 (.int .i16 a)).run Tryz.prog w = .ok (.int .i64 n) w := by
  subst h
  go_simp
set_option maxRecDepth 100000 in
theorem FR_la (a0 a1 b0 b1 n d0 d m c0 c P1 P2 S DC NM T R : Int) (x y s p : Nm) (w : World) (h1 : P1 < P2) (h2 : R < 0)
    (HAW : ∀ W, Below w.heap.size w W → Calls Tryz.prog 19 #[] W (RetV (.bool true) W))
    (w1 : IntKind.i64.wrap a0 = n) (w2 : IntKind.i64.wrap a1 = a1) (w3 : bits .and .i64 a1 1023 = d0) (w4 : IntKind.i64.wrap (1 + d0) = d)
    (w5 : IntKind.i64.wrap b0 = m) (w6 : IntKind.i64.wrap b1 = b1) (w7 : bits .and .i64 b1 1023 = c0) (w8 : IntKind.i64.wrap (1 + c0) = c)
    (v1 : IntKind.i64.wrap (n * c) = P1) (v2 : IntKind.i64.wrap (m * d) = P2) (v3 : IntKind.i64.wrap (P1 + P2) = S) (v4 : IntKind.i64.wrap (d * c) = DC) (v5 : IntKind.i64.wrap (n * m) = NM) (v6 : IntKind.i64.wrap (T - 1) = T - 1)
    (Q1 : ∀ w, (Op.intDiv .quo .i64 n d).run Tryz.prog w = .ok (.int .i64 T) w) (Q2 : ∀ w, (Op.intDiv .rem .i64 n d).run Tryz.prog w = .ok (.int .i64 R) w)
    (R1 : ∀ w, Calls Tryz.prog 41 #[.int .i64 n, .int .i64 d] w (RetV (.tuple #[vN x, .int .i64 0]) w)) (R2 : ∀ w, Calls Tryz.prog 41 #[.int .i64 m, .int .i64 c] w (RetV (.tuple #[vN y, .int .i64 0]) w))
    (R3 : ∀ w, Calls Tryz.prog 41 #[.int .i64 S, .int .i64 DC] w (RetV (.tuple #[vN s, .int .i64 0]) w)) (R4 : ∀ w, Calls Tryz.prog 41 #[.int .i64 NM, .int .i64 DC] w (RetV (.tuple #[vN p, .int .i64 0]) w))
    (A : ∀ w, Calls Tryz.prog 23 #[vN x, vN y] w (RetV (vN s) w)) (M : ∀ w, Calls Tryz.prog 27 #[vN x, vN y] w (RetV (vN p) w)) (C : ∀ w, Calls Tryz.prog 46 #[vN x, vN y] w (RetN (-1) w))
    (F : ∀ w, Calls Tryz.prog 48 #[vN x] w (RetI (T - 1) w)) (O : ∀ w, Calls Tryz.prog 49 #[.int .i64 (T - 1)] w (RetI (T - 1) w)) (B : ∀ w, Calls Tryz.prog 50 #[vN x] w (RetV (.bool true) w)) :
    Calls Tryz.prog 9 #[.agg #[.int .i16 a0, .int .i16 a1], .agg #[.int .i16 b0, .int .i16 b1]] w (RetV (.bool true) w) := by
  have e1 : decide (P1 < P2) = true := decide_eq_true h1
  have e3 := decide_eq_true h2
  exact vm_pure (by kernel_rfl) Tryz.func9 rfl [.agg #[.int .i16 a0, .int .i16 a1], .agg #[.int .i16 b0, .int .i16 b1]] (Nat.le_of_ble_eq_true (by kernel_rfl)) [(3, 2), (3, 5), (3, 6), (3, 7), (3, 10), (3, 13), (3, 14), (3, 15), (6, 2), (6, 5), (6, 6), (6, 9), (7, 2), (7, 5), (9, 2), (9, 5), (13, 2), (14, 2), (15, 1), (16, 19), (16, 26), (16, 40)] [.f, (.p _ true e1), (.p _ true e3), .t, .t, .t, .t, .t, .t, .t, .t, .t, .t, .t, .t, .t, .t, .t, .t, .t, .t, .t, .t, .t, .t, .t, .t, .t, .t, .t, .t, .t, .t, .t, .t, .t, .t, .t, .t] [cW (fun w' hc => HAW w' (Chg.bl0 hc)), lV (convert 53 3 (.int .i16 a0)) (.int .i64 n) (fun w hC => conv16 a0 n w1 w), lV (convert 53 3 (.int .i16 a1)) (.int .i64 a1) (fun w hC => conv16 a1 a1 w2 w), lP (.int .i64 (bits .and .i64 a1 1023)) (.int .i64 (d0)) (congrArg (Value.int .i64) w3), lE .i64 (((1) : Int) + ((d0) : Int)) (d) (w4), lV (convert 53 3 (.int .i16 b0)) (.int .i64 m) (fun w hC => conv16 b0 m w5 w), lV (convert 53 3 (.int .i16 b1)) (.int .i64 b1) (fun w hC => conv16 b1 b1 w6 w), lP (.int .i64 (bits .and .i64 b1 1023)) (.int .i64 (c0)) (congrArg (Value.int .i64) w7), lE .i64 (((1) : Int) + ((c0) : Int)) (c) (w8), cV (R1), cV (R2), lE .i64 (((n) : Int) * ((c) : Int)) (P1) (v1), lE .i64 (((m) : Int) * ((d) : Int)) (P2) (v2), lE .i64 (((P1) : Int) + ((P2) : Int)) (S) (v3), lE .i64 (((d) : Int) * ((c) : Int)) (DC) (v4), cV (R3), lE .i64 (((n) : Int) * ((m) : Int)) (NM) (v5), lE .i64 (((d) : Int) * ((c) : Int)) (DC) (v4), cV (R4), lE .i64 (((n) : Int) * ((c) : Int)) (P1) (v1), lE .i64 (((m) : Int) * ((d) : Int)) (P2) (v2), lV (Op.intDiv .quo .i64 ((n) : Int) ((d) : Int)) (.int .i64 (T)) (fun w hC => Q1 w), lV (Op.intDiv .rem .i64 ((n) : Int) ((d) : Int)) (.int .i64 (R)) (fun w hC => Q2 w), lE .i64 (((T) : Int) - ((1) : Int)) (T - 1) (v6), cV (A), lV _ (.bool true) (fun w hC => eqN_same (s) (.tmp 113) (.tmp 114) w), cV (M), lV _ (.bool true) (fun w hC => eqN_same (p) (.tmp 120) (.tmp 121) w), cV (C), cV (F), cV (O), lV _ (.bool true) (fun w hC => eqI_same (T - 1) (.tmp 133) (.tmp 135) w), cV (B)] (fun r => by kernel_rfl) (fun r => by kernel_rfl)
set_option maxRecDepth 100000 in
theorem FR_lb (a0 a1 b0 b1 n d0 d m c0 c P1 P2 S DC NM T R : Int) (x y s p : Nm) (w : World) (h1 : P1 < P2) (h2 : ¬ R < 0)
    (HAW : ∀ W, Below w.heap.size w W → Calls Tryz.prog 19 #[] W (RetV (.bool true) W))
    (w1 : IntKind.i64.wrap a0 = n) (w2 : IntKind.i64.wrap a1 = a1) (w3 : bits .and .i64 a1 1023 = d0) (w4 : IntKind.i64.wrap (1 + d0) = d)
    (w5 : IntKind.i64.wrap b0 = m) (w6 : IntKind.i64.wrap b1 = b1) (w7 : bits .and .i64 b1 1023 = c0) (w8 : IntKind.i64.wrap (1 + c0) = c)
    (v1 : IntKind.i64.wrap (n * c) = P1) (v2 : IntKind.i64.wrap (m * d) = P2) (v3 : IntKind.i64.wrap (P1 + P2) = S) (v4 : IntKind.i64.wrap (d * c) = DC) (v5 : IntKind.i64.wrap (n * m) = NM) (v6 : IntKind.i64.wrap (T - 1) = T - 1)
    (Q1 : ∀ w, (Op.intDiv .quo .i64 n d).run Tryz.prog w = .ok (.int .i64 T) w) (Q2 : ∀ w, (Op.intDiv .rem .i64 n d).run Tryz.prog w = .ok (.int .i64 R) w)
    (R1 : ∀ w, Calls Tryz.prog 41 #[.int .i64 n, .int .i64 d] w (RetV (.tuple #[vN x, .int .i64 0]) w)) (R2 : ∀ w, Calls Tryz.prog 41 #[.int .i64 m, .int .i64 c] w (RetV (.tuple #[vN y, .int .i64 0]) w))
    (R3 : ∀ w, Calls Tryz.prog 41 #[.int .i64 S, .int .i64 DC] w (RetV (.tuple #[vN s, .int .i64 0]) w)) (R4 : ∀ w, Calls Tryz.prog 41 #[.int .i64 NM, .int .i64 DC] w (RetV (.tuple #[vN p, .int .i64 0]) w))
    (A : ∀ w, Calls Tryz.prog 23 #[vN x, vN y] w (RetV (vN s) w)) (M : ∀ w, Calls Tryz.prog 27 #[vN x, vN y] w (RetV (vN p) w)) (C : ∀ w, Calls Tryz.prog 46 #[vN x, vN y] w (RetN (-1) w))
    (F : ∀ w, Calls Tryz.prog 48 #[vN x] w (RetI (T) w)) (O : ∀ w, Calls Tryz.prog 49 #[.int .i64 (T)] w (RetI (T) w)) (B : ∀ w, Calls Tryz.prog 50 #[vN x] w (RetV (.bool true) w)) :
    Calls Tryz.prog 9 #[.agg #[.int .i16 a0, .int .i16 a1], .agg #[.int .i16 b0, .int .i16 b1]] w (RetV (.bool true) w) := by
  have e1 : decide (P1 < P2) = true := decide_eq_true h1
  have e3 := decide_eq_false h2
  exact vm_pure (by kernel_rfl) Tryz.func9 rfl [.agg #[.int .i16 a0, .int .i16 a1], .agg #[.int .i16 b0, .int .i16 b1]] (Nat.le_of_ble_eq_true (by kernel_rfl)) [(3, 2), (3, 5), (3, 6), (3, 7), (3, 10), (3, 13), (3, 14), (3, 15), (6, 2), (6, 5), (6, 6), (6, 9), (7, 2), (7, 5), (9, 2), (9, 5), (13, 2), (14, 2), (16, 19), (16, 26), (16, 40)] [.f, (.p _ true e1), (.p _ false e3), .t, .t, .t, .t, .t, .t, .t, .t, .t, .t, .t, .t, .t, .t, .t, .t, .t, .t, .t, .t, .t, .t, .t, .t, .t, .t, .t, .t, .t, .t, .t, .t, .t, .t, .t, .t] [cW (fun w' hc => HAW w' (Chg.bl0 hc)), lV (convert 53 3 (.int .i16 a0)) (.int .i64 n) (fun w hC => conv16 a0 n w1 w), lV (convert 53 3 (.int .i16 a1)) (.int .i64 a1) (fun w hC => conv16 a1 a1 w2 w), lP (.int .i64 (bits .and .i64 a1 1023)) (.int .i64 (d0)) (congrArg (Value.int .i64) w3), lE .i64 (((1) : Int) + ((d0) : Int)) (d) (w4), lV (convert 53 3 (.int .i16 b0)) (.int .i64 m) (fun w hC => conv16 b0 m w5 w), lV (convert 53 3 (.int .i16 b1)) (.int .i64 b1) (fun w hC => conv16 b1 b1 w6 w), lP (.int .i64 (bits .and .i64 b1 1023)) (.int .i64 (c0)) (congrArg (Value.int .i64) w7), lE .i64 (((1) : Int) + ((c0) : Int)) (c) (w8), cV (R1), cV (R2), lE .i64 (((n) : Int) * ((c) : Int)) (P1) (v1), lE .i64 (((m) : Int) * ((d) : Int)) (P2) (v2), lE .i64 (((P1) : Int) + ((P2) : Int)) (S) (v3), lE .i64 (((d) : Int) * ((c) : Int)) (DC) (v4), cV (R3), lE .i64 (((n) : Int) * ((m) : Int)) (NM) (v5), lE .i64 (((d) : Int) * ((c) : Int)) (DC) (v4), cV (R4), lE .i64 (((n) : Int) * ((c) : Int)) (P1) (v1), lE .i64 (((m) : Int) * ((d) : Int)) (P2) (v2), lV (Op.intDiv .quo .i64 ((n) : Int) ((d) : Int)) (.int .i64 (T)) (fun w hC => Q1 w), lV (Op.intDiv .rem .i64 ((n) : Int) ((d) : Int)) (.int .i64 (R)) (fun w hC => Q2 w), cV (A), lV _ (.bool true) (fun w hC => eqN_same (s) (.tmp 113) (.tmp 114) w), cV (M), lV _ (.bool true) (fun w hC => eqN_same (p) (.tmp 120) (.tmp 121) w), cV (C), cV (F), cV (O), lV _ (.bool true) (fun w hC => eqI_same (T) (.tmp 133) (.tmp 135) w), cV (B)] (fun r => by kernel_rfl) (fun r => by kernel_rfl)
set_option maxRecDepth 100000 in
theorem FR_ga (a0 a1 b0 b1 n d0 d m c0 c P1 P2 S DC NM T R : Int) (x y s p : Nm) (w : World) (h1 : P2 < P1) (h2 : R < 0)
    (HAW : ∀ W, Below w.heap.size w W → Calls Tryz.prog 19 #[] W (RetV (.bool true) W))
    (w1 : IntKind.i64.wrap a0 = n) (w2 : IntKind.i64.wrap a1 = a1) (w3 : bits .and .i64 a1 1023 = d0) (w4 : IntKind.i64.wrap (1 + d0) = d)
    (w5 : IntKind.i64.wrap b0 = m) (w6 : IntKind.i64.wrap b1 = b1) (w7 : bits .and .i64 b1 1023 = c0) (w8 : IntKind.i64.wrap (1 + c0) = c)
    (v1 : IntKind.i64.wrap (n * c) = P1) (v2 : IntKind.i64.wrap (m * d) = P2) (v3 : IntKind.i64.wrap (P1 + P2) = S) (v4 : IntKind.i64.wrap (d * c) = DC) (v5 : IntKind.i64.wrap (n * m) = NM) (v6 : IntKind.i64.wrap (T - 1) = T - 1)
    (Q1 : ∀ w, (Op.intDiv .quo .i64 n d).run Tryz.prog w = .ok (.int .i64 T) w) (Q2 : ∀ w, (Op.intDiv .rem .i64 n d).run Tryz.prog w = .ok (.int .i64 R) w)
    (R1 : ∀ w, Calls Tryz.prog 41 #[.int .i64 n, .int .i64 d] w (RetV (.tuple #[vN x, .int .i64 0]) w)) (R2 : ∀ w, Calls Tryz.prog 41 #[.int .i64 m, .int .i64 c] w (RetV (.tuple #[vN y, .int .i64 0]) w))
    (R3 : ∀ w, Calls Tryz.prog 41 #[.int .i64 S, .int .i64 DC] w (RetV (.tuple #[vN s, .int .i64 0]) w)) (R4 : ∀ w, Calls Tryz.prog 41 #[.int .i64 NM, .int .i64 DC] w (RetV (.tuple #[vN p, .int .i64 0]) w))
    (A : ∀ w, Calls Tryz.prog 23 #[vN x, vN y] w (RetV (vN s) w)) (M : ∀ w, Calls Tryz.prog 27 #[vN x, vN y] w (RetV (vN p) w)) (C : ∀ w, Calls Tryz.prog 46 #[vN x, vN y] w (RetN (1) w))
    (F : ∀ w, Calls Tryz.prog 48 #[vN x] w (RetI (T - 1) w)) (O : ∀ w, Calls Tryz.prog 49 #[.int .i64 (T - 1)] w (RetI (T - 1) w)) (B : ∀ w, Calls Tryz.prog 50 #[vN x] w (RetV (.bool true) w)) :
    Calls Tryz.prog 9 #[.agg #[.int .i16 a0, .int .i16 a1], .agg #[.int .i16 b0, .int .i16 b1]] w (RetV (.bool true) w) := by
  have e1 : decide (P1 < P2) = false := decide_eq_false (by omega)
  have e2 : decide (P2 < P1) = true := decide_eq_true h1
  have e3 := decide_eq_true h2
  exact vm_pure (by kernel_rfl) Tryz.func9 rfl [.agg #[.int .i16 a0, .int .i16 a1], .agg #[.int .i16 b0, .int .i16 b1]] (Nat.le_of_ble_eq_true (by kernel_rfl)) [(3, 2), (3, 5), (3, 6), (3, 7), (3, 10), (3, 13), (3, 14), (3, 15), (6, 2), (6, 5), (6, 6), (6, 9), (7, 2), (7, 5), (9, 2), (9, 5), (11, 2), (11, 5), (13, 2), (14, 2), (15, 1), (16, 19), (16, 26), (16, 40)] [.f, (.p _ false e1), (.p _ true e2), (.p _ true e3), .t, .t, .t, .t, .t, .t, .t, .t, .t, .t, .t, .t, .t, .t, .t, .t, .t, .t, .t, .t, .t, .t, .t, .t, .t, .t, .t, .t, .t, .t, .t, .t, .t, .t, .t, .t] [cW (fun w' hc => HAW w' (Chg.bl0 hc)), lV (convert 53 3 (.int .i16 a0)) (.int .i64 n) (fun w hC => conv16 a0 n w1 w), lV (convert 53 3 (.int .i16 a1)) (.int .i64 a1) (fun w hC => conv16 a1 a1 w2 w), lP (.int .i64 (bits .and .i64 a1 1023)) (.int .i64 (d0)) (congrArg (Value.int .i64) w3), lE .i64 (((1) : Int) + ((d0) : Int)) (d) (w4), lV (convert 53 3 (.int .i16 b0)) (.int .i64 m) (fun w hC => conv16 b0 m w5 w), lV (convert 53 3 (.int .i16 b1)) (.int .i64 b1) (fun w hC => conv16 b1 b1 w6 w), lP (.int .i64 (bits .and .i64 b1 1023)) (.int .i64 (c0)) (congrArg (Value.int .i64) w7), lE .i64 (((1) : Int) + ((c0) : Int)) (c) (w8), cV (R1), cV (R2), lE .i64 (((n) : Int) * ((c) : Int)) (P1) (v1), lE .i64 (((m) : Int) * ((d) : Int)) (P2) (v2), lE .i64 (((P1) : Int) + ((P2) : Int)) (S) (v3), lE .i64 (((d) : Int) * ((c) : Int)) (DC) (v4), cV (R3), lE .i64 (((n) : Int) * ((m) : Int)) (NM) (v5), lE .i64 (((d) : Int) * ((c) : Int)) (DC) (v4), cV (R4), lE .i64 (((n) : Int) * ((c) : Int)) (P1) (v1), lE .i64 (((m) : Int) * ((d) : Int)) (P2) (v2), lE .i64 (((n) : Int) * ((c) : Int)) (P1) (v1), lE .i64 (((m) : Int) * ((d) : Int)) (P2) (v2), lV (Op.intDiv .quo .i64 ((n) : Int) ((d) : Int)) (.int .i64 (T)) (fun w hC => Q1 w), lV (Op.intDiv .rem .i64 ((n) : Int) ((d) : Int)) (.int .i64 (R)) (fun w hC => Q2 w), lE .i64 (((T) : Int) - ((1) : Int)) (T - 1) (v6), cV (A), lV _ (.bool true) (fun w hC => eqN_same (s) (.tmp 113) (.tmp 114) w), cV (M), lV _ (.bool true) (fun w hC => eqN_same (p) (.tmp 120) (.tmp 121) w), cV (C), cV (F), cV (O), lV _ (.bool true) (fun w hC => eqI_same (T - 1) (.tmp 133) (.tmp 135) w), cV (B)] (fun r => by kernel_rfl) (fun r => by kernel_rfl)
set_option maxRecDepth 100000 in
theorem FR_gb (a0 a1 b0 b1 n d0 d m c0 c P1 P2 S DC NM T R : Int) (x y s p : Nm) (w : World) (h1 : P2 < P1) (h2 : ¬ R < 0)
    (HAW : ∀ W, Below w.heap.size w W → Calls Tryz.prog 19 #[] W (RetV (.bool true) W))
    (w1 : IntKind.i64.wrap a0 = n) (w2 : IntKind.i64.wrap a1 = a1) (w3 : bits .and .i64 a1 1023 = d0) (w4 : IntKind.i64.wrap (1 + d0) = d)
    (w5 : IntKind.i64.wrap b0 = m) (w6 : IntKind.i64.wrap b1 = b1) (w7 : bits .and .i64 b1 1023 = c0) (w8 : IntKind.i64.wrap (1 + c0) = c)
    (v1 : IntKind.i64.wrap (n * c) = P1) (v2 : IntKind.i64.wrap (m * d) = P2) (v3 : IntKind.i64.wrap (P1 + P2) = S) (v4 : IntKind.i64.wrap (d * c) = DC) (v5 : IntKind.i64.wrap (n * m) = NM) (v6 : IntKind.i64.wrap (T - 1) = T - 1)
    (Q1 : ∀ w, (Op.intDiv .quo .i64 n d).run Tryz.prog w = .ok (.int .i64 T) w) (Q2 : ∀ w, (Op.intDiv .rem .i64 n d).run Tryz.prog w = .ok (.int .i64 R) w)
    (R1 : ∀ w, Calls Tryz.prog 41 #[.int .i64 n, .int .i64 d] w (RetV (.tuple #[vN x, .int .i64 0]) w)) (R2 : ∀ w, Calls Tryz.prog 41 #[.int .i64 m, .int .i64 c] w (RetV (.tuple #[vN y, .int .i64 0]) w))
    (R3 : ∀ w, Calls Tryz.prog 41 #[.int .i64 S, .int .i64 DC] w (RetV (.tuple #[vN s, .int .i64 0]) w)) (R4 : ∀ w, Calls Tryz.prog 41 #[.int .i64 NM, .int .i64 DC] w (RetV (.tuple #[vN p, .int .i64 0]) w))
    (A : ∀ w, Calls Tryz.prog 23 #[vN x, vN y] w (RetV (vN s) w)) (M : ∀ w, Calls Tryz.prog 27 #[vN x, vN y] w (RetV (vN p) w)) (C : ∀ w, Calls Tryz.prog 46 #[vN x, vN y] w (RetN (1) w))
    (F : ∀ w, Calls Tryz.prog 48 #[vN x] w (RetI (T) w)) (O : ∀ w, Calls Tryz.prog 49 #[.int .i64 (T)] w (RetI (T) w)) (B : ∀ w, Calls Tryz.prog 50 #[vN x] w (RetV (.bool true) w)) :
    Calls Tryz.prog 9 #[.agg #[.int .i16 a0, .int .i16 a1], .agg #[.int .i16 b0, .int .i16 b1]] w (RetV (.bool true) w) := by
  have e1 : decide (P1 < P2) = false := decide_eq_false (by omega)
  have e2 : decide (P2 < P1) = true := decide_eq_true h1
  have e3 := decide_eq_false h2
  exact vm_pure (by kernel_rfl) Tryz.func9 rfl [.agg #[.int .i16 a0, .int .i16 a1], .agg #[.int .i16 b0, .int .i16 b1]] (Nat.le_of_ble_eq_true (by kernel_rfl)) [(3, 2), (3, 5), (3, 6), (3, 7), (3, 10), (3, 13), (3, 14), (3, 15), (6, 2), (6, 5), (6, 6), (6, 9), (7, 2), (7, 5), (9, 2), (9, 5), (11, 2), (11, 5), (13, 2), (14, 2), (16, 19), (16, 26), (16, 40)] [.f, (.p _ false e1), (.p _ true e2), (.p _ false e3), .t, .t, .t, .t, .t, .t, .t, .t, .t, .t, .t, .t, .t, .t, .t, .t, .t, .t, .t, .t, .t, .t, .t, .t, .t, .t, .t, .t, .t, .t, .t, .t, .t, .t, .t, .t] [cW (fun w' hc => HAW w' (Chg.bl0 hc)), lV (convert 53 3 (.int .i16 a0)) (.int .i64 n) (fun w hC => conv16 a0 n w1 w), lV (convert 53 3 (.int .i16 a1)) (.int .i64 a1) (fun w hC => conv16 a1 a1 w2 w), lP (.int .i64 (bits .and .i64 a1 1023)) (.int .i64 (d0)) (congrArg (Value.int .i64) w3), lE .i64 (((1) : Int) + ((d0) : Int)) (d) (w4), lV (convert 53 3 (.int .i16 b0)) (.int .i64 m) (fun w hC => conv16 b0 m w5 w), lV (convert 53 3 (.int .i16 b1)) (.int .i64 b1) (fun w hC => conv16 b1 b1 w6 w), lP (.int .i64 (bits .and .i64 b1 1023)) (.int .i64 (c0)) (congrArg (Value.int .i64) w7), lE .i64 (((1) : Int) + ((c0) : Int)) (c) (w8), cV (R1), cV (R2), lE .i64 (((n) : Int) * ((c) : Int)) (P1) (v1), lE .i64 (((m) : Int) * ((d) : Int)) (P2) (v2), lE .i64 (((P1) : Int) + ((P2) : Int)) (S) (v3), lE .i64 (((d) : Int) * ((c) : Int)) (DC) (v4), cV (R3), lE .i64 (((n) : Int) * ((m) : Int)) (NM) (v5), lE .i64 (((d) : Int) * ((c) : Int)) (DC) (v4), cV (R4), lE .i64 (((n) : Int) * ((c) : Int)) (P1) (v1), lE .i64 (((m) : Int) * ((d) : Int)) (P2) (v2), lE .i64 (((n) : Int) * ((c) : Int)) (P1) (v1), lE .i64 (((m) : Int) * ((d) : Int)) (P2) (v2), lV (Op.intDiv .quo .i64 ((n) : Int) ((d) : Int)) (.int .i64 (T)) (fun w hC => Q1 w), lV (Op.intDiv .rem .i64 ((n) : Int) ((d) : Int)) (.int .i64 (R)) (fun w hC => Q2 w), cV (A), lV _ (.bool true) (fun w hC => eqN_same (s) (.tmp 113) (.tmp 114) w), cV (M), lV _ (.bool true) (fun w hC => eqN_same (p) (.tmp 120) (.tmp 121) w), cV (C), cV (F), cV (O), lV _ (.bool true) (fun w hC => eqI_same (T) (.tmp 133) (.tmp 135) w), cV (B)] (fun r => by kernel_rfl) (fun r => by kernel_rfl)
set_option maxRecDepth 100000 in
theorem FR_ea (a0 a1 b0 b1 n d0 d m c0 c P1 P2 S DC NM T R : Int) (x y s p : Nm) (w : World) (h1 : P1 = P2) (h2 : R < 0)
    (HAW : ∀ W, Below w.heap.size w W → Calls Tryz.prog 19 #[] W (RetV (.bool true) W))
    (w1 : IntKind.i64.wrap a0 = n) (w2 : IntKind.i64.wrap a1 = a1) (w3 : bits .and .i64 a1 1023 = d0) (w4 : IntKind.i64.wrap (1 + d0) = d)
    (w5 : IntKind.i64.wrap b0 = m) (w6 : IntKind.i64.wrap b1 = b1) (w7 : bits .and .i64 b1 1023 = c0) (w8 : IntKind.i64.wrap (1 + c0) = c)
    (v1 : IntKind.i64.wrap (n * c) = P1) (v2 : IntKind.i64.wrap (m * d) = P2) (v3 : IntKind.i64.wrap (P1 + P2) = S) (v4 : IntKind.i64.wrap (d * c) = DC) (v5 : IntKind.i64.wrap (n * m) = NM) (v6 : IntKind.i64.wrap (T - 1) = T - 1)
    (Q1 : ∀ w, (Op.intDiv .quo .i64 n d).run Tryz.prog w = .ok (.int .i64 T) w) (Q2 : ∀ w, (Op.intDiv .rem .i64 n d).run Tryz.prog w = .ok (.int .i64 R) w)
    (R1 : ∀ w, Calls Tryz.prog 41 #[.int .i64 n, .int .i64 d] w (RetV (.tuple #[vN x, .int .i64 0]) w)) (R2 : ∀ w, Calls Tryz.prog 41 #[.int .i64 m, .int .i64 c] w (RetV (.tuple #[vN y, .int .i64 0]) w))
    (R3 : ∀ w, Calls Tryz.prog 41 #[.int .i64 S, .int .i64 DC] w (RetV (.tuple #[vN s, .int .i64 0]) w)) (R4 : ∀ w, Calls Tryz.prog 41 #[.int .i64 NM, .int .i64 DC] w (RetV (.tuple #[vN p, .int .i64 0]) w))
    (A : ∀ w, Calls Tryz.prog 23 #[vN x, vN y] w (RetV (vN s) w)) (M : ∀ w, Calls Tryz.prog 27 #[vN x, vN y] w (RetV (vN p) w)) (C : ∀ w, Calls Tryz.prog 46 #[vN x, vN y] w (RetN (0) w))
    (F : ∀ w, Calls Tryz.prog 48 #[vN x] w (RetI (T - 1) w)) (O : ∀ w, Calls Tryz.prog 49 #[.int .i64 (T - 1)] w (RetI (T - 1) w)) (B : ∀ w, Calls Tryz.prog 50 #[vN x] w (RetV (.bool true) w)) :
    Calls Tryz.prog 9 #[.agg #[.int .i16 a0, .int .i16 a1], .agg #[.int .i16 b0, .int .i16 b1]] w (RetV (.bool true) w) := by
  have e1 : decide (P1 < P2) = false := decide_eq_false (by omega)
  have e2 : decide (P2 < P1) = false := decide_eq_false (by omega)
  have e3 := decide_eq_true h2
  exact vm_pure (by kernel_rfl) Tryz.func9 rfl [.agg #[.int .i16 a0, .int .i16 a1], .agg #[.int .i16 b0, .int .i16 b1]] (Nat.le_of_ble_eq_true (by kernel_rfl)) [(3, 2), (3, 5), (3, 6), (3, 7), (3, 10), (3, 13), (3, 14), (3, 15), (6, 2), (6, 5), (6, 6), (6, 9), (7, 2), (7, 5), (9, 2), (9, 5), (11, 2), (11, 5), (13, 2), (14, 2), (15, 1), (16, 19), (16, 26), (16, 40)] [.f, (.p _ false e1), (.p _ false e2), (.p _ true e3), .t, .t, .t, .t, .t, .t, .t, .t, .t, .t, .t, .t, .t, .t, .t, .t, .t, .t, .t, .t, .t, .t, .t, .t, .t, .t, .t, .t, .t, .t, .t, .t, .t, .t, .t, .t] [cW (fun w' hc => HAW w' (Chg.bl0 hc)), lV (convert 53 3 (.int .i16 a0)) (.int .i64 n) (fun w hC => conv16 a0 n w1 w), lV (convert 53 3 (.int .i16 a1)) (.int .i64 a1) (fun w hC => conv16 a1 a1 w2 w), lP (.int .i64 (bits .and .i64 a1 1023)) (.int .i64 (d0)) (congrArg (Value.int .i64) w3), lE .i64 (((1) : Int) + ((d0) : Int)) (d) (w4), lV (convert 53 3 (.int .i16 b0)) (.int .i64 m) (fun w hC => conv16 b0 m w5 w), lV (convert 53 3 (.int .i16 b1)) (.int .i64 b1) (fun w hC => conv16 b1 b1 w6 w), lP (.int .i64 (bits .and .i64 b1 1023)) (.int .i64 (c0)) (congrArg (Value.int .i64) w7), lE .i64 (((1) : Int) + ((c0) : Int)) (c) (w8), cV (R1), cV (R2), lE .i64 (((n) : Int) * ((c) : Int)) (P1) (v1), lE .i64 (((m) : Int) * ((d) : Int)) (P2) (v2), lE .i64 (((P1) : Int) + ((P2) : Int)) (S) (v3), lE .i64 (((d) : Int) * ((c) : Int)) (DC) (v4), cV (R3), lE .i64 (((n) : Int) * ((m) : Int)) (NM) (v5), lE .i64 (((d) : Int) * ((c) : Int)) (DC) (v4), cV (R4), lE .i64 (((n) : Int) * ((c) : Int)) (P1) (v1), lE .i64 (((m) : Int) * ((d) : Int)) (P2) (v2), lE .i64 (((n) : Int) * ((c) : Int)) (P1) (v1), lE .i64 (((m) : Int) * ((d) : Int)) (P2) (v2), lV (Op.intDiv .quo .i64 ((n) : Int) ((d) : Int)) (.int .i64 (T)) (fun w hC => Q1 w), lV (Op.intDiv .rem .i64 ((n) : Int) ((d) : Int)) (.int .i64 (R)) (fun w hC => Q2 w), lE .i64 (((T) : Int) - ((1) : Int)) (T - 1) (v6), cV (A), lV _ (.bool true) (fun w hC => eqN_same (s) (.tmp 113) (.tmp 114) w), cV (M), lV _ (.bool true) (fun w hC => eqN_same (p) (.tmp 120) (.tmp 121) w), cV (C), cV (F), cV (O), lV _ (.bool true) (fun w hC => eqI_same (T - 1) (.tmp 133) (.tmp 135) w), cV (B)] (fun r => by kernel_rfl) (fun r => by kernel_rfl)
set_option maxRecDepth 100000 in
theorem FR_eb (a0 a1 b0 b1 n d0 d m c0 c P1 P2 S DC NM T R : Int) (x y s p : Nm) (w : World) (h1 : P1 = P2) (h2 : ¬ R < 0)
    (HAW : ∀ W, Below w.heap.size w W → Calls Tryz.prog 19 #[] W (RetV (.bool true) W))
    (w1 : IntKind.i64.wrap a0 = n) (w2 : IntKind.i64.wrap a1 = a1) (w3 : bits .and .i64 a1 1023 = d0) (w4 : IntKind.i64.wrap (1 + d0) = d)
    (w5 : IntKind.i64.wrap b0 = m) (w6 : IntKind.i64.wrap b1 = b1) (w7 : bits .and .i64 b1 1023 = c0) (w8 : IntKind.i64.wrap (1 + c0) = c)
    (v1 : IntKind.i64.wrap (n * c) = P1) (v2 : IntKind.i64.wrap (m * d) = P2) (v3 : IntKind.i64.wrap (P1 + P2) = S) (v4 : IntKind.i64.wrap (d * c) = DC) (v5 : IntKind.i64.wrap (n * m) = NM) (v6 : IntKind.i64.wrap (T - 1) = T - 1)
    (Q1 : ∀ w, (Op.intDiv .quo .i64 n d).run Tryz.prog w = .ok (.int .i64 T) w) (Q2 : ∀ w, (Op.intDiv .rem .i64 n d).run Tryz.prog w = .ok (.int .i64 R) w)
    (R1 : ∀ w, Calls Tryz.prog 41 #[.int .i64 n, .int .i64 d] w (RetV (.tuple #[vN x, .int .i64 0]) w)) (R2 : ∀ w, Calls Tryz.prog 41 #[.int .i64 m, .int .i64 c] w (RetV (.tuple #[vN y, .int .i64 0]) w))
    (R3 : ∀ w, Calls Tryz.prog 41 #[.int .i64 S, .int .i64 DC] w (RetV (.tuple #[vN s, .int .i64 0]) w)) (R4 : ∀ w, Calls Tryz.prog 41 #[.int .i64 NM, .int .i64 DC] w (RetV (.tuple #[vN p, .int .i64 0]) w))
    (A : ∀ w, Calls Tryz.prog 23 #[vN x, vN y] w (RetV (vN s) w)) (M : ∀ w, Calls Tryz.prog 27 #[vN x, vN y] w (RetV (vN p) w)) (C : ∀ w, Calls Tryz.prog 46 #[vN x, vN y] w (RetN (0) w))
    (F : ∀ w, Calls Tryz.prog 48 #[vN x] w (RetI (T) w)) (O : ∀ w, Calls Tryz.prog 49 #[.int .i64 (T)] w (RetI (T) w)) (B : ∀ w, Calls Tryz.prog 50 #[vN x] w (RetV (.bool true) w)) :
    Calls Tryz.prog 9 #[.agg #[.int .i16 a0, .int .i16 a1], .agg #[.int .i16 b0, .int .i16 b1]] w (RetV (.bool true) w) := by
  have e1 : decide (P1 < P2) = false := decide_eq_false (by omega)
  have e2 : decide (P2 < P1) = false := decide_eq_false (by omega)
  have e3 := decide_eq_false h2
  exact vm_pure (by kernel_rfl) Tryz.func9 rfl [.agg #[.int .i16 a0, .int .i16 a1], .agg #[.int .i16 b0, .int .i16 b1]] (Nat.le_of_ble_eq_true (by kernel_rfl)) [(3, 2), (3, 5), (3, 6), (3, 7), (3, 10), (3, 13), (3, 14), (3, 15), (6, 2), (6, 5), (6, 6), (6, 9), (7, 2), (7, 5), (9, 2), (9, 5), (11, 2), (11, 5), (13, 2), (14, 2), (16, 19), (16, 26), (16, 40)] [.f, (.p _ false e1), (.p _ false e2), (.p _ false e3), .t, .t, .t, .t, .t, .t, .t, .t, .t, .t, .t, .t, .t, .t, .t, .t, .t, .t, .t, .t, .t, .t, .t, .t, .t, .t, .t, .t, .t, .t, .t, .t, .t, .t, .t, .t] [cW (fun w' hc => HAW w' (Chg.bl0 hc)), lV (convert 53 3 (.int .i16 a0)) (.int .i64 n) (fun w hC => conv16 a0 n w1 w), lV (convert 53 3 (.int .i16 a1)) (.int .i64 a1) (fun w hC => conv16 a1 a1 w2 w), lP (.int .i64 (bits .and .i64 a1 1023)) (.int .i64 (d0)) (congrArg (Value.int .i64) w3), lE .i64 (((1) : Int) + ((d0) : Int)) (d) (w4), lV (convert 53 3 (.int .i16 b0)) (.int .i64 m) (fun w hC => conv16 b0 m w5 w), lV (convert 53 3 (.int .i16 b1)) (.int .i64 b1) (fun w hC => conv16 b1 b1 w6 w), lP (.int .i64 (bits .and .i64 b1 1023)) (.int .i64 (c0)) (congrArg (Value.int .i64) w7), lE .i64 (((1) : Int) + ((c0) : Int)) (c) (w8), cV (R1), cV (R2), lE .i64 (((n) : Int) * ((c) : Int)) (P1) (v1), lE .i64 (((m) : Int) * ((d) : Int)) (P2) (v2), lE .i64 (((P1) : Int) + ((P2) : Int)) (S) (v3), lE .i64 (((d) : Int) * ((c) : Int)) (DC) (v4), cV (R3), lE .i64 (((n) : Int) * ((m) : Int)) (NM) (v5), lE .i64 (((d) : Int) * ((c) : Int)) (DC) (v4), cV (R4), lE .i64 (((n) : Int) * ((c) : Int)) (P1) (v1), lE .i64 (((m) : Int) * ((d) : Int)) (P2) (v2), lE .i64 (((n) : Int) * ((c) : Int)) (P1) (v1), lE .i64 (((m) : Int) * ((d) : Int)) (P2) (v2), lV (Op.intDiv .quo .i64 ((n) : Int) ((d) : Int)) (.int .i64 (T)) (fun w hC => Q1 w), lV (Op.intDiv .rem .i64 ((n) : Int) ((d) : Int)) (.int .i64 (R)) (fun w hC => Q2 w), cV (A), lV _ (.bool true) (fun w hC => eqN_same (s) (.tmp 113) (.tmp 114) w), cV (M), lV _ (.bool true) (fun w hC => eqN_same (p) (.tmp 120) (.tmp 121) w), cV (C), cV (F), cV (O), lV _ (.bool true) (fun w hC => eqI_same (T) (.tmp 133) (.tmp 135) w), cV (B)] (fun r => by kernel_rfl) (fun r => by kernel_rfl)
theorem nm_bound {n c : Int} (h0 : -32768 ≤ n) (h1 : n ≤ 32767) (g0 : -32768 ≤ c) (g1 : c ≤ 32767) : (n * c).natAbs ≤ 1073741824 := by
  rw [Int.natAbs_mul]
  exact Nat.le_trans (Nat.mul_le_mul (show n.natAbs ≤ 32768 by omega) (show c.natAbs ≤ 32768 by omega)) (by decide)
theorem FR_all (a0 a1 b0 b1 : Int) (w : World) (ht : HasTab w) (r0 : -32768 ≤ a0 ∧ a0 ≤ 32767) (r1 : -32768 ≤ a1 ∧ a1 ≤ 32767) (r2 : -32768 ≤ b0 ∧ b0 ≤ 32767) (r3 : -32768 ≤ b1 ∧ b1 ≤ 32767) :
    Calls Tryz.prog 9 #[.agg #[.int .i16 a0, .int .i16 a1], .agg #[.int .i16 b0, .int .i16 b1]] w (RetV (.bool true) w) := by
  have HAW : ∀ W, Below w.heap.size w W → Calls Tryz.prog 19 #[] W (RetV (.bool true) W) := fun W h => hawake_any W (ht.below h)
  obtain ⟨d, hd⟩ : ∃ d, d = 1 + a1 % 1024 := ⟨_, rfl⟩
  obtain ⟨c, hc⟩ : ∃ c, c = 1 + b1 % 1024 := ⟨_, rfl⟩
  have d0 : 0 < d := by omega
  have d1 : d ≤ 1024 := by omega
  have c0 : 0 < c := by omega
  have c1 : c ≤ 1024 := by omega
  have w1 : IntKind.i64.wrap a0 = a0 := wr64 (by omega) (by omega)
  have w2 : IntKind.i64.wrap a1 = a1 := wr64 (by omega) (by omega)
  have w5 : IntKind.i64.wrap b0 = b0 := wr64 (by omega) (by omega)
  have w6 : IntKind.i64.wrap b1 = b1 := wr64 (by omega) (by omega)
  have w4 : IntKind.i64.wrap (1 + a1 % 1024) = d := by rw [wr64 (by omega) (by omega)]; omega
  have w8 : IntKind.i64.wrap (1 + b1 % 1024) = c := by rw [wr64 (by omega) (by omega)]; omega
  have p1 := nm_bound (n := a0) (c := c) (by omega) (by omega) (by omega) (by omega)
  have p2 := nm_bound (n := b0) (c := d) (by omega) (by omega) (by omega) (by omega)
  have p3 := nm_bound (n := d) (c := c) (by omega) (by omega) (by omega) (by omega)
  have p4 := nm_bound (n := a0) (c := b0) (by omega) (by omega) (by omega) (by omega)
  have dc := Int.mul_pos d0 c0
  have bn : ∀ {n e : Int}, n.natAbs ≤ 32768 → 0 < e → e ≤ 1024 → BN 3 (low ⟨n, 0, 0, 0, e⟩) := fun {n e} h1 h2 h3 => BN.low (x := ⟨n, 0, 0, 0, e⟩) ⟨by unfold Bd; simp only; omega, Bd.zero _, Bd.zero _, Bd.zero _, by unfold Bd; simp only; omega⟩ (by show e ≠ 0; omega)
  have bx := bn (n := a0) (by omega) d0 d1
  have by' := bn (n := b0) (by omega) c0 c1
  have A := fun w => fAdd_any _ _ w (bx.mono (by omega)) (by'.mono (by omega)) (rat_ok d0) (rat_ok c0)
  have M := fun w => fMul_any _ _ w (bx.mono (by omega)) (by'.mono (by omega)) (rat_ok d0) (rat_ok c0)
  have C := fun w => fCmp_any _ _ w (bx.mono (by omega)) (by'.mono (by omega)) (rat_ok d0) (rat_ok c0)
  have B := fun w => fRational_any _ w (bx.mono (by omega)) (rat_ok d0)
  have R1 := fun w => fRatio_any a0 d w (by omega) (by omega) (by omega) (by omega) (by omega)
  have R2 := fun w => fRatio_any b0 c w (by omega) (by omega) (by omega) (by omega) (by omega)
  rw [add_rat d0 c0] at A
  rw [mul_rat d0 c0] at M
  rw [cmp_rat d0 c0] at C
  have hB : ratB (low ⟨a0, 0, 0, 0, d⟩) = true := by
    obtain ⟨z1, z2, z3, -⟩ := low_rat (n := a0) d0
    unfold ratB
    rw [z1, z2, z3]; rfl
  rw [hB] at B
  have m1 := Int.tdiv_mul_add_tmod a0 d
  have m2 : (a0.tmod d).natAbs < d.natAbs := by rw [Int.natAbs_tmod]; exact Nat.mod_lt _ (by omega)
  have m3 : 0 ≤ a0 → 0 ≤ a0.tmod d := fun h => Int.tmod_nonneg d h
  have m4 : (a0.tdiv d).natAbs ≤ a0.natAbs := by rw [Int.natAbs_tdiv]; exact Nat.div_le_self _ _
  have Q1 := fun w => fquo_run a0 d w (by omega) (by omega)
  have Q2 := fun w => frem_run a0 d w (by omega)
  have m5 : a0 < 0 → a0.tmod d ≤ 0 := (tmod_facts a0 d (by omega)).2.2.2
  generalize a0.tdiv d = T at *
  generalize a0.tmod d = R at *
  have R3 := fun w => fRatio_any (a0 * c + b0 * d) (d * c) w (by omega) (by omega) (by omega) (by omega) (by omega)
  have R4 := fun w => fRatio_any (a0 * b0) (d * c) w (by omega) (by omega) (by omega) (by omega) (by omega)
  have v1 : IntKind.i64.wrap (a0 * c) = a0 * c := wr64 (by omega) (by omega)
  have v2 : IntKind.i64.wrap (b0 * d) = b0 * d := wr64 (by omega) (by omega)
  have v3 : IntKind.i64.wrap (a0 * c + b0 * d) = a0 * c + b0 * d := wr64 (by omega) (by omega)
  have v4 : IntKind.i64.wrap (d * c) = d * c := wr64 (by omega) (by omega)
  have v5 : IntKind.i64.wrap (a0 * b0) = a0 * b0 := wr64 (by omega) (by omega)
  have v6 : IntKind.i64.wrap (T - 1) = T - 1 := wr64 (by omega) (by omega)
  have e1 : (T - 1) * d = T * d - d := by rw [Int.sub_mul, Int.one_mul]
  have e2 : (T - 1 + 1) * d = T * d := by rw [Int.sub_add_cancel]
  have e3 : (T + 1) * d = T * d + d := by rw [Int.add_mul, Int.one_mul]
  have F : ∀ q, q * d ≤ a0 → a0 < (q + 1) * d → ∀ w, Calls Tryz.prog 48 #[vN (low ⟨a0, 0, 0, 0, d⟩)] w (RetI q w) := fun q h1 h2 w => fFloor_fl _ q w (bx.mono (by omega)) (rat_ok d0) (Fl_rat d0 h1 h2)
  have O : ∀ q : Int, q.natAbs ≤ 40000 → ∀ w, Calls Tryz.prog 49 #[.int .i64 q] w (RetI q w) := fun q h w => ROf_any q w (by omega) (by omega)
  by_cases h2 : R < 0
  · have F1 := F (T - 1) (by omega) (by omega)
    have O1 := O (T - 1) (by omega)
    rcases Int.lt_trichotomy (a0 * c) (b0 * d) with h1 | h1 | h1
    · rw [Int.sign_eq_neg_one_of_neg (show a0 * c - b0 * d < 0 by omega)] at C
      exact FR_la a0 a1 b0 b1 a0 _ d b0 _ c _ _ _ _ _ T R _ _ _ _ w h1 h2 HAW w1 w2 (and_1023 a1) w4 w5 w6 (and_1023 b1) w8 v1 v2 v3 v4 v5 v6 Q1 Q2 R1 R2 R3 R4 A M C F1 O1 B
    · rw [show a0 * c - b0 * d = 0 by omega] at C
      exact FR_ea a0 a1 b0 b1 a0 _ d b0 _ c _ _ _ _ _ T R _ _ _ _ w h1 h2 HAW w1 w2 (and_1023 a1) w4 w5 w6 (and_1023 b1) w8 v1 v2 v3 v4 v5 v6 Q1 Q2 R1 R2 R3 R4 A M C F1 O1 B
    · rw [Int.sign_eq_one_of_pos (show 0 < a0 * c - b0 * d by omega)] at C
      exact FR_ga a0 a1 b0 b1 a0 _ d b0 _ c _ _ _ _ _ T R _ _ _ _ w h1 h2 HAW w1 w2 (and_1023 a1) w4 w5 w6 (and_1023 b1) w8 v1 v2 v3 v4 v5 v6 Q1 Q2 R1 R2 R3 R4 A M C F1 O1 B
  · have F1 := F T (by omega) (by omega)
    have O1 := O T (by omega)
    rcases Int.lt_trichotomy (a0 * c) (b0 * d) with h1 | h1 | h1
    · rw [Int.sign_eq_neg_one_of_neg (show a0 * c - b0 * d < 0 by omega)] at C
      exact FR_lb a0 a1 b0 b1 a0 _ d b0 _ c _ _ _ _ _ T R _ _ _ _ w h1 h2 HAW w1 w2 (and_1023 a1) w4 w5 w6 (and_1023 b1) w8 v1 v2 v3 v4 v5 v6 Q1 Q2 R1 R2 R3 R4 A M C F1 O1 B
    · rw [show a0 * c - b0 * d = 0 by omega] at C
      exact FR_eb a0 a1 b0 b1 a0 _ d b0 _ c _ _ _ _ _ T R _ _ _ _ w h1 h2 HAW w1 w2 (and_1023 a1) w4 w5 w6 (and_1023 b1) w8 v1 v2 v3 v4 v5 v6 Q1 Q2 R1 R2 R3 R4 A M C F1 O1 B
    · rw [Int.sign_eq_one_of_pos (show 0 < a0 * c - b0 * d by omega)] at C
      exact FR_gb a0 a1 b0 b1 a0 _ d b0 _ c _ _ _ _ _ T R _ _ _ _ w h1 h2 HAW w1 w2 (and_1023 a1) w4 w5 w6 (and_1023 b1) w8 v1 v2 v3 v4 v5 v6 Q1 Q2 R1 R2 R3 R4 A M C F1 O1 B
end Go.Proofs.YtnejlboohjdfiaaGreatDoor
