/- FieldMake: making numbers. -/
import Derived.Test.YtegnalgjjmpcmaaGreatDoorPMFieM
namespace Go.Proofs.YtegnalgjjmpcmaaGreatDoor
open Go Go.RowKit
set_option linter.unusedVariables false
set_option linter.unusedSimpArgs false

def v4R (r : Rw) : Value := .agg #[.bool r.n0, .string r.s0, .bool r.n1, .string r.s1, .bool r.n2, .string r.s2, .bool r.n3, .string r.s3]
def v1R (r : Rw) : Value := .agg #[.bool r.n4, .string r.s4]
set_option maxRecDepth 100000 in
theorem FK_no (r : Rw) (a b : Int) (w : World) (HAW : ∀ W, Below w.heap.size w W → Calls Tryz.prog 46 #[] W (RetV (.bool true) W)) (h : rawB r = false) : Calls Tryz.prog 11 #[v4R r, v1R r, .agg #[.int .i64 a, .int .i64 b]] w (RetV (.bool true) w) := by
  have R := fun b w hB => hfew1_any r b w hB
  rw [h] at R
  exact vm_pure (by kernel_rfl) Tryz.func11 rfl [.agg #[.bool r.n0, .string r.s0, .bool r.n1, .string r.s1, .bool r.n2, .string r.s2, .bool r.n3, .string r.s3], .agg #[.bool r.n4, .string r.s4], (.agg #[.int .i64 a, .int .i64 b])] (Nat.le_of_ble_eq_true (by kernel_rfl)) [] [.f, .t] [cW (fun w' hc => HAW w' (Chg.bl0 hc)), cU 9 26 (cells1 r) (cells1 r) (fun b w hc hB => R b w hB)] (fun r => by kernel_rfl) (fun r => by kernel_rfl)
set_option maxRecDepth 100000 in
theorem FK_00 (r : Rw) (a b : Int) (p q oa rb : Nm) (w : World) (HAW : ∀ W, Below w.heap.size w W → Calls Tryz.prog 46 #[] W (RetV (.bool true) W)) (h : rawB r = true)
    (M1 : ∀ w, Calls Tryz.prog 58 #[v4R r, v1R r] w (RetV (.tuple #[vN p, .int .i64 0]) w)) (M2 : ∀ w, Calls Tryz.prog 59 #[v4R r, v1R r] w (RetV (.tuple #[vN p, .int .i64 0]) w)) (V : ∀ w, Calls Tryz.prog 62 #[vN p] w (RetV (.bool true) w))
    (Q1 : ∀ w, Calls Tryz.prog 60 #[.int .i64 a, .int .i64 b] w (RetV (.tuple #[vN q, .int .i64 0]) w)) (Q2 : ∀ w, Calls Tryz.prog 61 #[.int .i64 a, .int .i64 b] w (RetV (.tuple #[vN q, .int .i64 0]) w))
    (O1 : ∀ w, Calls Tryz.prog 63 #[.int .i64 a] w (RetV (vN oa) w)) (O2 : ∀ w, Calls Tryz.prog 27 #[.int .i64 a] w (RetV (vN oa) w))
    (R1 : ∀ w, Calls Tryz.prog 64 #[.int .i64 b] w (RetV (vN rb) w)) (R2 : ∀ w, Calls Tryz.prog 65 #[.int .i64 b] w (RetV (vN rb) w)) : Calls Tryz.prog 11 #[v4R r, v1R r, .agg #[.int .i64 a, .int .i64 b]] w (RetV (.bool true) w) := by
  have R := fun b w hB => hfew1_any r b w hB
  rw [h] at R
  exact vm_pure (by kernel_rfl) Tryz.func11 rfl [.agg #[.bool r.n0, .string r.s0, .bool r.n1, .string r.s1, .bool r.n2, .string r.s2, .bool r.n3, .string r.s3], .agg #[.bool r.n4, .string r.s4], (.agg #[.int .i64 a, .int .i64 b])] (Nat.le_of_ble_eq_true (by kernel_rfl)) [(9, 2), (9, 19), (9, 33), (9, 42)] [.f, .f, .t, .t, .t, .t, .t, .t, .t, .f, .f, .t, .f, .t, .t, .t, .t, .t, .t, .t, .t, .t, .t, .t, .t, .t, .t, .t, .t, .t, .t, .t, .t, .t, .t, .t, .t, .t] [cW (fun w' hc => HAW w' (Chg.bl0 hc)), cU 9 26 (cells1 r) (cells1 r) (fun b w hc hB => R b w hB), cV (M1), cV (M2), cV (Q1), cV (Q2), lV _ (.bool true) (fun w hC => eqN_same (p) (.tmp 51) (.tmp 52) w), cV (V), lV _ (.bool true) (fun w hC => eqN_same (q) (.tmp 68) (.tmp 69) w), cV (O1), cV (O2), lV _ (.bool true) (fun w hC => eqN_same (oa) (.tmp 80) (.tmp 83) w), cV (R1), cV (R2), lV _ (.bool true) (fun w hC => eqN_same (rb) (.tmp 89) (.tmp 92) w)] (fun r => by kernel_rfl) (fun r => by kernel_rfl)
set_option maxRecDepth 100000 in
theorem FK_10 (r : Rw) (a b : Int) (p q oa rb : Nm) (w : World) (HAW : ∀ W, Below w.heap.size w W → Calls Tryz.prog 46 #[] W (RetV (.bool true) W)) (h : rawB r = true)
    (M1 : ∀ w, Calls Tryz.prog 58 #[v4R r, v1R r] w (RetV (.tuple #[vN p, .int .i64 1]) w)) (M2 : ∀ w, Calls Tryz.prog 59 #[v4R r, v1R r] w (RetV (.tuple #[vN p, .int .i64 1]) w)) 
    (Q1 : ∀ w, Calls Tryz.prog 60 #[.int .i64 a, .int .i64 b] w (RetV (.tuple #[vN q, .int .i64 0]) w)) (Q2 : ∀ w, Calls Tryz.prog 61 #[.int .i64 a, .int .i64 b] w (RetV (.tuple #[vN q, .int .i64 0]) w))
    (O1 : ∀ w, Calls Tryz.prog 63 #[.int .i64 a] w (RetV (vN oa) w)) (O2 : ∀ w, Calls Tryz.prog 27 #[.int .i64 a] w (RetV (vN oa) w))
    (R1 : ∀ w, Calls Tryz.prog 64 #[.int .i64 b] w (RetV (vN rb) w)) (R2 : ∀ w, Calls Tryz.prog 65 #[.int .i64 b] w (RetV (vN rb) w)) : Calls Tryz.prog 11 #[v4R r, v1R r, .agg #[.int .i64 a, .int .i64 b]] w (RetV (.bool true) w) := by
  have R := fun b w hB => hfew1_any r b w hB
  rw [h] at R
  exact vm_pure (by kernel_rfl) Tryz.func11 rfl [.agg #[.bool r.n0, .string r.s0, .bool r.n1, .string r.s1, .bool r.n2, .string r.s2, .bool r.n3, .string r.s3], .agg #[.bool r.n4, .string r.s4], (.agg #[.int .i64 a, .int .i64 b])] (Nat.le_of_ble_eq_true (by kernel_rfl)) [(9, 2), (9, 19), (9, 33), (9, 42)] [.f, .f, .t, .t, .t, .t, .t, .t, .t, .t, .t, .t, .t, .t, .t, .t, .t, .t, .t, .t, .t, .t, .t, .t, .t, .t, .t, .t, .t, .t, .t, .t, .t, .t, .t, .t, .t, .t] [cW (fun w' hc => HAW w' (Chg.bl0 hc)), cU 9 26 (cells1 r) (cells1 r) (fun b w hc hB => R b w hB), cV (M1), cV (M2), cV (Q1), cV (Q2), lV _ (.bool true) (fun w hC => eqN_same (p) (.tmp 51) (.tmp 52) w), lV _ (.bool true) (fun w hC => eqN_same (q) (.tmp 68) (.tmp 69) w), cV (O1), cV (O2), lV _ (.bool true) (fun w hC => eqN_same (oa) (.tmp 80) (.tmp 83) w), cV (R1), cV (R2), lV _ (.bool true) (fun w hC => eqN_same (rb) (.tmp 89) (.tmp 92) w)] (fun r => by kernel_rfl) (fun r => by kernel_rfl)
set_option maxRecDepth 100000 in
theorem FK_100 (r : Rw) (a b : Int) (p q oa rb : Nm) (w : World) (HAW : ∀ W, Below w.heap.size w W → Calls Tryz.prog 46 #[] W (RetV (.bool true) W)) (h : rawB r = true)
    (M1 : ∀ w, Calls Tryz.prog 58 #[v4R r, v1R r] w (RetV (.tuple #[vN p, .int .i64 10]) w)) (M2 : ∀ w, Calls Tryz.prog 59 #[v4R r, v1R r] w (RetV (.tuple #[vN p, .int .i64 10]) w)) 
    (Q1 : ∀ w, Calls Tryz.prog 60 #[.int .i64 a, .int .i64 b] w (RetV (.tuple #[vN q, .int .i64 0]) w)) (Q2 : ∀ w, Calls Tryz.prog 61 #[.int .i64 a, .int .i64 b] w (RetV (.tuple #[vN q, .int .i64 0]) w))
    (O1 : ∀ w, Calls Tryz.prog 63 #[.int .i64 a] w (RetV (vN oa) w)) (O2 : ∀ w, Calls Tryz.prog 27 #[.int .i64 a] w (RetV (vN oa) w))
    (R1 : ∀ w, Calls Tryz.prog 64 #[.int .i64 b] w (RetV (vN rb) w)) (R2 : ∀ w, Calls Tryz.prog 65 #[.int .i64 b] w (RetV (vN rb) w)) : Calls Tryz.prog 11 #[v4R r, v1R r, .agg #[.int .i64 a, .int .i64 b]] w (RetV (.bool true) w) := by
  have R := fun b w hB => hfew1_any r b w hB
  rw [h] at R
  exact vm_pure (by kernel_rfl) Tryz.func11 rfl [.agg #[.bool r.n0, .string r.s0, .bool r.n1, .string r.s1, .bool r.n2, .string r.s2, .bool r.n3, .string r.s3], .agg #[.bool r.n4, .string r.s4], (.agg #[.int .i64 a, .int .i64 b])] (Nat.le_of_ble_eq_true (by kernel_rfl)) [(9, 2), (9, 19), (9, 33), (9, 42)] [.f, .f, .t, .t, .t, .t, .t, .t, .t, .t, .t, .t, .t, .t, .t, .t, .t, .t, .t, .t, .t, .t, .t, .t, .t, .t, .t, .t, .t, .t, .t, .t, .t, .t, .t, .t, .t, .t] [cW (fun w' hc => HAW w' (Chg.bl0 hc)), cU 9 26 (cells1 r) (cells1 r) (fun b w hc hB => R b w hB), cV (M1), cV (M2), cV (Q1), cV (Q2), lV _ (.bool true) (fun w hC => eqN_same (p) (.tmp 51) (.tmp 52) w), lV _ (.bool true) (fun w hC => eqN_same (q) (.tmp 68) (.tmp 69) w), cV (O1), cV (O2), lV _ (.bool true) (fun w hC => eqN_same (oa) (.tmp 80) (.tmp 83) w), cV (R1), cV (R2), lV _ (.bool true) (fun w hC => eqN_same (rb) (.tmp 89) (.tmp 92) w)] (fun r => by kernel_rfl) (fun r => by kernel_rfl)
set_option maxRecDepth 100000 in
theorem FK_010 (r : Rw) (a b : Int) (p q oa rb : Nm) (w : World) (HAW : ∀ W, Below w.heap.size w W → Calls Tryz.prog 46 #[] W (RetV (.bool true) W)) (h : rawB r = true)
    (M1 : ∀ w, Calls Tryz.prog 58 #[v4R r, v1R r] w (RetV (.tuple #[vN p, .int .i64 0]) w)) (M2 : ∀ w, Calls Tryz.prog 59 #[v4R r, v1R r] w (RetV (.tuple #[vN p, .int .i64 0]) w)) (V : ∀ w, Calls Tryz.prog 62 #[vN p] w (RetV (.bool true) w))
    (Q1 : ∀ w, Calls Tryz.prog 60 #[.int .i64 a, .int .i64 b] w (RetV (.tuple #[vN q, .int .i64 10]) w)) (Q2 : ∀ w, Calls Tryz.prog 61 #[.int .i64 a, .int .i64 b] w (RetV (.tuple #[vN q, .int .i64 10]) w))
    (O1 : ∀ w, Calls Tryz.prog 63 #[.int .i64 a] w (RetV (vN oa) w)) (O2 : ∀ w, Calls Tryz.prog 27 #[.int .i64 a] w (RetV (vN oa) w))
    (R1 : ∀ w, Calls Tryz.prog 64 #[.int .i64 b] w (RetV (vN rb) w)) (R2 : ∀ w, Calls Tryz.prog 65 #[.int .i64 b] w (RetV (vN rb) w)) : Calls Tryz.prog 11 #[v4R r, v1R r, .agg #[.int .i64 a, .int .i64 b]] w (RetV (.bool true) w) := by
  have R := fun b w hB => hfew1_any r b w hB
  rw [h] at R
  exact vm_pure (by kernel_rfl) Tryz.func11 rfl [.agg #[.bool r.n0, .string r.s0, .bool r.n1, .string r.s1, .bool r.n2, .string r.s2, .bool r.n3, .string r.s3], .agg #[.bool r.n4, .string r.s4], (.agg #[.int .i64 a, .int .i64 b])] (Nat.le_of_ble_eq_true (by kernel_rfl)) [(9, 2), (9, 19), (9, 33), (9, 42)] [.f, .f, .t, .t, .t, .t, .t, .t, .t, .f, .f, .t, .f, .t, .t, .t, .t, .t, .t, .t, .t, .t, .t, .t, .t, .t, .t, .t, .t, .t, .t, .t, .t, .t, .t, .t, .t, .t] [cW (fun w' hc => HAW w' (Chg.bl0 hc)), cU 9 26 (cells1 r) (cells1 r) (fun b w hc hB => R b w hB), cV (M1), cV (M2), cV (Q1), cV (Q2), lV _ (.bool true) (fun w hC => eqN_same (p) (.tmp 51) (.tmp 52) w), cV (V), lV _ (.bool true) (fun w hC => eqN_same (q) (.tmp 68) (.tmp 69) w), cV (O1), cV (O2), lV _ (.bool true) (fun w hC => eqN_same (oa) (.tmp 80) (.tmp 83) w), cV (R1), cV (R2), lV _ (.bool true) (fun w hC => eqN_same (rb) (.tmp 89) (.tmp 92) w)] (fun r => by kernel_rfl) (fun r => by kernel_rfl)
set_option maxRecDepth 100000 in
theorem FK_110 (r : Rw) (a b : Int) (p q oa rb : Nm) (w : World) (HAW : ∀ W, Below w.heap.size w W → Calls Tryz.prog 46 #[] W (RetV (.bool true) W)) (h : rawB r = true)
    (M1 : ∀ w, Calls Tryz.prog 58 #[v4R r, v1R r] w (RetV (.tuple #[vN p, .int .i64 1]) w)) (M2 : ∀ w, Calls Tryz.prog 59 #[v4R r, v1R r] w (RetV (.tuple #[vN p, .int .i64 1]) w)) 
    (Q1 : ∀ w, Calls Tryz.prog 60 #[.int .i64 a, .int .i64 b] w (RetV (.tuple #[vN q, .int .i64 10]) w)) (Q2 : ∀ w, Calls Tryz.prog 61 #[.int .i64 a, .int .i64 b] w (RetV (.tuple #[vN q, .int .i64 10]) w))
    (O1 : ∀ w, Calls Tryz.prog 63 #[.int .i64 a] w (RetV (vN oa) w)) (O2 : ∀ w, Calls Tryz.prog 27 #[.int .i64 a] w (RetV (vN oa) w))
    (R1 : ∀ w, Calls Tryz.prog 64 #[.int .i64 b] w (RetV (vN rb) w)) (R2 : ∀ w, Calls Tryz.prog 65 #[.int .i64 b] w (RetV (vN rb) w)) : Calls Tryz.prog 11 #[v4R r, v1R r, .agg #[.int .i64 a, .int .i64 b]] w (RetV (.bool true) w) := by
  have R := fun b w hB => hfew1_any r b w hB
  rw [h] at R
  exact vm_pure (by kernel_rfl) Tryz.func11 rfl [.agg #[.bool r.n0, .string r.s0, .bool r.n1, .string r.s1, .bool r.n2, .string r.s2, .bool r.n3, .string r.s3], .agg #[.bool r.n4, .string r.s4], (.agg #[.int .i64 a, .int .i64 b])] (Nat.le_of_ble_eq_true (by kernel_rfl)) [(9, 2), (9, 19), (9, 33), (9, 42)] [.f, .f, .t, .t, .t, .t, .t, .t, .t, .t, .t, .t, .t, .t, .t, .t, .t, .t, .t, .t, .t, .t, .t, .t, .t, .t, .t, .t, .t, .t, .t, .t, .t, .t, .t, .t, .t, .t] [cW (fun w' hc => HAW w' (Chg.bl0 hc)), cU 9 26 (cells1 r) (cells1 r) (fun b w hc hB => R b w hB), cV (M1), cV (M2), cV (Q1), cV (Q2), lV _ (.bool true) (fun w hC => eqN_same (p) (.tmp 51) (.tmp 52) w), lV _ (.bool true) (fun w hC => eqN_same (q) (.tmp 68) (.tmp 69) w), cV (O1), cV (O2), lV _ (.bool true) (fun w hC => eqN_same (oa) (.tmp 80) (.tmp 83) w), cV (R1), cV (R2), lV _ (.bool true) (fun w hC => eqN_same (rb) (.tmp 89) (.tmp 92) w)] (fun r => by kernel_rfl) (fun r => by kernel_rfl)
set_option maxRecDepth 100000 in
theorem FK_1010 (r : Rw) (a b : Int) (p q oa rb : Nm) (w : World) (HAW : ∀ W, Below w.heap.size w W → Calls Tryz.prog 46 #[] W (RetV (.bool true) W)) (h : rawB r = true)
    (M1 : ∀ w, Calls Tryz.prog 58 #[v4R r, v1R r] w (RetV (.tuple #[vN p, .int .i64 10]) w)) (M2 : ∀ w, Calls Tryz.prog 59 #[v4R r, v1R r] w (RetV (.tuple #[vN p, .int .i64 10]) w)) 
    (Q1 : ∀ w, Calls Tryz.prog 60 #[.int .i64 a, .int .i64 b] w (RetV (.tuple #[vN q, .int .i64 10]) w)) (Q2 : ∀ w, Calls Tryz.prog 61 #[.int .i64 a, .int .i64 b] w (RetV (.tuple #[vN q, .int .i64 10]) w))
    (O1 : ∀ w, Calls Tryz.prog 63 #[.int .i64 a] w (RetV (vN oa) w)) (O2 : ∀ w, Calls Tryz.prog 27 #[.int .i64 a] w (RetV (vN oa) w))
    (R1 : ∀ w, Calls Tryz.prog 64 #[.int .i64 b] w (RetV (vN rb) w)) (R2 : ∀ w, Calls Tryz.prog 65 #[.int .i64 b] w (RetV (vN rb) w)) : Calls Tryz.prog 11 #[v4R r, v1R r, .agg #[.int .i64 a, .int .i64 b]] w (RetV (.bool true) w) := by
  have R := fun b w hB => hfew1_any r b w hB
  rw [h] at R
  exact vm_pure (by kernel_rfl) Tryz.func11 rfl [.agg #[.bool r.n0, .string r.s0, .bool r.n1, .string r.s1, .bool r.n2, .string r.s2, .bool r.n3, .string r.s3], .agg #[.bool r.n4, .string r.s4], (.agg #[.int .i64 a, .int .i64 b])] (Nat.le_of_ble_eq_true (by kernel_rfl)) [(9, 2), (9, 19), (9, 33), (9, 42)] [.f, .f, .t, .t, .t, .t, .t, .t, .t, .t, .t, .t, .t, .t, .t, .t, .t, .t, .t, .t, .t, .t, .t, .t, .t, .t, .t, .t, .t, .t, .t, .t, .t, .t, .t, .t, .t, .t] [cW (fun w' hc => HAW w' (Chg.bl0 hc)), cU 9 26 (cells1 r) (cells1 r) (fun b w hc hB => R b w hB), cV (M1), cV (M2), cV (Q1), cV (Q2), lV _ (.bool true) (fun w hC => eqN_same (p) (.tmp 51) (.tmp 52) w), lV _ (.bool true) (fun w hC => eqN_same (q) (.tmp 68) (.tmp 69) w), cV (O1), cV (O2), lV _ (.bool true) (fun w hC => eqN_same (oa) (.tmp 80) (.tmp 83) w), cV (R1), cV (R2), lV _ (.bool true) (fun w hC => eqN_same (rb) (.tmp 89) (.tmp 92) w)] (fun r => by kernel_rfl) (fun r => by kernel_rfl)
set_option maxRecDepth 100000 in
theorem gRatio_any (n d : Int) (w : World) (h0 : -9223372036854775808 ≤ n) (h1 : n ≤ 9223372036854775807) (g0 : -9223372036854775808 ≤ d) (g1 : d ≤ 9223372036854775807) (hd : d ≠ 0) : Calls Tryz.prog 61 #[.int .i64 n, .int .i64 d] w (RetV (.tuple #[vN (low ⟨n, 0, 0, 0, d⟩), .int .i64 0]) w) := by
  have O1 := fun w => ROf_any n w h0 h1
  have O2 := fun w => ROf_any d w g0 g1
  have b8 : ∀ {z : Int}, -9223372036854775808 ≤ z → z ≤ 9223372036854775807 → Bd 80000000 z := fun a b => (show Bd 8 _ by unfold Bd; omega).mono (by omega)
  have M := fun w => gMake_int ⟨n, 0, 0, 0, d⟩ w ⟨b8 h0 h1, Bd.zero _, Bd.zero _, Bd.zero _, b8 g0 g1⟩ hd
  unfold vA4 at M
  simp only [sg0, mg0] at M
  generalize low ⟨n, 0, 0, 0, d⟩ = l at *
  exact vm_pure (by kernel_rfl) Tryz.func61 rfl [.int .i64 n, .int .i64 d] (Nat.le_of_ble_eq_true (by kernel_rfl)) [] [] [cV (O1), cV (O2), cV (M)] (fun r => by kernel_rfl) (fun r => by kernel_rfl)
theorem gRatio_div (n : Int) (w : World) (h0 : -9223372036854775808 ≤ n) (h1 : n ≤ 9223372036854775807) : Calls Tryz.prog 61 #[.int .i64 n, .int .i64 0] w (RetV (.tuple #[vZ, .int .i64 10]) w) := by
  have O1 := fun w => ROf_any n w h0 h1
  have O2 := fun w => ROf_any 0 w (by omega) (by omega)
  have M := fun w => gMake_div n 0 0 0 w
  unfold vA4 at M
  simp only [sg0, mg0] at M
  exact vm_pure (by kernel_rfl) Tryz.func61 rfl [.int .i64 n, .int .i64 0] (Nat.le_of_ble_eq_true (by kernel_rfl)) [] [] [cV (O1), cV (O2), cV (M)] (fun r => by kernel_rfl) (fun r => by kernel_rfl)
/-- what Make answers for integers that are not all valid -/
theorem make_bad (r : Rw) (h : vldR r = false) : (∀ w, Calls Tryz.prog 58 #[v4R r, v1R r] w (RetV (.tuple #[vZ, .int .i64 1]) w)) ∧ (∀ w, Calls Tryz.prog 59 #[v4R r, v1R r] w (RetV (.tuple #[vZ, .int .i64 1]) w)) := by
  unfold vldR at h
  cases h0 : vld r.n0 r.s0 with
  | false => exact ⟨fun w => fMake_r0 r w h0, fun w => gMake_r0 r w h0⟩
  | true =>
    cases h1 : vld r.n1 r.s1 with
    | false => exact ⟨fun w => fMake_r1 r w h0 h1, fun w => gMake_r1 r w h0 h1⟩
    | true =>
      cases h2 : vld r.n2 r.s2 with
      | false => exact ⟨fun w => fMake_r2 r w h0 h1 h2, fun w => gMake_r2 r w h0 h1 h2⟩
      | true =>
        cases h3 : vld r.n3 r.s3 with
        | false => exact ⟨fun w => fMake_r3 r w h0 h1 h2 h3, fun w => gMake_r3 r w h0 h1 h2 h3⟩
        | true =>
          cases h4 : vld r.n4 r.s4 with
          | false => exact ⟨fun w => fMake_r4 r w h0 h1 h2 h3 h4, fun w => gMake_r4 r w h0 h1 h2 h3 h4⟩
          | true => rw [h0, h1, h2, h3, h4] at h; cases h
theorem FK_all (r : Rw) (a b : Int) (w : World) (ht : HasTab w) (a0 : -9223372036854775808 ≤ a) (a1 : a ≤ 9223372036854775807) (b0 : -9223372036854775808 ≤ b) (b1 : b ≤ 9223372036854775807) : Calls Tryz.prog 11 #[v4R r, v1R r, .agg #[.int .i64 a, .int .i64 b]] w (RetV (.bool true) w) := by
  have HAW : ∀ W, Below w.heap.size w W → Calls Tryz.prog 46 #[] W (RetV (.bool true) W) := fun W h => hawake_any W (ht.below h)
  cases hr : rawB r with
  | false => exact FK_no r a b w HAW hr
  | true =>
    have O1 := fun w => fOf_any a w a0 a1
    have O2 := fun w => gOf_any a w a0 a1
    have R1 := fun w => fRoot_any b w
    have R2 := fun w => gRoot_any b w
    cases hv : vldR r with
    | false =>
      obtain ⟨M1, M2⟩ := make_bad r hv
      rw [vZ_eq] at M1 M2
      by_cases hb : b = 0
      · subst hb
        have Q1 := fun w => fRatio_div a w a0 a1
        have Q2 := fun w => gRatio_div a w a0 a1
        rw [vZ_eq] at Q1 Q2
        exact FK_110 r a 0 _ _ _ _ w HAW hr M1 M2 Q1 Q2 O1 O2 R1 R2
      · exact FK_10 r a b _ _ _ _ w HAW hr M1 M2 (fun w => fRatio_any a b w a0 a1 b0 b1 hb) (fun w => gRatio_any a b w a0 a1 b0 b1 hb) O1 O2 R1 R2
    | true =>
      obtain ⟨x, rfl, bx⟩ : ∃ x, r = rwN x ∧ BN 20 x := ⟨nmR r, rwN_of hv, BN_R (rawB_small hr) hv⟩
      have bx := bx.mono (show 20 ≤ 80000000 by omega)
      by_cases hd : x.d = 0
      · have M1 := fun w => fMake_div x.c0 x.c1 x.c2 x.c3 w
        have M2 := fun w => gMake_div x.c0 x.c1 x.c2 x.c3 w
        rw [vZ_eq, ← hd] at M1 M2
        by_cases hb : b = 0
        · subst hb
          have Q1 := fun w => fRatio_div a w a0 a1
          have Q2 := fun w => gRatio_div a w a0 a1
          rw [vZ_eq] at Q1 Q2
          exact FK_1010 _ a 0 _ _ _ _ w HAW hr M1 M2 Q1 Q2 O1 O2 R1 R2
        · exact FK_100 _ a b _ _ _ _ w HAW hr M1 M2 (fun w => fRatio_any a b w a0 a1 b0 b1 hb) (fun w => gRatio_any a b w a0 a1 b0 b1 hb) O1 O2 R1 R2
      · have M1 := fun w => fMake_int x w bx hd
        have M2 := fun w => gMake_int x w bx hd
        have V := fun w => fValid_yes (low x) w (bx.low hd) (low_ok hd)
        by_cases hb : b = 0
        · subst hb
          have Q1 := fun w => fRatio_div a w a0 a1
          have Q2 := fun w => gRatio_div a w a0 a1
          rw [vZ_eq] at Q1 Q2
          exact FK_010 _ a 0 _ _ _ _ w HAW hr M1 M2 V Q1 Q2 O1 O2 R1 R2
        · exact FK_00 _ a b _ _ _ _ w HAW hr M1 M2 V (fun w => fRatio_any a b w a0 a1 b0 b1 hb) (fun w => gRatio_any a b w a0 a1 b0 b1 hb) O1 O2 R1 R2
end Go.Proofs.YtegnalgjjmpcmaaGreatDoor

