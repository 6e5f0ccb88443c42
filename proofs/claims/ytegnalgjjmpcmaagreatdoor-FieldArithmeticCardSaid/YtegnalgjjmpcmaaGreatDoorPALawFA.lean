/- FieldArithmetic: sums, differences, products and quotients. -/
import Derived.Test.YtegnalgjjmpcmaaGreatDoorPAFieX
namespace Go.Proofs.YtegnalgjjmpcmaaGreatDoor
open Go Go.RowKit
set_option linter.unusedVariables false
set_option linter.unusedSimpArgs false

set_option maxRecDepth 100000 in
theorem FA_no (u v : Rw) (w : World) (HAW : ∀ W, Below w.heap.size w W → Calls Tryz.prog 46 #[] W (RetV (.bool true) W)) (h : (rawB u && rawB v) = false) : Calls Tryz.prog 9 #[vR u, vR v] w (RetV (.bool true) w) := by
  have R := fun b w hB => hfew2_any u v b w hB
  rw [h] at R
  exact vm_pure (by kernel_rfl) Tryz.func9 rfl [.agg #[.bool u.n0, .string u.s0, .bool u.n1, .string u.s1, .bool u.n2, .string u.s2, .bool u.n3, .string u.s3, .bool u.n4, .string u.s4], .agg #[.bool v.n0, .string v.s0, .bool v.n1, .string v.s1, .bool v.n2, .string v.s2, .bool v.n3, .string v.s3, .bool v.n4, .string v.s4]] (Nat.le_of_ble_eq_true (by kernel_rfl)) [] [.f, .t] [cW (fun w' hc => HAW w' (Chg.bl0 hc)), cU 7 26 (cells2 u v) (cells2 u v) (fun b w hc hB => R b w hB)] (fun r => by kernel_rfl) (fun r => by kernel_rfl)
set_option maxRecDepth 100000 in
theorem FA_0 (u v : Rw) (q s d m : Nm) (w : World) (HAW : ∀ W, Below w.heap.size w W → Calls Tryz.prog 46 #[] W (RetV (.bool true) W)) (h : (rawB u && rawB v) = true)
    (Q1 : ∀ w, Calls Tryz.prog 48 #[vR u, vR v] w (RetV (.tuple #[vN q, .int .i64 0]) w)) (Q2 : ∀ w, Calls Tryz.prog 49 #[vR u, vR v] w (RetV (.tuple #[vN q, .int .i64 0]) w))
    (A1 : ∀ w, Calls Tryz.prog 50 #[vR u, vR v] w (RetV (vN s) w)) (A2 : ∀ w, Calls Tryz.prog 32 #[vR u, vR v] w (RetV (vN s) w))
    (S1 : ∀ w, Calls Tryz.prog 51 #[vR u, vR v] w (RetV (vN d) w)) (S2 : ∀ w, Calls Tryz.prog 28 #[vR u, vR v] w (RetV (vN d) w))
    (M1 : ∀ w, Calls Tryz.prog 52 #[vR u, vR v] w (RetV (vN m) w)) (M2 : ∀ w, Calls Tryz.prog 29 #[vR u, vR v] w (RetV (vN m) w)) : Calls Tryz.prog 9 #[vR u, vR v] w (RetV (.bool true) w) := by
  have R := fun b w hB => hfew2_any u v b w hB
  rw [h] at R
  exact vm_pure (by kernel_rfl) Tryz.func9 rfl [.agg #[.bool u.n0, .string u.s0, .bool u.n1, .string u.s1, .bool u.n2, .string u.s2, .bool u.n3, .string u.s3, .bool u.n4, .string u.s4], .agg #[.bool v.n0, .string v.s0, .bool v.n1, .string v.s1, .bool v.n2, .string v.s2, .bool v.n3, .string v.s3, .bool v.n4, .string v.s4]] (Nat.le_of_ble_eq_true (by kernel_rfl)) [(7, 6), (7, 14), (7, 23), (7, 28)] [.f, .f, .t, .t, .t, .t, .t, .t, .t, .t, .t, .t, .t, .t, .t, .t, .t, .t, .t, .t, .t, .t, .t, .t, .t, .t] [cW (fun w' hc => HAW w' (Chg.bl0 hc)), cU 7 26 (cells2 u v) (cells2 u v) (fun b w hc hB => R b w hB), cV (Q1), cV (Q2), cV (A1), cV (A2), lV _ (.bool true) (fun w hC => eqN_same (s) (.tmp 30) (.tmp 33) w), cV (S1), cV (S2), lV _ (.bool true) (fun w hC => eqN_same (d) (.tmp 38) (.tmp 41) w), cV (M1), cV (M2), lV _ (.bool true) (fun w hC => eqN_same (m) (.tmp 47) (.tmp 50) w), lV _ (.bool true) (fun w hC => eqN_same (q) (.tmp 54) (.tmp 55) w)] (fun r => by kernel_rfl) (fun r => by kernel_rfl)
set_option maxRecDepth 100000 in
theorem FA_1 (u v : Rw) (q s d m : Nm) (w : World) (HAW : ∀ W, Below w.heap.size w W → Calls Tryz.prog 46 #[] W (RetV (.bool true) W)) (h : (rawB u && rawB v) = true)
    (Q1 : ∀ w, Calls Tryz.prog 48 #[vR u, vR v] w (RetV (.tuple #[vN q, .int .i64 1]) w)) (Q2 : ∀ w, Calls Tryz.prog 49 #[vR u, vR v] w (RetV (.tuple #[vN q, .int .i64 1]) w))
    (A1 : ∀ w, Calls Tryz.prog 50 #[vR u, vR v] w (RetV (vN s) w)) (A2 : ∀ w, Calls Tryz.prog 32 #[vR u, vR v] w (RetV (vN s) w))
    (S1 : ∀ w, Calls Tryz.prog 51 #[vR u, vR v] w (RetV (vN d) w)) (S2 : ∀ w, Calls Tryz.prog 28 #[vR u, vR v] w (RetV (vN d) w))
    (M1 : ∀ w, Calls Tryz.prog 52 #[vR u, vR v] w (RetV (vN m) w)) (M2 : ∀ w, Calls Tryz.prog 29 #[vR u, vR v] w (RetV (vN m) w)) : Calls Tryz.prog 9 #[vR u, vR v] w (RetV (.bool true) w) := by
  have R := fun b w hB => hfew2_any u v b w hB
  rw [h] at R
  exact vm_pure (by kernel_rfl) Tryz.func9 rfl [.agg #[.bool u.n0, .string u.s0, .bool u.n1, .string u.s1, .bool u.n2, .string u.s2, .bool u.n3, .string u.s3, .bool u.n4, .string u.s4], .agg #[.bool v.n0, .string v.s0, .bool v.n1, .string v.s1, .bool v.n2, .string v.s2, .bool v.n3, .string v.s3, .bool v.n4, .string v.s4]] (Nat.le_of_ble_eq_true (by kernel_rfl)) [(7, 6), (7, 14), (7, 23), (7, 28)] [.f, .f, .t, .t, .t, .t, .t, .t, .t, .t, .t, .t, .t, .t, .t, .t, .t, .t, .t, .t, .t, .t, .t, .t, .t, .t] [cW (fun w' hc => HAW w' (Chg.bl0 hc)), cU 7 26 (cells2 u v) (cells2 u v) (fun b w hc hB => R b w hB), cV (Q1), cV (Q2), cV (A1), cV (A2), lV _ (.bool true) (fun w hC => eqN_same (s) (.tmp 30) (.tmp 33) w), cV (S1), cV (S2), lV _ (.bool true) (fun w hC => eqN_same (d) (.tmp 38) (.tmp 41) w), cV (M1), cV (M2), lV _ (.bool true) (fun w hC => eqN_same (m) (.tmp 47) (.tmp 50) w), lV _ (.bool true) (fun w hC => eqN_same (q) (.tmp 54) (.tmp 55) w)] (fun r => by kernel_rfl) (fun r => by kernel_rfl)
set_option maxRecDepth 100000 in
theorem FA_10 (u v : Rw) (q s d m : Nm) (w : World) (HAW : ∀ W, Below w.heap.size w W → Calls Tryz.prog 46 #[] W (RetV (.bool true) W)) (h : (rawB u && rawB v) = true)
    (Q1 : ∀ w, Calls Tryz.prog 48 #[vR u, vR v] w (RetV (.tuple #[vN q, .int .i64 10]) w)) (Q2 : ∀ w, Calls Tryz.prog 49 #[vR u, vR v] w (RetV (.tuple #[vN q, .int .i64 10]) w))
    (A1 : ∀ w, Calls Tryz.prog 50 #[vR u, vR v] w (RetV (vN s) w)) (A2 : ∀ w, Calls Tryz.prog 32 #[vR u, vR v] w (RetV (vN s) w))
    (S1 : ∀ w, Calls Tryz.prog 51 #[vR u, vR v] w (RetV (vN d) w)) (S2 : ∀ w, Calls Tryz.prog 28 #[vR u, vR v] w (RetV (vN d) w))
    (M1 : ∀ w, Calls Tryz.prog 52 #[vR u, vR v] w (RetV (vN m) w)) (M2 : ∀ w, Calls Tryz.prog 29 #[vR u, vR v] w (RetV (vN m) w)) : Calls Tryz.prog 9 #[vR u, vR v] w (RetV (.bool true) w) := by
  have R := fun b w hB => hfew2_any u v b w hB
  rw [h] at R
  exact vm_pure (by kernel_rfl) Tryz.func9 rfl [.agg #[.bool u.n0, .string u.s0, .bool u.n1, .string u.s1, .bool u.n2, .string u.s2, .bool u.n3, .string u.s3, .bool u.n4, .string u.s4], .agg #[.bool v.n0, .string v.s0, .bool v.n1, .string v.s1, .bool v.n2, .string v.s2, .bool v.n3, .string v.s3, .bool v.n4, .string v.s4]] (Nat.le_of_ble_eq_true (by kernel_rfl)) [(7, 6), (7, 14), (7, 23), (7, 28)] [.f, .f, .t, .t, .t, .t, .t, .t, .t, .t, .t, .t, .t, .t, .t, .t, .t, .t, .t, .t, .t, .t, .t, .t, .t, .t] [cW (fun w' hc => HAW w' (Chg.bl0 hc)), cU 7 26 (cells2 u v) (cells2 u v) (fun b w hc hB => R b w hB), cV (Q1), cV (Q2), cV (A1), cV (A2), lV _ (.bool true) (fun w hC => eqN_same (s) (.tmp 30) (.tmp 33) w), cV (S1), cV (S2), lV _ (.bool true) (fun w hC => eqN_same (d) (.tmp 38) (.tmp 41) w), cV (M1), cV (M2), lV _ (.bool true) (fun w hC => eqN_same (m) (.tmp 47) (.tmp 50) w), lV _ (.bool true) (fun w hC => eqN_same (q) (.tmp 54) (.tmp 55) w)] (fun r => by kernel_rfl) (fun r => by kernel_rfl)
theorem FA_all (u v : Rw) (w : World) (ht : HasTab w) : Calls Tryz.prog 9 #[vR u, vR v] w (RetV (.bool true) w) := by
  have HAW : ∀ W, Below w.heap.size w W → Calls Tryz.prog 46 #[] W (RetV (.bool true) W) := fun W h => hawake_any W (ht.below h)
  cases hr : (rawB u && rawB v) with
  | false => exact FA_no u v w HAW hr
  | true =>
    have h2 := hr
    simp only [Bool.and_eq_true] at h2
    have su := (rawB_small h2.1).mono (show 20 ≤ 80000000 by omega)
    have sv := (rawB_small h2.2).mono (show 20 ≤ 80000000 by omega)
    cases hu : okR u with
    | false =>
      refine FA_1 u v ⟨0, 0, 0, 0, 0⟩ ⟨0, 0, 0, 0, 0⟩ ⟨0, 0, 0, 0, 0⟩ ⟨0, 0, 0, 0, 0⟩ w HAW hr ?_ ?_ ?_ ?_ ?_ ?_ ?_ ?_ <;> rw [← vZ_eq] <;> intro w
      · exact fDiv_no1 u v w su sv hu
      · exact gDiv_no1 u v w su hu
      · exact fAdd_no1 u v w su hu
      · exact gAdd_no1 u v w su hu
      · exact fSub_no1 u v w su sv hu
      · exact gSub_no1 u v w su sv hu
      · exact fMul_no1 u v w su hu
      · exact gMul_no1 u v w su hu
    | true =>
      cases hv : okR v with
      | false =>
        refine FA_1 u v ⟨0, 0, 0, 0, 0⟩ ⟨0, 0, 0, 0, 0⟩ ⟨0, 0, 0, 0, 0⟩ ⟨0, 0, 0, 0, 0⟩ w HAW hr ?_ ?_ ?_ ?_ ?_ ?_ ?_ ?_ <;> rw [← vZ_eq] <;> intro w
        · exact fDiv_no2 u v w su sv hu hv
        · exact gDiv_no2 u v w su sv hu hv
        · exact fAdd_no2 u v w su sv hu hv
        · exact gAdd_no2 u v w su sv hu hv
        · exact fSub_no2 u v w su sv hu hv
        · exact gSub_no2 u v w su sv hu hv
        · exact fMul_no2 u v w su sv hu hv
        · exact gMul_no2 u v w su sv hu hv
      | true =>
        obtain ⟨x, rfl, ox, bx⟩ := right_nm h2.1 hu
        obtain ⟨y, rfl, oy, by'⟩ := right_nm h2.2 hv
        have A1 := fun w => fAdd_any x y w (bx.mono (by omega)) (by'.mono (by omega)) ox oy
        have A2 := fun w => gAdd_any x y w (bx.mono (by omega)) (by'.mono (by omega)) ox oy
        have S1 := fun w => fSub_any x y w (bx.mono (by omega)) (by'.mono (by omega)) ox oy
        have S2 := fun w => gSub_any x y w (bx.mono (by omega)) (by'.mono (by omega)) ox oy
        have M1 := fun w => fMul_any x y w (bx.mono (by omega)) (by'.mono (by omega)) ox oy
        have M2 := fun w => gMul_any x y w (bx.mono (by omega)) (by'.mono (by omega)) ox oy
        by_cases hz : y = zN
        · have Q1 := fun w => fDiv_zero x w (bx.mono (by omega)) ox
          have Q2 := fun w => gDiv_zero x w (bx.mono (by omega)) ox
          rw [vZ_eq, ← hz] at Q1 Q2
          exact FA_10 _ _ _ _ _ _ w HAW hr Q1 Q2 A1 A2 S1 S2 M1 M2
        · exact FA_0 _ _ _ _ _ _ w HAW hr (fun w => fDiv_any x y w (bx.mono (by omega)) (by'.mono (by omega)) ox oy hz) (fun w => gDiv_any x y w (bx.mono (by omega)) (by'.mono (by omega)) ox oy hz) A1 A2 S1 S2 M1 M2
end Go.Proofs.YtegnalgjjmpcmaaGreatDoor

