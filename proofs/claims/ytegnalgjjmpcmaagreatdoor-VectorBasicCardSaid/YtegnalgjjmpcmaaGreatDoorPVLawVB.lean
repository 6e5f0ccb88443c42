/- VectorBasic: validity, sums, differences, opposites, zeros, comparison, vectors of integers. -/
import Derived.Test.YtegnalgjjmpcmaaGreatDoorPVLawVT
import Derived.Test.YtegnalgjjmpcmaaGreatDoorPVVecC
namespace Go.Proofs.YtegnalgjjmpcmaaGreatDoor
open Go Go.RowKit
set_option maxRecDepth 100000
set_option linter.unusedVariables false
set_option linter.unusedSimpArgs false
theorem VB_no (u v : Rv) (a b c : Int) (w : World) (HAW : ∀ W, Below w.heap.size w W → Calls Tryz.prog 15 #[] W (RetV (.bool true) W)) (h : (rawV u && rawV v) = false) : Calls Tryz.prog 8 #[vRV u, vRV v, .agg #[.int .i64 a, .int .i64 b, .int .i64 c]] w (RetV (.bool true) w) := by
  have R := fun b w hB => vfew2_any u v b w hB
  rw [h] at R
  exact vm_pure kr Tryz.func8 rfl [vRV u, vRV v, .agg #[.int .i64 a, .int .i64 b, .int .i64 c]] nle [] [.f, .t] [cW (fun w' hc => HAW w' (Chg.bl0 hc)), cU 8 28 (cellsV2 u v) (cellsV2 u v) (fun b w hc hB => R b w hB)]
theorem VB_true (u v : Rv) (s d n o : V3) (z : Bool) (k a b c : Int) (w : World) (HAW : ∀ W, Below w.heap.size w W → Calls Tryz.prog 15 #[] W (RetV (.bool true) W)) (h : (rawV u && rawV v) = true)
    (V1 : ∀ w, Calls Tryz.prog 37 #[vRV u] w (RetV (.bool true) w)) (V2 : ∀ w, Calls Tryz.prog 38 #[vRV u] w (RetV (.bool true) w))
    (A1 : ∀ w, Calls Tryz.prog 31 #[vRV u, vRV v] w (RetV (vV s) w)) (A2 : ∀ w, Calls Tryz.prog 39 #[vRV u, vRV v] w (RetV (vV s) w))
    (S1 : ∀ w, Calls Tryz.prog 36 #[vRV u, vRV v] w (RetV (vV d) w)) (S2 : ∀ w, Calls Tryz.prog 40 #[vRV u, vRV v] w (RetV (vV d) w))
    (N1 : ∀ w, Calls Tryz.prog 33 #[vRV u] w (RetV (vV n) w)) (N2 : ∀ w, Calls Tryz.prog 41 #[vRV u] w (RetV (vV n) w))
    (Z1 : ∀ w, Calls Tryz.prog 35 #[vRV u] w (RetV (.bool z) w)) (Z2 : ∀ w, Calls Tryz.prog 42 #[vRV u] w (RetV (.bool z) w))
    (C1 : ∀ w, Calls Tryz.prog 34 #[vRV u, vRV v] w (RetN k w)) (C2 : ∀ w, Calls Tryz.prog 43 #[vRV u, vRV v] w (RetN k w))
    (O1 : ∀ w, Calls Tryz.prog 44 #[.int .i64 a, .int .i64 b, .int .i64 c] w (RetV (vV o) w)) (O2 : ∀ w, Calls Tryz.prog 45 #[.int .i64 a, .int .i64 b, .int .i64 c] w (RetV (vV o) w)) :
    Calls Tryz.prog 8 #[vRV u, vRV v, .agg #[.int .i64 a, .int .i64 b, .int .i64 c]] w (RetV (.bool true) w) := by
  have R := fun b w hB => vfew2_any u v b w hB
  rw [h] at R
  have hz : (z == z) = true := by simp
  have hk : (k == k) = true := by simp
  exact vm_pure kr Tryz.func8 rfl [vRV u, vRV v, .agg #[.int .i64 a, .int .i64 b, .int .i64 c]] nle [(5, 12), (5, 21), (5, 28), (5, 61)] [.f, .f, .t, .t, .t, .t, .t, .t, .t, .t, .t, .t, .t, .t, .t, .t, .t, .t, .t, .t, .t, .t, .t, .t, .t, .t, .t, .t, .t, .t, (.p _ true hz), (.p _ true hz), (.p _ true hz), (.p _ true hz), (.p _ true hz), (.p _ true hz), (.p _ true hz), (.p _ true hz), (.p _ true hk), (.p _ true hk), (.p _ true hk), (.p _ true hk), (.p _ true hk), (.p _ true hk), (.p _ true hk), (.p _ true hk), (.p _ true hk), (.p _ true hk), (.p _ true hk), (.p _ true hk), (.p _ true hk), (.p _ true hk), (.p _ true hk), (.p _ true hk)] [cW (fun w' hc => HAW w' (Chg.bl0 hc)), cU 8 28 (cellsV2 u v) (cellsV2 u v) (fun b w hc hB => R b w hB), cV (V1), cV (V2), cV (A1), cV (A2), lV _ (.bool true) (fun w hC => eqV_same (rvN s) (.tmp 22) (.tmp 25) w), cV (S1), cV (S2), lV _ (.bool true) (fun w hC => eqV_same (rvN d) (.tmp 31) (.tmp 34) w), cV (N1), cV (N2), lV _ (.bool true) (fun w hC => eqV_same (rvN n) (.tmp 39) (.tmp 41) w), cV (Z1), cV (Z2), cV (C1), cV (C2), cV (O1), cV (O2), lV _ (.bool true) (fun w hC => eqV_same (rvN o) (.tmp 67) (.tmp 74) w)]
theorem VB_false (u v : Rv) (s d n o : V3) (z : Bool) (k a b c : Int) (w : World) (HAW : ∀ W, Below w.heap.size w W → Calls Tryz.prog 15 #[] W (RetV (.bool true) W)) (h : (rawV u && rawV v) = true)
    (V1 : ∀ w, Calls Tryz.prog 37 #[vRV u] w (RetV (.bool false) w)) (V2 : ∀ w, Calls Tryz.prog 38 #[vRV u] w (RetV (.bool false) w))
    (A1 : ∀ w, Calls Tryz.prog 31 #[vRV u, vRV v] w (RetV (vV s) w)) (A2 : ∀ w, Calls Tryz.prog 39 #[vRV u, vRV v] w (RetV (vV s) w))
    (S1 : ∀ w, Calls Tryz.prog 36 #[vRV u, vRV v] w (RetV (vV d) w)) (S2 : ∀ w, Calls Tryz.prog 40 #[vRV u, vRV v] w (RetV (vV d) w))
    (N1 : ∀ w, Calls Tryz.prog 33 #[vRV u] w (RetV (vV n) w)) (N2 : ∀ w, Calls Tryz.prog 41 #[vRV u] w (RetV (vV n) w))
    (Z1 : ∀ w, Calls Tryz.prog 35 #[vRV u] w (RetV (.bool z) w)) (Z2 : ∀ w, Calls Tryz.prog 42 #[vRV u] w (RetV (.bool z) w))
    (C1 : ∀ w, Calls Tryz.prog 34 #[vRV u, vRV v] w (RetN k w)) (C2 : ∀ w, Calls Tryz.prog 43 #[vRV u, vRV v] w (RetN k w))
    (O1 : ∀ w, Calls Tryz.prog 44 #[.int .i64 a, .int .i64 b, .int .i64 c] w (RetV (vV o) w)) (O2 : ∀ w, Calls Tryz.prog 45 #[.int .i64 a, .int .i64 b, .int .i64 c] w (RetV (vV o) w)) :
    Calls Tryz.prog 8 #[vRV u, vRV v, .agg #[.int .i64 a, .int .i64 b, .int .i64 c]] w (RetV (.bool true) w) := by
  have R := fun b w hB => vfew2_any u v b w hB
  rw [h] at R
  have hz : (z == z) = true := by simp
  have hk : (k == k) = true := by simp
  exact vm_pure kr Tryz.func8 rfl [vRV u, vRV v, .agg #[.int .i64 a, .int .i64 b, .int .i64 c]] nle [(5, 12), (5, 21), (5, 28), (5, 61)] [.f, .f, .t, .t, .t, .t, .t, .t, .t, .t, .t, .t, .t, .t, .t, .t, .t, .t, .t, .t, .t, .t, .t, .t, .t, .t, .t, .t, .t, .t, (.p _ true hz), (.p _ true hz), (.p _ true hz), (.p _ true hz), (.p _ true hz), (.p _ true hz), (.p _ true hz), (.p _ true hz), (.p _ true hk), (.p _ true hk), (.p _ true hk), (.p _ true hk), (.p _ true hk), (.p _ true hk), (.p _ true hk), (.p _ true hk), (.p _ true hk), (.p _ true hk), (.p _ true hk), (.p _ true hk), (.p _ true hk), (.p _ true hk), (.p _ true hk), (.p _ true hk)] [cW (fun w' hc => HAW w' (Chg.bl0 hc)), cU 8 28 (cellsV2 u v) (cellsV2 u v) (fun b w hc hB => R b w hB), cV (V1), cV (V2), cV (A1), cV (A2), lV _ (.bool true) (fun w hC => eqV_same (rvN s) (.tmp 22) (.tmp 25) w), cV (S1), cV (S2), lV _ (.bool true) (fun w hC => eqV_same (rvN d) (.tmp 31) (.tmp 34) w), cV (N1), cV (N2), lV _ (.bool true) (fun w hC => eqV_same (rvN n) (.tmp 39) (.tmp 41) w), cV (Z1), cV (Z2), cV (C1), cV (C2), cV (O1), cV (O2), lV _ (.bool true) (fun w hC => eqV_same (rvN o) (.tmp 67) (.tmp 74) w)]
theorem VB_all (u v : Rv) (a b c : Int) (w : World) (ht : HasTab w) (a0 : -9223372036854775808 ≤ a) (a1 : a ≤ 9223372036854775807) (b0 : -9223372036854775808 ≤ b) (b1 : b ≤ 9223372036854775807) (c0 : -9223372036854775808 ≤ c) (c1 : c ≤ 9223372036854775807) : Calls Tryz.prog 8 #[vRV u, vRV v, .agg #[.int .i64 a, .int .i64 b, .int .i64 c]] w (RetV (.bool true) w) := by
  have HAW : ∀ W, Below w.heap.size w W → Calls Tryz.prog 15 #[] W (RetV (.bool true) W) := fun W h => vawake_any W (ht.below h)
  cases hr : (rawV u && rawV v) with
  | false => exact VB_no u v a b c w HAW hr
  | true =>
    have h2 := hr
    simp only [Bool.and_eq_true] at h2
    have ru := rawV_small h2.1
    have rv := rawV_small h2.2
    have su := ru.mono (show 12 ≤ 80000000 by omega)
    have sv := rv.mono (show 12 ≤ 80000000 by omega)
    have V1 := fun w => vValid_any u w su
    have V2 := fun w => uValid_any u w su
    have O1 := fun w => vOf_any a b c w a0 a1 b0 b1 c0 c1
    have O2 := fun w => uOf_any a b c w a0 a1 b0 b1 c0 c1
    have Z : ∃ z, (∀ w, Calls Tryz.prog 35 #[vRV u] w (RetV (.bool z) w)) ∧ (∀ w, Calls Tryz.prog 42 #[vRV u] w (RetV (.bool z) w)) := by
      by_cases h : u = rvN zV
      · exact ⟨true, fun w => vZero_yes u w h, fun w => uZero_yes u w h⟩
      · exact ⟨false, fun w => vZero_no u w h, fun w => uZero_no u w h⟩
    obtain ⟨z, Z1, Z2⟩ := Z
    cases hu : okRV u with
    | false =>
      rw [hu] at V1 V2
      refine VB_false u v ⟨zzN, zzN, zzN⟩ ⟨zzN, zzN, zzN⟩ ⟨zzN, zzN, zzN⟩ _ z 0 a b c w HAW hr V1 V2 ?_ ?_ ?_ ?_ ?_ ?_ Z1 Z2 (fun w => vCmp_no1 u v w su hu) (fun w => uCmp_no1 u v w su hu) O1 O2 <;> rw [← vZV_eq] <;> intro w
      · exact vAdd_no1 u v w su hu
      · exact uAdd_no1 u v w su hu
      · exact vSub_no1 u v w su hu
      · exact uSub_no1 u v w su sv hu
      · exact vNeg_no u w su hu
      · exact uNeg_no u w su hu
    | true =>
      rw [hu] at V1 V2
      obtain ⟨x, rfl, ox, bx⟩ := rvN_of ru hu
      have N1 := fun w => vNeg_any x w (bx.mono (by omega)) ox
      have N2 := fun w => uNeg_any x w (bx.mono (by omega)) ox
      cases hv : okRV v with
      | false =>
        refine VB_true _ v ⟨zzN, zzN, zzN⟩ ⟨zzN, zzN, zzN⟩ _ _ z 0 a b c w HAW hr V1 V2 ?_ ?_ ?_ ?_ N1 N2 Z1 Z2 (fun w => vCmp_no2 _ v w su sv hu hv) (fun w => uCmp_no2 _ v w su sv hu hv) O1 O2 <;> rw [← vZV_eq] <;> intro w
        · exact vAdd_no2 _ v w su sv hu hv
        · exact uAdd_no2 _ v w su sv hu hv
        · exact vSub_no2 _ v w su sv hu hv
        · exact uSub_no2 _ v w su sv hu hv
      | true =>
        obtain ⟨y, rfl, oy, by'⟩ := rvN_of rv hv
        exact VB_true _ _ _ _ _ _ z _ a b c w HAW hr V1 V2 (fun w => vAdd_any x y w (bx.mono (by omega)) (by'.mono (by omega)) ox oy) (fun w => uAdd_any x y w (bx.mono (by omega)) (by'.mono (by omega)) ox oy)
          (fun w => vSub_any x y w (bx.mono (by omega)) (by'.mono (by omega)) ox oy) (fun w => uSub_any x y w (bx.mono (by omega)) (by'.mono (by omega)) ox oy) N1 N2 Z1 Z2
          (fun w => vCmp_any x y w (bx.mono (by omega)) (by'.mono (by omega)) ox oy) (fun w => uCmp_any x y w (bx.mono (by omega)) (by'.mono (by omega)) ox oy) O1 O2
end Go.Proofs.YtegnalgjjmpcmaaGreatDoor
