/- FieldBasic: validity, opposites, absolute values, signs, comparison, rational numbers and integer parts. -/
import Derived.Test.YtegnalgjjmpcmaaGreatDoorPGFieZ
import Derived.Test.YtegnalgjjmpcmaaGreatDoorPGJ
import Derived.Test.YtegnalgjjmpcmaaGreatDoorPGK
namespace Go.Proofs.YtegnalgjjmpcmaaGreatDoor
open Go Go.RowKit
set_option maxRecDepth 100000
set_option linter.unusedVariables false
set_option linter.unusedSimpArgs false
theorem FB_no (u v : Rw) (w : World) (HAW : ∀ W, Below w.heap.size w W → Calls Tryz.prog 46 #[] W (RetV (.bool true) W)) (h : (rawB u && rawB v) = false) : Calls Tryz.prog 12 #[vR u, vR v] w (RetV (.bool true) w) := by
 have R := fun b w hB => hfew2_any u v b w hB
 rw [h] at R
 exact vm_pure kr Tryz.func12 rfl [vR u, vR v] nle [] [.f, .t] [cW (fun w' hc => HAW w' (Chg.bl0 hc)), cU 7 26 (cells2 u v) (cells2 u v) (fun b w hc hB => R b w hB)]
theorem FB_true (u v : Rw) (n a : Nm) (s k f : Int) (q : Bool) (w : World) (HAW : ∀ W, Below w.heap.size w W → Calls Tryz.prog 46 #[] W (RetV (.bool true) W)) (h : (rawB u && rawB v) = true)
  (V1 : ∀ w, Calls Tryz.prog 62 #[vR u] w (RetV (.bool true) w)) (V2 : ∀ w, Calls Tryz.prog 57 #[vR u] w (RetV (.bool true) w))
  (N1 : ∀ w, Calls Tryz.prog 66 #[vR u] w (RetV (vN n) w)) (N2 : ∀ w, Calls Tryz.prog 30 #[vR u] w (RetV (vN n) w))
  (A1 : ∀ w, Calls Tryz.prog 67 #[vR u] w (RetV (vN a) w)) (A2 : ∀ w, Calls Tryz.prog 68 #[vR u] w (RetV (vN a) w))
  (S1 : ∀ w, Calls Tryz.prog 69 #[vR u] w (RetN s w)) (S2 : ∀ w, Calls Tryz.prog 70 #[vR u] w (RetN s w))
  (C1 : ∀ w, Calls Tryz.prog 71 #[vR u, vR v] w (RetN k w)) (C2 : ∀ w, Calls Tryz.prog 72 #[vR u, vR v] w (RetN k w))
  (Q1 : ∀ w, Calls Tryz.prog 73 #[vR u] w (RetV (.bool q) w)) (Q2 : ∀ w, Calls Tryz.prog 74 #[vR u] w (RetV (.bool q) w))
  (F1 : ∀ w, Calls Tryz.prog 75 #[vR u] w (RetI f w)) (F2 : ∀ w, Calls Tryz.prog 76 #[vR u] w (RetI f w)) : Calls Tryz.prog 12 #[vR u, vR v] w (RetV (.bool true) w) := by
 have R := fun b w hB => hfew2_any u v b w hB
 rw [h] at R
 have hs : (s == s) = true := by simp
 have hk : (k == k) = true := by simp
 have hq : (q == q) = true := by simp
 exact vm_pure kr Tryz.func12 rfl [vR u, vR v] nle [(5, 10), (5, 17), (5, 47)] [.f, .f, .t, .t, .t, .t, .t, .t, .t, .t, .t, .t, .t, .t, .t, .t, .t, .t, .t, .t, (.p _ true hs), (.p _ true hs), (.p _ true hs), (.p _ true hs), (.p _ true hs), (.p _ true hs), (.p _ true hs), (.p _ true hs), (.p _ true hk), (.p _ true hk), (.p _ true hk), (.p _ true hk), (.p _ true hk), (.p _ true hk), (.p _ true hq), (.p _ true hq), (.p _ true hq), (.p _ true hq), (.p _ true hq), (.p _ true hq)] [cW (fun w' hc => HAW w' (Chg.bl0 hc)), cU 7 26 (cells2 u v) (cells2 u v) (fun b w hc hB => R b w hB), cV (V1), cV (V2), cV (N1), cV (N2), lV _ (.bool true) (fun w hC => eqN_same (n) (.tmp 19) (.tmp 21) w), cV (A1), cV (A2), lV _ (.bool true) (fun w hC => eqN_same (a) (.tmp 26) (.tmp 28) w), cV (S1), cV (S2), cV (C1), cV (C2), cV (Q1), cV (Q2), cV (F1), cV (F2), lV _ (.bool true) (fun w hC => eqI_same (f) (.tmp 56) (.tmp 58) w)]
theorem FB_false (u v : Rw) (n a : Nm) (s k f : Int) (q : Bool) (w : World) (HAW : ∀ W, Below w.heap.size w W → Calls Tryz.prog 46 #[] W (RetV (.bool true) W)) (h : (rawB u && rawB v) = true)
  (V1 : ∀ w, Calls Tryz.prog 62 #[vR u] w (RetV (.bool false) w)) (V2 : ∀ w, Calls Tryz.prog 57 #[vR u] w (RetV (.bool false) w))
  (N1 : ∀ w, Calls Tryz.prog 66 #[vR u] w (RetV (vN n) w)) (N2 : ∀ w, Calls Tryz.prog 30 #[vR u] w (RetV (vN n) w))
  (A1 : ∀ w, Calls Tryz.prog 67 #[vR u] w (RetV (vN a) w)) (A2 : ∀ w, Calls Tryz.prog 68 #[vR u] w (RetV (vN a) w))
  (S1 : ∀ w, Calls Tryz.prog 69 #[vR u] w (RetN s w)) (S2 : ∀ w, Calls Tryz.prog 70 #[vR u] w (RetN s w))
  (C1 : ∀ w, Calls Tryz.prog 71 #[vR u, vR v] w (RetN k w)) (C2 : ∀ w, Calls Tryz.prog 72 #[vR u, vR v] w (RetN k w))
  (Q1 : ∀ w, Calls Tryz.prog 73 #[vR u] w (RetV (.bool q) w)) (Q2 : ∀ w, Calls Tryz.prog 74 #[vR u] w (RetV (.bool q) w))
  (F1 : ∀ w, Calls Tryz.prog 75 #[vR u] w (RetI f w)) (F2 : ∀ w, Calls Tryz.prog 76 #[vR u] w (RetI f w)) : Calls Tryz.prog 12 #[vR u, vR v] w (RetV (.bool true) w) := by
 have R := fun b w hB => hfew2_any u v b w hB
 rw [h] at R
 have hs : (s == s) = true := by simp
 have hk : (k == k) = true := by simp
 have hq : (q == q) = true := by simp
 exact vm_pure kr Tryz.func12 rfl [vR u, vR v] nle [(5, 10), (5, 17), (5, 47)] [.f, .f, .t, .t, .t, .t, .t, .t, .t, .t, .t, .t, .t, .t, .t, .t, .t, .t, .t, .t, (.p _ true hs), (.p _ true hs), (.p _ true hs), (.p _ true hs), (.p _ true hs), (.p _ true hs), (.p _ true hs), (.p _ true hs), (.p _ true hk), (.p _ true hk), (.p _ true hk), (.p _ true hk), (.p _ true hk), (.p _ true hk), (.p _ true hq), (.p _ true hq), (.p _ true hq), (.p _ true hq), (.p _ true hq), (.p _ true hq)] [cW (fun w' hc => HAW w' (Chg.bl0 hc)), cU 7 26 (cells2 u v) (cells2 u v) (fun b w hc hB => R b w hB), cV (V1), cV (V2), cV (N1), cV (N2), lV _ (.bool true) (fun w hC => eqN_same (n) (.tmp 19) (.tmp 21) w), cV (A1), cV (A2), lV _ (.bool true) (fun w hC => eqN_same (a) (.tmp 26) (.tmp 28) w), cV (S1), cV (S2), cV (C1), cV (C2), cV (Q1), cV (Q2), cV (F1), cV (F2), lV _ (.bool true) (fun w hC => eqI_same (f) (.tmp 56) (.tmp 58) w)]
theorem FB_all (u v : Rw) (w : World) (ht : HasTab w) : Calls Tryz.prog 12 #[vR u, vR v] w (RetV (.bool true) w) := by
 have HAW : ∀ W, Below w.heap.size w W → Calls Tryz.prog 46 #[] W (RetV (.bool true) W) := fun W h => hawake_any W (ht.below h)
 cases hr : (rawB u && rawB v) with
 | false => exact FB_no u v w HAW hr
 | true =>
  have h2 := hr
  simp only [Bool.and_eq_true] at h2
  have su := (rawB_small h2.1).mono (show 20 ≤ 80000000 by omega)
  have sv := (rawB_small h2.2).mono (show 20 ≤ 80000000 by omega)
  have V1 := fun w => fValid_any u w su
  have V2 := fun w => gValid_any u w su
  cases hu : okR u with
  | false =>
   rw [hu] at V1 V2
   refine FB_false u v ⟨0, 0, 0, 0, 0⟩ ⟨0, 0, 0, 0, 0⟩ 0 0 0 false w HAW hr V1 V2 ?_ ?_ ?_ ?_ (fun w => fSign_no u w su hu) (fun w => gSign_no u w su hu) (fun w => fCmp_no1 u v w su sv hu) (fun w => gCmp_no1 u v w su hu) (fun w => fRational_no u w su hu) (fun w => gRational_no u w su hu) (fun w => fFloor_no u w su hu) (fun w => gFloor_no u w su hu) <;> rw [← vZ_eq] <;> intro w
   ·exact fNeg_no u w su hu
   ·exact gNeg_no u w su hu
   ·exact fAbs_no u w su hu
   ·exact gAbs_no u w su hu
  | true =>
   rw [hu] at V1 V2
   obtain ⟨x, rfl, ox, bx⟩ := right_nm h2.1 hu
   obtain ⟨f, hf⟩ := Fl.ex ox
   have C : ∃ k, (∀ w, Calls Tryz.prog 71 #[vR (rwN x), vR v] w (RetN k w)) ∧ (∀ w, Calls Tryz.prog 72 #[vR (rwN x), vR v] w (RetN k w)) := by
    cases hv : okR v with
    | false => exact ⟨0, fun w => fCmp_no2 _ v w su sv hu hv, fun w => gCmp_no2 _ v w su sv hu hv⟩
    | true =>
     obtain ⟨y, rfl, oy, by'⟩ := right_nm h2.2 hv
     exact ⟨cmpK x y, fun w => fCmp_any x y w (bx.mono (by omega)) (by'.mono (by omega)) ox oy, fun w => gCmp_any x y w (bx.mono (by omega)) (by'.mono (by omega)) ox oy⟩
   obtain ⟨k, C1, C2⟩ := C
   exact FB_true _ v (negN x) (absN x) (sgnN x) k f (ratB x) w HAW hr V1 V2 (fun w => fNeg_any x w (bx.mono (by omega)) ox) (fun w => gNeg_any x w (bx.mono (by omega)) ox)
    (fun w => fAbs_any x w (bx.mono (by omega)) ox) (fun w => gAbs_any x w (bx.mono (by omega)) ox) (fun w => fSign_any x w (bx.mono (by omega)) ox) (fun w => gSign_any x w (bx.mono (by omega)) ox) C1 C2
    (fun w => fRational_any x w (bx.mono (by omega)) ox) (fun w => gRational_any x w (bx.mono (by omega)) ox) (fun w => fFloor_fl x f w (bx.mono (by omega)) ox hf) (fun w => gFloor_fl x f w (bx.mono (by omega)) ox hf)
end Go.Proofs.YtegnalgjjmpcmaaGreatDoor
