/- FieldLaws: the laws of a field hold, and the roots have their squares. -/
import Derived.Test.YtnejlboohjdfiaaGreatDoorQJ
import Derived.Test.YtnejlboohjdfiaaGreatDoorQK
namespace Go.Proofs.YtnejlboohjdfiaaGreatDoor
open Go Go.RowKit
set_option linter.unusedVariables false
set_option linter.unusedSimpArgs false

theorem vR_nm (x : Nm) : vN x = vR ⟨sg x.c0, mg x.c0, sg x.c1, mg x.c1, sg x.c2, mg x.c2, sg x.c3, mg x.c3, sg x.d, mg x.d⟩ := rfl
set_option maxRecDepth 100000 in
theorem FL_no (u v x : Rw) (w : World) (HAW : ∀ W, Below w.heap.size w W → Calls Tryz.prog 19 #[] W (RetV (.bool true) W)) (h : right3 u v x = false) : Calls Tryz.prog 6 #[vR u, vR v, vR x] w (RetV (.bool true) w) := by
  have R := fun b w hB => hright3_any u v x b w hB
  rw [h] at R
  exact vm_pure (by kernel_rfl) Tryz.func6 rfl [.agg #[.bool u.n0, .string u.s0, .bool u.n1, .string u.s1, .bool u.n2, .string u.s2, .bool u.n3, .string u.s3, .bool u.n4, .string u.s4], .agg #[.bool v.n0, .string v.s0, .bool v.n1, .string v.s1, .bool v.n2, .string v.s2, .bool v.n3, .string v.s3, .bool v.n4, .string v.s4], .agg #[.bool x.n0, .string x.s0, .bool x.n1, .string x.s1, .bool x.n2, .string x.s2, .bool x.n3, .string x.s3, .bool x.n4, .string x.s4]] (Nat.le_of_ble_eq_true (by kernel_rfl)) [] [.f, .t] [cW (fun w' hc => HAW w' (Chg.bl0 hc)), cU 9 33 (cells3 u v x) (cells3 u v x) (fun b w hc hB => R b w hB)] (fun r => by kernel_rfl) (fun r => by kernel_rfl)
set_option maxRecDepth 100000 in
theorem FL_div (x y z axy mxy axyz ayz mxyz myz mxa mxz ny sxy q r2 r3 r6 o2 o3 o6 : Nm) (s : Int) (w : World) (HAW : ∀ W, Below w.heap.size w W → Calls Tryz.prog 19 #[] W (RetV (.bool true) W))
    (R : ∀ b w, Hc w b 33 #[.bool (sg x.c0), .string (mg x.c0), .bool (sg x.c1), .string (mg x.c1), .bool (sg x.c2), .string (mg x.c2), .bool (sg x.c3), .string (mg x.c3), .bool (sg x.d), .string (mg x.d), .bool (sg y.c0), .string (mg y.c0), .bool (sg y.c1), .string (mg y.c1), .bool (sg y.c2), .string (mg y.c2), .bool (sg y.c3), .string (mg y.c3), .bool (sg y.d), .string (mg y.d), .bool (sg z.c0), .string (mg z.c0), .bool (sg z.c1), .string (mg z.c1), .bool (sg z.c2), .string (mg z.c2), .bool (sg z.c3), .string (mg z.c3), .bool (sg z.d), .string (mg z.d)] →
      Calls Tryz.prog 34 #[.slice (some ⟨b, 0, none⟩) 3 3] w (fun e w' => e = .returned (.bool true) ∧ Hc w' b 33 #[.bool (sg x.c0), .string (mg x.c0), .bool (sg x.c1), .string (mg x.c1), .bool (sg x.c2), .string (mg x.c2), .bool (sg x.c3), .string (mg x.c3), .bool (sg x.d), .string (mg x.d), .bool (sg y.c0), .string (mg y.c0), .bool (sg y.c1), .string (mg y.c1), .bool (sg y.c2), .string (mg y.c2), .bool (sg y.c3), .string (mg y.c3), .bool (sg y.d), .string (mg y.d), .bool (sg z.c0), .string (mg z.c0), .bool (sg z.c1), .string (mg z.c1), .bool (sg z.c2), .string (mg z.c2), .bool (sg z.c3), .string (mg z.c3), .bool (sg z.d), .string (mg z.d)] ∧ Chg [b] w w'))
    (A1 : ∀ w, Calls Tryz.prog 23 #[vN x, vN y] w (RetV (vN axy) w)) (A2 : ∀ w, Calls Tryz.prog 23 #[vN y, vN x] w (RetV (vN axy) w))
    (M1 : ∀ w, Calls Tryz.prog 27 #[vN x, vN y] w (RetV (vN mxy) w)) (M2 : ∀ w, Calls Tryz.prog 27 #[vN y, vN x] w (RetV (vN mxy) w))
    (A3 : ∀ w, Calls Tryz.prog 23 #[vN axy, vN z] w (RetV (vN axyz) w)) (A4 : ∀ w, Calls Tryz.prog 23 #[vN y, vN z] w (RetV (vN ayz) w)) (A5 : ∀ w, Calls Tryz.prog 23 #[vN x, vN ayz] w (RetV (vN axyz) w))
    (M3 : ∀ w, Calls Tryz.prog 27 #[vN mxy, vN z] w (RetV (vN mxyz) w)) (M4 : ∀ w, Calls Tryz.prog 27 #[vN y, vN z] w (RetV (vN myz) w)) (M5 : ∀ w, Calls Tryz.prog 27 #[vN x, vN myz] w (RetV (vN mxyz) w))
    (M6 : ∀ w, Calls Tryz.prog 27 #[vN x, vN ayz] w (RetV (vN mxa) w)) (M7 : ∀ w, Calls Tryz.prog 27 #[vN x, vN z] w (RetV (vN mxz) w)) (A6 : ∀ w, Calls Tryz.prog 23 #[vN mxy, vN mxz] w (RetV (vN mxa) w))
    (S1 : ∀ w, Calls Tryz.prog 25 #[vN x, vN y] w (RetV (vN sxy) w)) (N1 : ∀ w, Calls Tryz.prog 35 #[vN y] w (RetV (vN ny) w)) (A7 : ∀ w, Calls Tryz.prog 23 #[vN x, vN ny] w (RetV (vN sxy) w))
    (R2 : ∀ w, Calls Tryz.prog 36 #[.int .i64 2] w (RetV (vN r2) w)) (R3 : ∀ w, Calls Tryz.prog 36 #[.int .i64 3] w (RetV (vN r3) w)) (R6 : ∀ w, Calls Tryz.prog 36 #[.int .i64 6] w (RetV (vN r6) w))
    (Q2 : ∀ w, Calls Tryz.prog 27 #[vN r2, vN r2] w (RetV (vN o2) w)) (Q3 : ∀ w, Calls Tryz.prog 27 #[vN r3, vN r3] w (RetV (vN o3) w)) (Q6 : ∀ w, Calls Tryz.prog 27 #[vN r6, vN r6] w (RetV (vN o6) w))
    (O2 : ∀ w, Calls Tryz.prog 37 #[.int .i64 2] w (RetV (vN o2) w)) (O3 : ∀ w, Calls Tryz.prog 37 #[.int .i64 3] w (RetV (vN o3) w)) (O6 : ∀ w, Calls Tryz.prog 37 #[.int .i64 6] w (RetV (vN o6) w))
    (G : ∀ w, Calls Tryz.prog 38 #[vN y] w (RetN s w)) (D : ∀ w, Calls Tryz.prog 21 #[vN x, vN y] w (RetV (.tuple #[vN q, .int .i64 0]) w)) (hs : (s == 0) = false) (QY : ∀ w, Calls Tryz.prog 27 #[vN q, vN y] w (RetV (vN x) w)) (R23 : ∀ w, Calls Tryz.prog 27 #[vN r2, vN r3] w (RetV (vN r6) w)) : Calls Tryz.prog 6 #[vN x, vN y, vN z] w (RetV (.bool true) w) := by
  exact vm_pure (by kernel_rfl) Tryz.func6 rfl [.agg #[.bool (sg x.c0), .string (mg x.c0), .bool (sg x.c1), .string (mg x.c1), .bool (sg x.c2), .string (mg x.c2), .bool (sg x.c3), .string (mg x.c3), .bool (sg x.d), .string (mg x.d)], .agg #[.bool (sg y.c0), .string (mg y.c0), .bool (sg y.c1), .string (mg y.c1), .bool (sg y.c2), .string (mg y.c2), .bool (sg y.c3), .string (mg y.c3), .bool (sg y.d), .string (mg y.d)], .agg #[.bool (sg z.c0), .string (mg z.c0), .bool (sg z.c1), .string (mg z.c1), .bool (sg z.c2), .string (mg z.c2), .bool (sg z.c3), .string (mg z.c3), .bool (sg z.d), .string (mg z.d)]] (Nat.le_of_ble_eq_true (by kernel_rfl)) [(5, 6), (5, 14), (5, 27), (5, 40), (5, 55), (5, 65), (10, 7), (16, 7), (16, 14)] [.f, .f, .f, .f, .f, .f, .f, .f, .f, .f, .f, .f, .f, .f, .f, .f, .f, .f, .f, .f, .f, .f, .f, .f, .f, .f, .f, .f, .f, .f, .f, .f, .f, .f, .f, .f, .f, .f, .f, .f, .f, .f, .f, .f, .f, .f, .f, .f, .f, .f, .f, .f, .f, .f, .f, .f, .f, .f, .t, .f, .t, .f, .t, .f, .f, (.p _ false hs), .t, .t, .t, .t, .t, .t, .t, .t, .t, .t, .t, .t] [cW (fun w' hc => HAW w' (Chg.bl0 hc)), cU 9 33 _ _ (fun b w hc hB => R b w hB), cV (A1), cV (A2), lV _ (.bool false) (fun w hC => neN_same (axy) (.tmp 21) (.tmp 24) w), cV (M1), cV (M2), lV _ (.bool false) (fun w hC => neN_same (mxy) (.tmp 29) (.tmp 32) w), cV (A1), cV (A3), cV (A4), cV (A5), lV _ (.bool false) (fun w hC => neN_same (axyz) (.tmp 40) (.tmp 45) w), cV (M1), cV (M3), cV (M4), cV (M5), lV _ (.bool false) (fun w hC => neN_same (mxyz) (.tmp 53) (.tmp 58) w), cV (A4), cV (M6), cV (M1), cV (M7), cV (A6), lV _ (.bool false) (fun w hC => neN_same (mxa) (.tmp 66) (.tmp 73) w), cV (S1), cV (N1), cV (A7), lV _ (.bool false) (fun w hC => neN_same (sxy) (.tmp 79) (.tmp 83) w), cV (R2), cV (R2), cV (Q2), cV (O2), lV _ (.bool false) (fun w hC => neN_same (o2) (.tmp 96) (.tmp 98) w), cV (R3), cV (R3), cV (Q3), cV (O3), lV _ (.bool false) (fun w hC => neN_same (o3) (.tmp 96) (.tmp 98) w), cV (R6), cV (R6), cV (Q6), cV (O6), lV _ (.bool false) (fun w hC => neN_same (o6) (.tmp 96) (.tmp 98) w), cV (D), cV (G), cV (QY), lV _ (.bool true) (fun w hC => eqN_same (x) (.tmp 122) (.tmp 123) w), cV (R2), cV (R3), cV (R23), cV (R6), lV _ (.bool true) (fun w hC => eqN_same (r6) (.tmp 129) (.tmp 130) w)] (fun r => by kernel_rfl) (fun r => by kernel_rfl)
set_option maxRecDepth 100000 in
theorem FL_zero (x y z axy mxy axyz ayz mxyz myz mxa mxz ny sxy q r2 r3 r6 o2 o3 o6 : Nm) (s : Int) (w : World) (HAW : ∀ W, Below w.heap.size w W → Calls Tryz.prog 19 #[] W (RetV (.bool true) W))
    (R : ∀ b w, Hc w b 33 #[.bool (sg x.c0), .string (mg x.c0), .bool (sg x.c1), .string (mg x.c1), .bool (sg x.c2), .string (mg x.c2), .bool (sg x.c3), .string (mg x.c3), .bool (sg x.d), .string (mg x.d), .bool (sg y.c0), .string (mg y.c0), .bool (sg y.c1), .string (mg y.c1), .bool (sg y.c2), .string (mg y.c2), .bool (sg y.c3), .string (mg y.c3), .bool (sg y.d), .string (mg y.d), .bool (sg z.c0), .string (mg z.c0), .bool (sg z.c1), .string (mg z.c1), .bool (sg z.c2), .string (mg z.c2), .bool (sg z.c3), .string (mg z.c3), .bool (sg z.d), .string (mg z.d)] →
      Calls Tryz.prog 34 #[.slice (some ⟨b, 0, none⟩) 3 3] w (fun e w' => e = .returned (.bool true) ∧ Hc w' b 33 #[.bool (sg x.c0), .string (mg x.c0), .bool (sg x.c1), .string (mg x.c1), .bool (sg x.c2), .string (mg x.c2), .bool (sg x.c3), .string (mg x.c3), .bool (sg x.d), .string (mg x.d), .bool (sg y.c0), .string (mg y.c0), .bool (sg y.c1), .string (mg y.c1), .bool (sg y.c2), .string (mg y.c2), .bool (sg y.c3), .string (mg y.c3), .bool (sg y.d), .string (mg y.d), .bool (sg z.c0), .string (mg z.c0), .bool (sg z.c1), .string (mg z.c1), .bool (sg z.c2), .string (mg z.c2), .bool (sg z.c3), .string (mg z.c3), .bool (sg z.d), .string (mg z.d)] ∧ Chg [b] w w'))
    (A1 : ∀ w, Calls Tryz.prog 23 #[vN x, vN y] w (RetV (vN axy) w)) (A2 : ∀ w, Calls Tryz.prog 23 #[vN y, vN x] w (RetV (vN axy) w))
    (M1 : ∀ w, Calls Tryz.prog 27 #[vN x, vN y] w (RetV (vN mxy) w)) (M2 : ∀ w, Calls Tryz.prog 27 #[vN y, vN x] w (RetV (vN mxy) w))
    (A3 : ∀ w, Calls Tryz.prog 23 #[vN axy, vN z] w (RetV (vN axyz) w)) (A4 : ∀ w, Calls Tryz.prog 23 #[vN y, vN z] w (RetV (vN ayz) w)) (A5 : ∀ w, Calls Tryz.prog 23 #[vN x, vN ayz] w (RetV (vN axyz) w))
    (M3 : ∀ w, Calls Tryz.prog 27 #[vN mxy, vN z] w (RetV (vN mxyz) w)) (M4 : ∀ w, Calls Tryz.prog 27 #[vN y, vN z] w (RetV (vN myz) w)) (M5 : ∀ w, Calls Tryz.prog 27 #[vN x, vN myz] w (RetV (vN mxyz) w))
    (M6 : ∀ w, Calls Tryz.prog 27 #[vN x, vN ayz] w (RetV (vN mxa) w)) (M7 : ∀ w, Calls Tryz.prog 27 #[vN x, vN z] w (RetV (vN mxz) w)) (A6 : ∀ w, Calls Tryz.prog 23 #[vN mxy, vN mxz] w (RetV (vN mxa) w))
    (S1 : ∀ w, Calls Tryz.prog 25 #[vN x, vN y] w (RetV (vN sxy) w)) (N1 : ∀ w, Calls Tryz.prog 35 #[vN y] w (RetV (vN ny) w)) (A7 : ∀ w, Calls Tryz.prog 23 #[vN x, vN ny] w (RetV (vN sxy) w))
    (R2 : ∀ w, Calls Tryz.prog 36 #[.int .i64 2] w (RetV (vN r2) w)) (R3 : ∀ w, Calls Tryz.prog 36 #[.int .i64 3] w (RetV (vN r3) w)) (R6 : ∀ w, Calls Tryz.prog 36 #[.int .i64 6] w (RetV (vN r6) w))
    (Q2 : ∀ w, Calls Tryz.prog 27 #[vN r2, vN r2] w (RetV (vN o2) w)) (Q3 : ∀ w, Calls Tryz.prog 27 #[vN r3, vN r3] w (RetV (vN o3) w)) (Q6 : ∀ w, Calls Tryz.prog 27 #[vN r6, vN r6] w (RetV (vN o6) w))
    (O2 : ∀ w, Calls Tryz.prog 37 #[.int .i64 2] w (RetV (vN o2) w)) (O3 : ∀ w, Calls Tryz.prog 37 #[.int .i64 3] w (RetV (vN o3) w)) (O6 : ∀ w, Calls Tryz.prog 37 #[.int .i64 6] w (RetV (vN o6) w))
    (G : ∀ w, Calls Tryz.prog 38 #[vN y] w (RetN s w)) (D : ∀ w, Calls Tryz.prog 21 #[vN x, vN y] w (RetV (.tuple #[vZ, .int .i64 10]) w)) (hs : (s == 0) = true) (O0 : ∀ w, Calls Tryz.prog 37 #[.int .i64 0] w (RetV (vN y) w)) : Calls Tryz.prog 6 #[vN x, vN y, vN z] w (RetV (.bool true) w) := by
  exact vm_pure (by kernel_rfl) Tryz.func6 rfl [.agg #[.bool (sg x.c0), .string (mg x.c0), .bool (sg x.c1), .string (mg x.c1), .bool (sg x.c2), .string (mg x.c2), .bool (sg x.c3), .string (mg x.c3), .bool (sg x.d), .string (mg x.d)], .agg #[.bool (sg y.c0), .string (mg y.c0), .bool (sg y.c1), .string (mg y.c1), .bool (sg y.c2), .string (mg y.c2), .bool (sg y.c3), .string (mg y.c3), .bool (sg y.d), .string (mg y.d)], .agg #[.bool (sg z.c0), .string (mg z.c0), .bool (sg z.c1), .string (mg z.c1), .bool (sg z.c2), .string (mg z.c2), .bool (sg z.c3), .string (mg z.c3), .bool (sg z.d), .string (mg z.d)]] (Nat.le_of_ble_eq_true (by kernel_rfl)) [(5, 6), (5, 14), (5, 27), (5, 40), (5, 55), (5, 65), (10, 7), (15, 5)] [.f, .f, .f, .f, .f, .f, .f, .f, .f, .f, .f, .f, .f, .f, .f, .f, .f, .f, .f, .f, .f, .f, .f, .f, .f, .f, .f, .f, .f, .f, .f, .f, .f, .f, .f, .f, .f, .f, .f, .f, .f, .f, .f, .f, .f, .f, .f, .f, .f, .f, .f, .f, .f, .f, .f, .f, .f, .f, .t, .f, .t, .f, .t, .f, .f, (.p _ true hs), .t, .t, .t, .t] [cW (fun w' hc => HAW w' (Chg.bl0 hc)), cU 9 33 _ _ (fun b w hc hB => R b w hB), cV (A1), cV (A2), lV _ (.bool false) (fun w hC => neN_same (axy) (.tmp 21) (.tmp 24) w), cV (M1), cV (M2), lV _ (.bool false) (fun w hC => neN_same (mxy) (.tmp 29) (.tmp 32) w), cV (A1), cV (A3), cV (A4), cV (A5), lV _ (.bool false) (fun w hC => neN_same (axyz) (.tmp 40) (.tmp 45) w), cV (M1), cV (M3), cV (M4), cV (M5), lV _ (.bool false) (fun w hC => neN_same (mxyz) (.tmp 53) (.tmp 58) w), cV (A4), cV (M6), cV (M1), cV (M7), cV (A6), lV _ (.bool false) (fun w hC => neN_same (mxa) (.tmp 66) (.tmp 73) w), cV (S1), cV (N1), cV (A7), lV _ (.bool false) (fun w hC => neN_same (sxy) (.tmp 79) (.tmp 83) w), cV (R2), cV (R2), cV (Q2), cV (O2), lV _ (.bool false) (fun w hC => neN_same (o2) (.tmp 96) (.tmp 98) w), cV (R3), cV (R3), cV (Q3), cV (O3), lV _ (.bool false) (fun w hC => neN_same (o3) (.tmp 96) (.tmp 98) w), cV (R6), cV (R6), cV (Q6), cV (O6), lV _ (.bool false) (fun w hC => neN_same (o6) (.tmp 96) (.tmp 98) w), cV (D), cV (G), cV (O0), lV _ (.bool true) (fun w hC => eqN_same (y) (.tmp 113) (.tmp 114) w)] (fun r => by kernel_rfl) (fun r => by kernel_rfl)
theorem root_sq : mulN (rootN 2) (rootN 2) = intN 2 ∧ mulN (rootN 3) (rootN 3) = intN 3 ∧ mulN (rootN 6) (rootN 6) = intN 6 ∧ mulN (rootN 2) (rootN 3) = rootN 6 := ⟨by kernel_rfl, by kernel_rfl, by kernel_rfl, by kernel_rfl⟩
theorem FL_all (u v r : Rw) (w : World) (ht : HasTab w) : Calls Tryz.prog 6 #[vR u, vR v, vR r] w (RetV (.bool true) w) := by
  have HAW : ∀ W, Below w.heap.size w W → Calls Tryz.prog 19 #[] W (RetV (.bool true) W) := fun W h => hawake_any W (ht.below h)
  cases hr : right3 u v r with
  | false => exact FL_no u v r w HAW hr
  | true =>
    have R := fun b w hB => hright3_any u v r b w hB
    rw [hr] at R
    unfold right3 at hr
    simp only [Bool.and_eq_true] at hr
    obtain ⟨⟨⟨f1, f2⟩, f3⟩, ⟨k1, k2⟩, k3⟩ := hr
    obtain ⟨x, rfl, ox, bx⟩ := right_nm f1 k1
    obtain ⟨y, rfl, oy, by'⟩ := right_nm f2 k2
    obtain ⟨z, rfl, oz, bz⟩ := right_nm f3 k3
    have ad : ∀ {a b : Nm}, BN 300 a → BN 300 b → Ok a → Ok b → ∀ w, Calls Tryz.prog 23 #[vN a, vN b] w (RetV (vN (addN a b)) w) := fun ha hb oa ob w => fAdd_any _ _ w (ha.mono (by omega)) (hb.mono (by omega)) oa ob
    have mu : ∀ {a b : Nm}, BN 300 a → BN 300 b → Ok a → Ok b → ∀ w, Calls Tryz.prog 27 #[vN a, vN b] w (RetV (vN (mulN a b)) w) := fun ha hb oa ob w => fMul_any _ _ w (ha.mono (by omega)) (hb.mono (by omega)) oa ob
    have X := bx.mono (show 20 ≤ 300 by omega)
    have Y := by'.mono (show 20 ≤ 300 by omega)
    have Z := bz.mono (show 20 ≤ 300 by omega)
    have bxy := (bx.addN by' ox.ne oy.ne).mono (show 2 * 20 + 1 ≤ 300 by omega)
    have byz := (by'.addN bz oy.ne oz.ne).mono (show 2 * 20 + 1 ≤ 300 by omega)
    have mxy := (bx.mulN by' ox.ne oy.ne).mono (show 2 * 20 + 5 ≤ 300 by omega)
    have myz := (by'.mulN bz oy.ne oz.ne).mono (show 2 * 20 + 5 ≤ 300 by omega)
    have mxz := (bx.mulN bz ox.ne oz.ne).mono (show 2 * 20 + 5 ≤ 300 by omega)
    have A1 := ad X Y ox oy
    have A2 := ad Y X oy ox
    rw [← addN_comm ox oy] at A2
    have M1 := mu X Y ox oy
    have M2 := mu Y X oy ox
    rw [← mulN_comm ox oy] at M2
    have A3 := ad bxy Z (addN_ok ox oy) oz
    have A4 := ad Y Z oy oz
    have A5 := ad X byz ox (addN_ok oy oz)
    rw [← addN_assoc ox oy oz] at A5
    have M3 := mu mxy Z (mulN_ok ox oy) oz
    have M4 := mu Y Z oy oz
    have M5 := mu X myz ox (mulN_ok oy oz)
    rw [← mulN_assoc ox oy oz] at M5
    have M6 := mu X byz ox (addN_ok oy oz)
    have M7 := mu X Z ox oz
    have A6 := ad mxy mxz (mulN_ok ox oy) (mulN_ok ox oz)
    rw [← mulN_add ox oy oz] at A6
    have S1 := fun w => fSub_any x y w (bx.mono (by omega)) (by'.mono (by omega)) ox oy
    have N1 := fun w => fNeg_any y w (by'.mono (by omega)) oy
    have A7 := ad X Y.neg ox (negN_ok oy)
    have bad := by'.mono (show 20 ≤ 20000000 by omega)
    have G := fun w => fSign_any y w bad oy
    have rb : ∀ k, BN 300 (rootN k) := fun k => (BN.root k).mono (by omega)
    obtain ⟨q2, q3, q6, q23⟩ := root_sq
    have Q2 := mu (rb 2) (rb 2) (rootN_ok 2) (rootN_ok 2)
    have Q3 := mu (rb 3) (rb 3) (rootN_ok 3) (rootN_ok 3)
    have Q6 := mu (rb 6) (rb 6) (rootN_ok 6) (rootN_ok 6)
    have Q23 := mu (rb 2) (rb 3) (rootN_ok 2) (rootN_ok 3)
    rw [q2] at Q2
    rw [q3] at Q3
    rw [q6] at Q6
    rw [q23] at Q23
    by_cases hy : y = zN
    · have D := fun w => fDiv_zero x w (bx.mono (by omega)) ox
      rw [← hy] at D
      have O0 := fun w => fOf_any 0 w (by omega) (by omega)
      rw [show intN 0 = zN from rfl, ← hy] at O0
      exact FL_zero x y z _ _ _ _ _ _ _ _ _ _ zN _ _ _ _ _ _ (sgnN y) w HAW R A1 A2 M1 M2 A3 A4 A5 M3 M4 M5 M6 M7 A6 S1 N1 A7 (fRoot_any 2) (fRoot_any 3) (fRoot_any 6) Q2 Q3 Q6 (fun w => fOf_any 2 w (by omega) (by omega)) (fun w => fOf_any 3 w (by omega) (by omega)) (fun w => fOf_any 6 w (by omega) (by omega)) G D (by rw [hy]; rfl) O0
    · have D := fun w => fDiv_any x y w (bx.mono (by omega)) (by'.mono (by omega)) ox oy hy
      have bq := (bx.divN by' ox oy hy).mono (show 20 * 20 + 100 ≤ 30000000 by omega)
      have QY := fun w => fMul_any (divN x y) y w bq (by'.mono (by omega)) (divN_ok ox oy hy) oy
      rw [divN_mulN ox oy hy] at QY
      exact FL_div x y z _ _ _ _ _ _ _ _ _ _ (divN x y) _ _ _ _ _ _ (sgnN y) w HAW R A1 A2 M1 M2 A3 A4 A5 M3 M4 M5 M6 M7 A6 S1 N1 A7 (fRoot_any 2) (fRoot_any 3) (fRoot_any 6) Q2 Q3 Q6 (fun w => fOf_any 2 w (by omega) (by omega)) (fun w => fOf_any 3 w (by omega) (by omega)) (fun w => fOf_any 6 w (by omega) (by omega)) G D (by rw [beq_eq_false_iff_ne]; exact ne_zN oy hy) QY Q23
end Go.Proofs.YtnejlboohjdfiaaGreatDoor
