/- FieldOrder: comparison is a total order, which addition and multiplication by positive numbers keep; squares are not negative. -/
import Derived.Test.YtnejlboohjdfiaaGreatDoorQJ
import Derived.Test.YtnejlboohjdfiaaGreatDoorQK
namespace Go.Proofs.YtnejlboohjdfiaaGreatDoor
open Go Go.RowKit
set_option linter.unusedVariables false
set_option linter.unusedSimpArgs false

set_option maxRecDepth 100000 in
theorem FO_no (u v x : Rw) (w : World) (HAW : ∀ W, Below w.heap.size w W → Calls Tryz.prog 19 #[] W (RetV (.bool true) W)) (h : right3 u v x = false) : Calls Tryz.prog 8 #[vR u, vR v, vR x] w (RetV (.bool true) w) := by
  have R := fun b w hB => hright3_any u v x b w hB
  rw [h] at R
  exact vm_pure (by kernel_rfl) Tryz.func8 rfl [.agg #[.bool u.n0, .string u.s0, .bool u.n1, .string u.s1, .bool u.n2, .string u.s2, .bool u.n3, .string u.s3, .bool u.n4, .string u.s4], .agg #[.bool v.n0, .string v.s0, .bool v.n1, .string v.s1, .bool v.n2, .string v.s2, .bool v.n3, .string v.s3, .bool v.n4, .string v.s4], .agg #[.bool x.n0, .string x.s0, .bool x.n1, .string x.s1, .bool x.n2, .string x.s2, .bool x.n3, .string x.s3, .bool x.n4, .string x.s4]] (Nat.le_of_ble_eq_true (by kernel_rfl)) [] [.f, .t] [cW (fun w' hc => HAW w' (Chg.bl0 hc)), cU 9 33 (cells3 u v x) (cells3 u v x) (fun b w hc hB => R b w hB)] (fun r => by kernel_rfl) (fun r => by kernel_rfl)
set_option maxRecDepth 100000 in
theorem FO_ps (x y z axz ayz mxx mxz myz ab : Nm) (m n s g h : Int) (w : World) (HAW : ∀ W, Below w.heap.size w W → Calls Tryz.prog 19 #[] W (RetV (.bool true) W))
    (R : ∀ b w, Hc w b 33 (cells3 (rwN x) (rwN y) (rwN z)) → Calls Tryz.prog 34 #[.slice (some ⟨b, 0, none⟩) 3 3] w (fun e w' => e = .returned (.bool true) ∧ Hc w' b 33 (cells3 (rwN x) (rwN y) (rwN z)) ∧ Chg [b] w w'))
    (C1 : ∀ w, Calls Tryz.prog 46 #[vN x, vN y] w (RetN (1) w)) (C2 : ∀ w, Calls Tryz.prog 46 #[vN y, vN x] w (RetN (-1) w)) (hxy : x ≠ y) 
    (A1 : ∀ w, Calls Tryz.prog 23 #[vN x, vN z] w (RetV (vN axz) w)) (A2 : ∀ w, Calls Tryz.prog 23 #[vN y, vN z] w (RetV (vN ayz) w)) (C5 : ∀ w, Calls Tryz.prog 46 #[vN axz, vN ayz] w (RetN (1) w))
    (M1 : ∀ w, Calls Tryz.prog 27 #[vN x, vN x] w (RetV (vN mxx) w)) (S1 : ∀ w, Calls Tryz.prog 38 #[vN mxx] w (RetN g w)) (hg : decide (g < 0) = false)
    (S2 : ∀ w, Calls Tryz.prog 38 #[vN z] w (RetN s w)) (hs : decide (s ≤ 0) = true)
    (B : ∀ w, Calls Tryz.prog 47 #[vN x] w (RetV (vN ab) w)) (S3 : ∀ w, Calls Tryz.prog 38 #[vN ab] w (RetN h w)) (hh : decide (0 ≤ h) = true) (M4 : ∀ w, Calls Tryz.prog 27 #[vN ab, vN ab] w (RetV (vN mxx) w)) :
    Calls Tryz.prog 8 #[vN x, vN y, vN z] w (RetV (.bool true) w) := by
  exact vm_pure (by kernel_rfl) Tryz.func8 rfl [.agg #[.bool (sg x.c0), .string (mg x.c0), .bool (sg x.c1), .string (mg x.c1), .bool (sg x.c2), .string (mg x.c2), .bool (sg x.c3), .string (mg x.c3), .bool (sg x.d), .string (mg x.d)], .agg #[.bool (sg y.c0), .string (mg y.c0), .bool (sg y.c1), .string (mg y.c1), .bool (sg y.c2), .string (mg y.c2), .bool (sg y.c3), .string (mg y.c3), .bool (sg y.d), .string (mg y.d)], .agg #[.bool (sg z.c0), .string (mg z.c0), .bool (sg z.c1), .string (mg z.c1), .bool (sg z.c2), .string (mg z.c2), .bool (sg z.c3), .string (mg z.c3), .bool (sg z.d), .string (mg z.d)]] (Nat.le_of_ble_eq_true (by kernel_rfl)) [(6, 11), (8, 29)] [.f, .f, .f, .f, .f, .f, .f, .f, .f, .f, .f, .f, .f, .f, .f, .f, .f, .f, .f, .f, .f, .f, .f, .f, .f, .f, .f, .f, .f, .f, .f, .f, .f, .f, .f, .f, .f, .f, .f, .f, .f, .f, (.p _ false hg), (.p _ true hs), (.p _ true hs), (.p _ true hs), (.p _ true hs), (.p _ true hs), (.p _ true hs), (.p _ true hs), (.p _ true hs), (.p _ true hs), (.p _ true hs), .t, .t, .t, .t, .t, (.p _ true hh), (.p _ true hh), (.p _ true hh), (.p _ true hh), (.p _ true hh), (.p _ true hh), (.p _ true hh), (.p _ true hh), (.p _ true hh), (.p _ true hh)] [cW (fun w' hc => HAW w' (Chg.bl0 hc)), cU 9 33 _ _ (fun b w hc hB => R b w hB), cV (C1), cV (C2), lV _ (.bool false) (fun w hC => eqN_diff (x) (y) (hxy) (.tmp 28) (.tmp 29) w), cV (A1), cV (A2), cV (C5), cV (M1), cV (S1), cV (S2), cV (B), cV (S3), cV (B), cV (B), cV (M4), cV (M1), lV _ (.bool true) (fun w hC => eqN_same (mxx) (.tmp 92) (.tmp 95) w)] (fun r => by kernel_rfl) (fun r => by kernel_rfl)
set_option maxRecDepth 100000 in
theorem FO_pt (x y z axz ayz mxx mxz myz ab : Nm) (m n s g h : Int) (w : World) (HAW : ∀ W, Below w.heap.size w W → Calls Tryz.prog 19 #[] W (RetV (.bool true) W))
    (R : ∀ b w, Hc w b 33 (cells3 (rwN x) (rwN y) (rwN z)) → Calls Tryz.prog 34 #[.slice (some ⟨b, 0, none⟩) 3 3] w (fun e w' => e = .returned (.bool true) ∧ Hc w' b 33 (cells3 (rwN x) (rwN y) (rwN z)) ∧ Chg [b] w w'))
    (C1 : ∀ w, Calls Tryz.prog 46 #[vN x, vN y] w (RetN (1) w)) (C2 : ∀ w, Calls Tryz.prog 46 #[vN y, vN x] w (RetN (-1) w)) (hxy : x ≠ y) 
    (A1 : ∀ w, Calls Tryz.prog 23 #[vN x, vN z] w (RetV (vN axz) w)) (A2 : ∀ w, Calls Tryz.prog 23 #[vN y, vN z] w (RetV (vN ayz) w)) (C5 : ∀ w, Calls Tryz.prog 46 #[vN axz, vN ayz] w (RetN (1) w))
    (M1 : ∀ w, Calls Tryz.prog 27 #[vN x, vN x] w (RetV (vN mxx) w)) (S1 : ∀ w, Calls Tryz.prog 38 #[vN mxx] w (RetN g w)) (hg : decide (g < 0) = false)
    (S2 : ∀ w, Calls Tryz.prog 38 #[vN z] w (RetN s w)) (hs : decide (s ≤ 0) = false) (M2 : ∀ w, Calls Tryz.prog 27 #[vN x, vN z] w (RetV (vN mxz) w)) (M3 : ∀ w, Calls Tryz.prog 27 #[vN y, vN z] w (RetV (vN myz) w)) (C6 : ∀ w, Calls Tryz.prog 46 #[vN mxz, vN myz] w (RetN (1) w))
    (B : ∀ w, Calls Tryz.prog 47 #[vN x] w (RetV (vN ab) w)) (S3 : ∀ w, Calls Tryz.prog 38 #[vN ab] w (RetN h w)) (hh : decide (0 ≤ h) = true) (M4 : ∀ w, Calls Tryz.prog 27 #[vN ab, vN ab] w (RetV (vN mxx) w)) :
    Calls Tryz.prog 8 #[vN x, vN y, vN z] w (RetV (.bool true) w) := by
  exact vm_pure (by kernel_rfl) Tryz.func8 rfl [.agg #[.bool (sg x.c0), .string (mg x.c0), .bool (sg x.c1), .string (mg x.c1), .bool (sg x.c2), .string (mg x.c2), .bool (sg x.c3), .string (mg x.c3), .bool (sg x.d), .string (mg x.d)], .agg #[.bool (sg y.c0), .string (mg y.c0), .bool (sg y.c1), .string (mg y.c1), .bool (sg y.c2), .string (mg y.c2), .bool (sg y.c3), .string (mg y.c3), .bool (sg y.d), .string (mg y.d)], .agg #[.bool (sg z.c0), .string (mg z.c0), .bool (sg z.c1), .string (mg z.c1), .bool (sg z.c2), .string (mg z.c2), .bool (sg z.c3), .string (mg z.c3), .bool (sg z.d), .string (mg z.d)]] (Nat.le_of_ble_eq_true (by kernel_rfl)) [(6, 11), (8, 29)] [.f, .f, .f, .f, .f, .f, .f, .f, .f, .f, .f, .f, .f, .f, .f, .f, .f, .f, .f, .f, .f, .f, .f, .f, .f, .f, .f, .f, .f, .f, .f, .f, .f, .f, .f, .f, .f, .f, .f, .f, .f, .f, (.p _ false hg), (.p _ false hs), (.p _ false hs), (.p _ false hs), (.p _ false hs), (.p _ false hs), (.p _ false hs), (.p _ false hs), (.p _ false hs), (.p _ false hs), (.p _ false hs), .t, .t, .t, .t, .t, (.p _ true hh), (.p _ true hh), (.p _ true hh), (.p _ true hh), (.p _ true hh), (.p _ true hh), (.p _ true hh), (.p _ true hh), (.p _ true hh), (.p _ true hh)] [cW (fun w' hc => HAW w' (Chg.bl0 hc)), cU 9 33 _ _ (fun b w hc hB => R b w hB), cV (C1), cV (C2), lV _ (.bool false) (fun w hC => eqN_diff (x) (y) (hxy) (.tmp 28) (.tmp 29) w), cV (A1), cV (A2), cV (C5), cV (M1), cV (S1), cV (S2), cV (M2), cV (M3), cV (C6), cV (B), cV (S3), cV (B), cV (B), cV (M4), cV (M1), lV _ (.bool true) (fun w hC => eqN_same (mxx) (.tmp 92) (.tmp 95) w)] (fun r => by kernel_rfl) (fun r => by kernel_rfl)
set_option maxRecDepth 100000 in
theorem FO_zas (x y z axz ayz mxx mxz myz ab : Nm) (m n s g h : Int) (w : World) (HAW : ∀ W, Below w.heap.size w W → Calls Tryz.prog 19 #[] W (RetV (.bool true) W))
    (R : ∀ b w, Hc w b 33 (cells3 (rwN x) (rwN x) (rwN z)) → Calls Tryz.prog 34 #[.slice (some ⟨b, 0, none⟩) 3 3] w (fun e w' => e = .returned (.bool true) ∧ Hc w' b 33 (cells3 (rwN x) (rwN x) (rwN z)) ∧ Chg [b] w w'))
    (C1 : ∀ w, Calls Tryz.prog 46 #[vN x, vN x] w (RetN (0) w)) (C2 : ∀ w, Calls Tryz.prog 46 #[vN x, vN x] w (RetN (0) w))  (C3 : ∀ w, Calls Tryz.prog 46 #[vN x, vN z] w (RetN m w)) (hm : decide (m ≤ 0) = true) (C4 : ∀ w, Calls Tryz.prog 46 #[vN x, vN z] w (RetN n w)) (hn : decide (0 < n) = false)
    (A1 : ∀ w, Calls Tryz.prog 23 #[vN x, vN z] w (RetV (vN axz) w)) (A2 : ∀ w, Calls Tryz.prog 23 #[vN x, vN z] w (RetV (vN ayz) w)) (C5 : ∀ w, Calls Tryz.prog 46 #[vN axz, vN ayz] w (RetN (0) w))
    (M1 : ∀ w, Calls Tryz.prog 27 #[vN x, vN x] w (RetV (vN mxx) w)) (S1 : ∀ w, Calls Tryz.prog 38 #[vN mxx] w (RetN g w)) (hg : decide (g < 0) = false)
    (S2 : ∀ w, Calls Tryz.prog 38 #[vN z] w (RetN s w)) (hs : decide (s ≤ 0) = true)
    (B : ∀ w, Calls Tryz.prog 47 #[vN x] w (RetV (vN ab) w)) (S3 : ∀ w, Calls Tryz.prog 38 #[vN ab] w (RetN h w)) (hh : decide (0 ≤ h) = true) (M4 : ∀ w, Calls Tryz.prog 27 #[vN ab, vN ab] w (RetV (vN mxx) w)) :
    Calls Tryz.prog 8 #[vN x, vN x, vN z] w (RetV (.bool true) w) := by
  exact vm_pure (by kernel_rfl) Tryz.func8 rfl [.agg #[.bool (sg x.c0), .string (mg x.c0), .bool (sg x.c1), .string (mg x.c1), .bool (sg x.c2), .string (mg x.c2), .bool (sg x.c3), .string (mg x.c3), .bool (sg x.d), .string (mg x.d)], .agg #[.bool (sg x.c0), .string (mg x.c0), .bool (sg x.c1), .string (mg x.c1), .bool (sg x.c2), .string (mg x.c2), .bool (sg x.c3), .string (mg x.c3), .bool (sg x.d), .string (mg x.d)], .agg #[.bool (sg z.c0), .string (mg z.c0), .bool (sg z.c1), .string (mg z.c1), .bool (sg z.c2), .string (mg z.c2), .bool (sg z.c3), .string (mg z.c3), .bool (sg z.d), .string (mg z.d)]] (Nat.le_of_ble_eq_true (by kernel_rfl)) [(6, 11), (8, 29)] [.f, .f, .f, .f, .f, .f, .f, .f, .f, .f, .f, .f, .t, .t, .t, .t, .f, .t, .f, (.p _ true hm), (.p _ true hm), (.p _ true hm), (.p _ true hm), .f, (.p _ true hm), .f, (.p _ false hn), (.p _ false hn), (.p _ false hn), (.p _ false hn), (.p _ false hn), (.p _ false hn), (.p _ false hn), (.p _ false hn), (.p _ false hn), (.p _ false hn), .f, .f, .f, .f, .f, .f, (.p _ false hg), (.p _ true hs), (.p _ true hs), (.p _ true hs), (.p _ true hs), (.p _ true hs), (.p _ true hs), (.p _ true hs), (.p _ true hs), (.p _ true hs), (.p _ true hs), .t, .t, .t, .t, .t, (.p _ true hh), (.p _ true hh), (.p _ true hh), (.p _ true hh), (.p _ true hh), (.p _ true hh), (.p _ true hh), (.p _ true hh), (.p _ true hh), (.p _ true hh)] [cW (fun w' hc => HAW w' (Chg.bl0 hc)), cU 9 33 _ _ (fun b w hc hB => R b w hB), cV (C1), cV (C2), lV _ (.bool true) (fun w hC => eqN_same (x) (.tmp 28) (.tmp 29) w), cV (C3), cV (C4), cV (A1), cV (A2), cV (C5), cV (M1), cV (S1), cV (S2), cV (B), cV (S3), cV (B), cV (B), cV (M4), cV (M1), lV _ (.bool true) (fun w hC => eqN_same (mxx) (.tmp 92) (.tmp 95) w)] (fun r => by kernel_rfl) (fun r => by kernel_rfl)
set_option maxRecDepth 100000 in
theorem FO_zat (x y z axz ayz mxx mxz myz ab : Nm) (m n s g h : Int) (w : World) (HAW : ∀ W, Below w.heap.size w W → Calls Tryz.prog 19 #[] W (RetV (.bool true) W))
    (R : ∀ b w, Hc w b 33 (cells3 (rwN x) (rwN x) (rwN z)) → Calls Tryz.prog 34 #[.slice (some ⟨b, 0, none⟩) 3 3] w (fun e w' => e = .returned (.bool true) ∧ Hc w' b 33 (cells3 (rwN x) (rwN x) (rwN z)) ∧ Chg [b] w w'))
    (C1 : ∀ w, Calls Tryz.prog 46 #[vN x, vN x] w (RetN (0) w)) (C2 : ∀ w, Calls Tryz.prog 46 #[vN x, vN x] w (RetN (0) w))  (C3 : ∀ w, Calls Tryz.prog 46 #[vN x, vN z] w (RetN m w)) (hm : decide (m ≤ 0) = true) (C4 : ∀ w, Calls Tryz.prog 46 #[vN x, vN z] w (RetN n w)) (hn : decide (0 < n) = false)
    (A1 : ∀ w, Calls Tryz.prog 23 #[vN x, vN z] w (RetV (vN axz) w)) (A2 : ∀ w, Calls Tryz.prog 23 #[vN x, vN z] w (RetV (vN ayz) w)) (C5 : ∀ w, Calls Tryz.prog 46 #[vN axz, vN ayz] w (RetN (0) w))
    (M1 : ∀ w, Calls Tryz.prog 27 #[vN x, vN x] w (RetV (vN mxx) w)) (S1 : ∀ w, Calls Tryz.prog 38 #[vN mxx] w (RetN g w)) (hg : decide (g < 0) = false)
    (S2 : ∀ w, Calls Tryz.prog 38 #[vN z] w (RetN s w)) (hs : decide (s ≤ 0) = false) (M2 : ∀ w, Calls Tryz.prog 27 #[vN x, vN z] w (RetV (vN mxz) w)) (M3 : ∀ w, Calls Tryz.prog 27 #[vN x, vN z] w (RetV (vN myz) w)) (C6 : ∀ w, Calls Tryz.prog 46 #[vN mxz, vN myz] w (RetN (0) w))
    (B : ∀ w, Calls Tryz.prog 47 #[vN x] w (RetV (vN ab) w)) (S3 : ∀ w, Calls Tryz.prog 38 #[vN ab] w (RetN h w)) (hh : decide (0 ≤ h) = true) (M4 : ∀ w, Calls Tryz.prog 27 #[vN ab, vN ab] w (RetV (vN mxx) w)) :
    Calls Tryz.prog 8 #[vN x, vN x, vN z] w (RetV (.bool true) w) := by
  exact vm_pure (by kernel_rfl) Tryz.func8 rfl [.agg #[.bool (sg x.c0), .string (mg x.c0), .bool (sg x.c1), .string (mg x.c1), .bool (sg x.c2), .string (mg x.c2), .bool (sg x.c3), .string (mg x.c3), .bool (sg x.d), .string (mg x.d)], .agg #[.bool (sg x.c0), .string (mg x.c0), .bool (sg x.c1), .string (mg x.c1), .bool (sg x.c2), .string (mg x.c2), .bool (sg x.c3), .string (mg x.c3), .bool (sg x.d), .string (mg x.d)], .agg #[.bool (sg z.c0), .string (mg z.c0), .bool (sg z.c1), .string (mg z.c1), .bool (sg z.c2), .string (mg z.c2), .bool (sg z.c3), .string (mg z.c3), .bool (sg z.d), .string (mg z.d)]] (Nat.le_of_ble_eq_true (by kernel_rfl)) [(6, 11), (8, 29)] [.f, .f, .f, .f, .f, .f, .f, .f, .f, .f, .f, .f, .t, .t, .t, .t, .f, .t, .f, (.p _ true hm), (.p _ true hm), (.p _ true hm), (.p _ true hm), .f, (.p _ true hm), .f, (.p _ false hn), (.p _ false hn), (.p _ false hn), (.p _ false hn), (.p _ false hn), (.p _ false hn), (.p _ false hn), (.p _ false hn), (.p _ false hn), (.p _ false hn), .f, .f, .f, .f, .f, .f, (.p _ false hg), (.p _ false hs), (.p _ false hs), (.p _ false hs), (.p _ false hs), (.p _ false hs), (.p _ false hs), (.p _ false hs), (.p _ false hs), (.p _ false hs), (.p _ false hs), .t, .t, .t, .t, .t, (.p _ true hh), (.p _ true hh), (.p _ true hh), (.p _ true hh), (.p _ true hh), (.p _ true hh), (.p _ true hh), (.p _ true hh), (.p _ true hh), (.p _ true hh)] [cW (fun w' hc => HAW w' (Chg.bl0 hc)), cU 9 33 _ _ (fun b w hc hB => R b w hB), cV (C1), cV (C2), lV _ (.bool true) (fun w hC => eqN_same (x) (.tmp 28) (.tmp 29) w), cV (C3), cV (C4), cV (A1), cV (A2), cV (C5), cV (M1), cV (S1), cV (S2), cV (M2), cV (M3), cV (C6), cV (B), cV (S3), cV (B), cV (B), cV (M4), cV (M1), lV _ (.bool true) (fun w hC => eqN_same (mxx) (.tmp 92) (.tmp 95) w)] (fun r => by kernel_rfl) (fun r => by kernel_rfl)
set_option maxRecDepth 100000 in
theorem FO_zbs (x y z axz ayz mxx mxz myz ab : Nm) (m n s g h : Int) (w : World) (HAW : ∀ W, Below w.heap.size w W → Calls Tryz.prog 19 #[] W (RetV (.bool true) W))
    (R : ∀ b w, Hc w b 33 (cells3 (rwN x) (rwN x) (rwN z)) → Calls Tryz.prog 34 #[.slice (some ⟨b, 0, none⟩) 3 3] w (fun e w' => e = .returned (.bool true) ∧ Hc w' b 33 (cells3 (rwN x) (rwN x) (rwN z)) ∧ Chg [b] w w'))
    (C1 : ∀ w, Calls Tryz.prog 46 #[vN x, vN x] w (RetN (0) w)) (C2 : ∀ w, Calls Tryz.prog 46 #[vN x, vN x] w (RetN (0) w))  (C3 : ∀ w, Calls Tryz.prog 46 #[vN x, vN z] w (RetN m w)) (hm : decide (m ≤ 0) = false)
    (A1 : ∀ w, Calls Tryz.prog 23 #[vN x, vN z] w (RetV (vN axz) w)) (A2 : ∀ w, Calls Tryz.prog 23 #[vN x, vN z] w (RetV (vN ayz) w)) (C5 : ∀ w, Calls Tryz.prog 46 #[vN axz, vN ayz] w (RetN (0) w))
    (M1 : ∀ w, Calls Tryz.prog 27 #[vN x, vN x] w (RetV (vN mxx) w)) (S1 : ∀ w, Calls Tryz.prog 38 #[vN mxx] w (RetN g w)) (hg : decide (g < 0) = false)
    (S2 : ∀ w, Calls Tryz.prog 38 #[vN z] w (RetN s w)) (hs : decide (s ≤ 0) = true)
    (B : ∀ w, Calls Tryz.prog 47 #[vN x] w (RetV (vN ab) w)) (S3 : ∀ w, Calls Tryz.prog 38 #[vN ab] w (RetN h w)) (hh : decide (0 ≤ h) = true) (M4 : ∀ w, Calls Tryz.prog 27 #[vN ab, vN ab] w (RetV (vN mxx) w)) :
    Calls Tryz.prog 8 #[vN x, vN x, vN z] w (RetV (.bool true) w) := by
  exact vm_pure (by kernel_rfl) Tryz.func8 rfl [.agg #[.bool (sg x.c0), .string (mg x.c0), .bool (sg x.c1), .string (mg x.c1), .bool (sg x.c2), .string (mg x.c2), .bool (sg x.c3), .string (mg x.c3), .bool (sg x.d), .string (mg x.d)], .agg #[.bool (sg x.c0), .string (mg x.c0), .bool (sg x.c1), .string (mg x.c1), .bool (sg x.c2), .string (mg x.c2), .bool (sg x.c3), .string (mg x.c3), .bool (sg x.d), .string (mg x.d)], .agg #[.bool (sg z.c0), .string (mg z.c0), .bool (sg z.c1), .string (mg z.c1), .bool (sg z.c2), .string (mg z.c2), .bool (sg z.c3), .string (mg z.c3), .bool (sg z.d), .string (mg z.d)]] (Nat.le_of_ble_eq_true (by kernel_rfl)) [(6, 11), (8, 29)] [.f, .f, .f, .f, .f, .f, .f, .f, .f, .f, .f, .f, .t, .t, .t, .t, .f, .t, .f, (.p _ false hm), (.p _ false hm), (.p _ false hm), (.p _ false hm), .f, (.p _ false hm), .f, .f, .f, .f, .f, .f, .f, .f, .f, .f, .f, .f, .f, .f, .f, .f, .f, (.p _ false hg), (.p _ true hs), (.p _ true hs), (.p _ true hs), (.p _ true hs), (.p _ true hs), (.p _ true hs), (.p _ true hs), (.p _ true hs), (.p _ true hs), (.p _ true hs), .t, .t, .t, .t, .t, (.p _ true hh), (.p _ true hh), (.p _ true hh), (.p _ true hh), (.p _ true hh), (.p _ true hh), (.p _ true hh), (.p _ true hh), (.p _ true hh), (.p _ true hh)] [cW (fun w' hc => HAW w' (Chg.bl0 hc)), cU 9 33 _ _ (fun b w hc hB => R b w hB), cV (C1), cV (C2), lV _ (.bool true) (fun w hC => eqN_same (x) (.tmp 28) (.tmp 29) w), cV (C3), cV (A1), cV (A2), cV (C5), cV (M1), cV (S1), cV (S2), cV (B), cV (S3), cV (B), cV (B), cV (M4), cV (M1), lV _ (.bool true) (fun w hC => eqN_same (mxx) (.tmp 92) (.tmp 95) w)] (fun r => by kernel_rfl) (fun r => by kernel_rfl)
set_option maxRecDepth 100000 in
theorem FO_zbt (x y z axz ayz mxx mxz myz ab : Nm) (m n s g h : Int) (w : World) (HAW : ∀ W, Below w.heap.size w W → Calls Tryz.prog 19 #[] W (RetV (.bool true) W))
    (R : ∀ b w, Hc w b 33 (cells3 (rwN x) (rwN x) (rwN z)) → Calls Tryz.prog 34 #[.slice (some ⟨b, 0, none⟩) 3 3] w (fun e w' => e = .returned (.bool true) ∧ Hc w' b 33 (cells3 (rwN x) (rwN x) (rwN z)) ∧ Chg [b] w w'))
    (C1 : ∀ w, Calls Tryz.prog 46 #[vN x, vN x] w (RetN (0) w)) (C2 : ∀ w, Calls Tryz.prog 46 #[vN x, vN x] w (RetN (0) w))  (C3 : ∀ w, Calls Tryz.prog 46 #[vN x, vN z] w (RetN m w)) (hm : decide (m ≤ 0) = false)
    (A1 : ∀ w, Calls Tryz.prog 23 #[vN x, vN z] w (RetV (vN axz) w)) (A2 : ∀ w, Calls Tryz.prog 23 #[vN x, vN z] w (RetV (vN ayz) w)) (C5 : ∀ w, Calls Tryz.prog 46 #[vN axz, vN ayz] w (RetN (0) w))
    (M1 : ∀ w, Calls Tryz.prog 27 #[vN x, vN x] w (RetV (vN mxx) w)) (S1 : ∀ w, Calls Tryz.prog 38 #[vN mxx] w (RetN g w)) (hg : decide (g < 0) = false)
    (S2 : ∀ w, Calls Tryz.prog 38 #[vN z] w (RetN s w)) (hs : decide (s ≤ 0) = false) (M2 : ∀ w, Calls Tryz.prog 27 #[vN x, vN z] w (RetV (vN mxz) w)) (M3 : ∀ w, Calls Tryz.prog 27 #[vN x, vN z] w (RetV (vN myz) w)) (C6 : ∀ w, Calls Tryz.prog 46 #[vN mxz, vN myz] w (RetN (0) w))
    (B : ∀ w, Calls Tryz.prog 47 #[vN x] w (RetV (vN ab) w)) (S3 : ∀ w, Calls Tryz.prog 38 #[vN ab] w (RetN h w)) (hh : decide (0 ≤ h) = true) (M4 : ∀ w, Calls Tryz.prog 27 #[vN ab, vN ab] w (RetV (vN mxx) w)) :
    Calls Tryz.prog 8 #[vN x, vN x, vN z] w (RetV (.bool true) w) := by
  exact vm_pure (by kernel_rfl) Tryz.func8 rfl [.agg #[.bool (sg x.c0), .string (mg x.c0), .bool (sg x.c1), .string (mg x.c1), .bool (sg x.c2), .string (mg x.c2), .bool (sg x.c3), .string (mg x.c3), .bool (sg x.d), .string (mg x.d)], .agg #[.bool (sg x.c0), .string (mg x.c0), .bool (sg x.c1), .string (mg x.c1), .bool (sg x.c2), .string (mg x.c2), .bool (sg x.c3), .string (mg x.c3), .bool (sg x.d), .string (mg x.d)], .agg #[.bool (sg z.c0), .string (mg z.c0), .bool (sg z.c1), .string (mg z.c1), .bool (sg z.c2), .string (mg z.c2), .bool (sg z.c3), .string (mg z.c3), .bool (sg z.d), .string (mg z.d)]] (Nat.le_of_ble_eq_true (by kernel_rfl)) [(6, 11), (8, 29)] [.f, .f, .f, .f, .f, .f, .f, .f, .f, .f, .f, .f, .t, .t, .t, .t, .f, .t, .f, (.p _ false hm), (.p _ false hm), (.p _ false hm), (.p _ false hm), .f, (.p _ false hm), .f, .f, .f, .f, .f, .f, .f, .f, .f, .f, .f, .f, .f, .f, .f, .f, .f, (.p _ false hg), (.p _ false hs), (.p _ false hs), (.p _ false hs), (.p _ false hs), (.p _ false hs), (.p _ false hs), (.p _ false hs), (.p _ false hs), (.p _ false hs), (.p _ false hs), .t, .t, .t, .t, .t, (.p _ true hh), (.p _ true hh), (.p _ true hh), (.p _ true hh), (.p _ true hh), (.p _ true hh), (.p _ true hh), (.p _ true hh), (.p _ true hh), (.p _ true hh)] [cW (fun w' hc => HAW w' (Chg.bl0 hc)), cU 9 33 _ _ (fun b w hc hB => R b w hB), cV (C1), cV (C2), lV _ (.bool true) (fun w hC => eqN_same (x) (.tmp 28) (.tmp 29) w), cV (C3), cV (A1), cV (A2), cV (C5), cV (M1), cV (S1), cV (S2), cV (M2), cV (M3), cV (C6), cV (B), cV (S3), cV (B), cV (B), cV (M4), cV (M1), lV _ (.bool true) (fun w hC => eqN_same (mxx) (.tmp 92) (.tmp 95) w)] (fun r => by kernel_rfl) (fun r => by kernel_rfl)
set_option maxRecDepth 100000 in
theorem FO_nas (x y z axz ayz mxx mxz myz ab : Nm) (m n s g h : Int) (w : World) (HAW : ∀ W, Below w.heap.size w W → Calls Tryz.prog 19 #[] W (RetV (.bool true) W))
    (R : ∀ b w, Hc w b 33 (cells3 (rwN x) (rwN y) (rwN z)) → Calls Tryz.prog 34 #[.slice (some ⟨b, 0, none⟩) 3 3] w (fun e w' => e = .returned (.bool true) ∧ Hc w' b 33 (cells3 (rwN x) (rwN y) (rwN z)) ∧ Chg [b] w w'))
    (C1 : ∀ w, Calls Tryz.prog 46 #[vN x, vN y] w (RetN (-1) w)) (C2 : ∀ w, Calls Tryz.prog 46 #[vN y, vN x] w (RetN (1) w)) (hxy : x ≠ y) (C3 : ∀ w, Calls Tryz.prog 46 #[vN y, vN z] w (RetN m w)) (hm : decide (m ≤ 0) = true) (C4 : ∀ w, Calls Tryz.prog 46 #[vN x, vN z] w (RetN n w)) (hn : decide (0 < n) = false)
    (A1 : ∀ w, Calls Tryz.prog 23 #[vN x, vN z] w (RetV (vN axz) w)) (A2 : ∀ w, Calls Tryz.prog 23 #[vN y, vN z] w (RetV (vN ayz) w)) (C5 : ∀ w, Calls Tryz.prog 46 #[vN axz, vN ayz] w (RetN (-1) w))
    (M1 : ∀ w, Calls Tryz.prog 27 #[vN x, vN x] w (RetV (vN mxx) w)) (S1 : ∀ w, Calls Tryz.prog 38 #[vN mxx] w (RetN g w)) (hg : decide (g < 0) = false)
    (S2 : ∀ w, Calls Tryz.prog 38 #[vN z] w (RetN s w)) (hs : decide (s ≤ 0) = true)
    (B : ∀ w, Calls Tryz.prog 47 #[vN x] w (RetV (vN ab) w)) (S3 : ∀ w, Calls Tryz.prog 38 #[vN ab] w (RetN h w)) (hh : decide (0 ≤ h) = true) (M4 : ∀ w, Calls Tryz.prog 27 #[vN ab, vN ab] w (RetV (vN mxx) w)) :
    Calls Tryz.prog 8 #[vN x, vN y, vN z] w (RetV (.bool true) w) := by
  exact vm_pure (by kernel_rfl) Tryz.func8 rfl [.agg #[.bool (sg x.c0), .string (mg x.c0), .bool (sg x.c1), .string (mg x.c1), .bool (sg x.c2), .string (mg x.c2), .bool (sg x.c3), .string (mg x.c3), .bool (sg x.d), .string (mg x.d)], .agg #[.bool (sg y.c0), .string (mg y.c0), .bool (sg y.c1), .string (mg y.c1), .bool (sg y.c2), .string (mg y.c2), .bool (sg y.c3), .string (mg y.c3), .bool (sg y.d), .string (mg y.d)], .agg #[.bool (sg z.c0), .string (mg z.c0), .bool (sg z.c1), .string (mg z.c1), .bool (sg z.c2), .string (mg z.c2), .bool (sg z.c3), .string (mg z.c3), .bool (sg z.d), .string (mg z.d)]] (Nat.le_of_ble_eq_true (by kernel_rfl)) [(6, 11), (8, 29)] [.f, .f, .f, .f, .f, .f, .f, .f, .f, .f, .f, .f, .t, .t, .t, .t, .f, .t, .f, (.p _ true hm), (.p _ true hm), (.p _ true hm), (.p _ true hm), .f, (.p _ true hm), .f, (.p _ false hn), (.p _ false hn), (.p _ false hn), (.p _ false hn), (.p _ false hn), (.p _ false hn), (.p _ false hn), (.p _ false hn), (.p _ false hn), (.p _ false hn), .f, .f, .f, .f, .f, .f, (.p _ false hg), (.p _ true hs), (.p _ true hs), (.p _ true hs), (.p _ true hs), (.p _ true hs), (.p _ true hs), (.p _ true hs), (.p _ true hs), (.p _ true hs), (.p _ true hs), .t, .t, .t, .t, .t, (.p _ true hh), (.p _ true hh), (.p _ true hh), (.p _ true hh), (.p _ true hh), (.p _ true hh), (.p _ true hh), (.p _ true hh), (.p _ true hh), (.p _ true hh)] [cW (fun w' hc => HAW w' (Chg.bl0 hc)), cU 9 33 _ _ (fun b w hc hB => R b w hB), cV (C1), cV (C2), lV _ (.bool false) (fun w hC => eqN_diff (x) (y) (hxy) (.tmp 28) (.tmp 29) w), cV (C3), cV (C4), cV (A1), cV (A2), cV (C5), cV (M1), cV (S1), cV (S2), cV (B), cV (S3), cV (B), cV (B), cV (M4), cV (M1), lV _ (.bool true) (fun w hC => eqN_same (mxx) (.tmp 92) (.tmp 95) w)] (fun r => by kernel_rfl) (fun r => by kernel_rfl)
set_option maxRecDepth 100000 in
theorem FO_nat (x y z axz ayz mxx mxz myz ab : Nm) (m n s g h : Int) (w : World) (HAW : ∀ W, Below w.heap.size w W → Calls Tryz.prog 19 #[] W (RetV (.bool true) W))
    (R : ∀ b w, Hc w b 33 (cells3 (rwN x) (rwN y) (rwN z)) → Calls Tryz.prog 34 #[.slice (some ⟨b, 0, none⟩) 3 3] w (fun e w' => e = .returned (.bool true) ∧ Hc w' b 33 (cells3 (rwN x) (rwN y) (rwN z)) ∧ Chg [b] w w'))
    (C1 : ∀ w, Calls Tryz.prog 46 #[vN x, vN y] w (RetN (-1) w)) (C2 : ∀ w, Calls Tryz.prog 46 #[vN y, vN x] w (RetN (1) w)) (hxy : x ≠ y) (C3 : ∀ w, Calls Tryz.prog 46 #[vN y, vN z] w (RetN m w)) (hm : decide (m ≤ 0) = true) (C4 : ∀ w, Calls Tryz.prog 46 #[vN x, vN z] w (RetN n w)) (hn : decide (0 < n) = false)
    (A1 : ∀ w, Calls Tryz.prog 23 #[vN x, vN z] w (RetV (vN axz) w)) (A2 : ∀ w, Calls Tryz.prog 23 #[vN y, vN z] w (RetV (vN ayz) w)) (C5 : ∀ w, Calls Tryz.prog 46 #[vN axz, vN ayz] w (RetN (-1) w))
    (M1 : ∀ w, Calls Tryz.prog 27 #[vN x, vN x] w (RetV (vN mxx) w)) (S1 : ∀ w, Calls Tryz.prog 38 #[vN mxx] w (RetN g w)) (hg : decide (g < 0) = false)
    (S2 : ∀ w, Calls Tryz.prog 38 #[vN z] w (RetN s w)) (hs : decide (s ≤ 0) = false) (M2 : ∀ w, Calls Tryz.prog 27 #[vN x, vN z] w (RetV (vN mxz) w)) (M3 : ∀ w, Calls Tryz.prog 27 #[vN y, vN z] w (RetV (vN myz) w)) (C6 : ∀ w, Calls Tryz.prog 46 #[vN mxz, vN myz] w (RetN (-1) w))
    (B : ∀ w, Calls Tryz.prog 47 #[vN x] w (RetV (vN ab) w)) (S3 : ∀ w, Calls Tryz.prog 38 #[vN ab] w (RetN h w)) (hh : decide (0 ≤ h) = true) (M4 : ∀ w, Calls Tryz.prog 27 #[vN ab, vN ab] w (RetV (vN mxx) w)) :
    Calls Tryz.prog 8 #[vN x, vN y, vN z] w (RetV (.bool true) w) := by
  exact vm_pure (by kernel_rfl) Tryz.func8 rfl [.agg #[.bool (sg x.c0), .string (mg x.c0), .bool (sg x.c1), .string (mg x.c1), .bool (sg x.c2), .string (mg x.c2), .bool (sg x.c3), .string (mg x.c3), .bool (sg x.d), .string (mg x.d)], .agg #[.bool (sg y.c0), .string (mg y.c0), .bool (sg y.c1), .string (mg y.c1), .bool (sg y.c2), .string (mg y.c2), .bool (sg y.c3), .string (mg y.c3), .bool (sg y.d), .string (mg y.d)], .agg #[.bool (sg z.c0), .string (mg z.c0), .bool (sg z.c1), .string (mg z.c1), .bool (sg z.c2), .string (mg z.c2), .bool (sg z.c3), .string (mg z.c3), .bool (sg z.d), .string (mg z.d)]] (Nat.le_of_ble_eq_true (by kernel_rfl)) [(6, 11), (8, 29)] [.f, .f, .f, .f, .f, .f, .f, .f, .f, .f, .f, .f, .t, .t, .t, .t, .f, .t, .f, (.p _ true hm), (.p _ true hm), (.p _ true hm), (.p _ true hm), .f, (.p _ true hm), .f, (.p _ false hn), (.p _ false hn), (.p _ false hn), (.p _ false hn), (.p _ false hn), (.p _ false hn), (.p _ false hn), (.p _ false hn), (.p _ false hn), (.p _ false hn), .f, .f, .f, .f, .f, .f, (.p _ false hg), (.p _ false hs), (.p _ false hs), (.p _ false hs), (.p _ false hs), (.p _ false hs), (.p _ false hs), (.p _ false hs), (.p _ false hs), (.p _ false hs), (.p _ false hs), .t, .t, .t, .t, .t, (.p _ true hh), (.p _ true hh), (.p _ true hh), (.p _ true hh), (.p _ true hh), (.p _ true hh), (.p _ true hh), (.p _ true hh), (.p _ true hh), (.p _ true hh)] [cW (fun w' hc => HAW w' (Chg.bl0 hc)), cU 9 33 _ _ (fun b w hc hB => R b w hB), cV (C1), cV (C2), lV _ (.bool false) (fun w hC => eqN_diff (x) (y) (hxy) (.tmp 28) (.tmp 29) w), cV (C3), cV (C4), cV (A1), cV (A2), cV (C5), cV (M1), cV (S1), cV (S2), cV (M2), cV (M3), cV (C6), cV (B), cV (S3), cV (B), cV (B), cV (M4), cV (M1), lV _ (.bool true) (fun w hC => eqN_same (mxx) (.tmp 92) (.tmp 95) w)] (fun r => by kernel_rfl) (fun r => by kernel_rfl)
set_option maxRecDepth 100000 in
theorem FO_nbs (x y z axz ayz mxx mxz myz ab : Nm) (m n s g h : Int) (w : World) (HAW : ∀ W, Below w.heap.size w W → Calls Tryz.prog 19 #[] W (RetV (.bool true) W))
    (R : ∀ b w, Hc w b 33 (cells3 (rwN x) (rwN y) (rwN z)) → Calls Tryz.prog 34 #[.slice (some ⟨b, 0, none⟩) 3 3] w (fun e w' => e = .returned (.bool true) ∧ Hc w' b 33 (cells3 (rwN x) (rwN y) (rwN z)) ∧ Chg [b] w w'))
    (C1 : ∀ w, Calls Tryz.prog 46 #[vN x, vN y] w (RetN (-1) w)) (C2 : ∀ w, Calls Tryz.prog 46 #[vN y, vN x] w (RetN (1) w)) (hxy : x ≠ y) (C3 : ∀ w, Calls Tryz.prog 46 #[vN y, vN z] w (RetN m w)) (hm : decide (m ≤ 0) = false)
    (A1 : ∀ w, Calls Tryz.prog 23 #[vN x, vN z] w (RetV (vN axz) w)) (A2 : ∀ w, Calls Tryz.prog 23 #[vN y, vN z] w (RetV (vN ayz) w)) (C5 : ∀ w, Calls Tryz.prog 46 #[vN axz, vN ayz] w (RetN (-1) w))
    (M1 : ∀ w, Calls Tryz.prog 27 #[vN x, vN x] w (RetV (vN mxx) w)) (S1 : ∀ w, Calls Tryz.prog 38 #[vN mxx] w (RetN g w)) (hg : decide (g < 0) = false)
    (S2 : ∀ w, Calls Tryz.prog 38 #[vN z] w (RetN s w)) (hs : decide (s ≤ 0) = true)
    (B : ∀ w, Calls Tryz.prog 47 #[vN x] w (RetV (vN ab) w)) (S3 : ∀ w, Calls Tryz.prog 38 #[vN ab] w (RetN h w)) (hh : decide (0 ≤ h) = true) (M4 : ∀ w, Calls Tryz.prog 27 #[vN ab, vN ab] w (RetV (vN mxx) w)) :
    Calls Tryz.prog 8 #[vN x, vN y, vN z] w (RetV (.bool true) w) := by
  exact vm_pure (by kernel_rfl) Tryz.func8 rfl [.agg #[.bool (sg x.c0), .string (mg x.c0), .bool (sg x.c1), .string (mg x.c1), .bool (sg x.c2), .string (mg x.c2), .bool (sg x.c3), .string (mg x.c3), .bool (sg x.d), .string (mg x.d)], .agg #[.bool (sg y.c0), .string (mg y.c0), .bool (sg y.c1), .string (mg y.c1), .bool (sg y.c2), .string (mg y.c2), .bool (sg y.c3), .string (mg y.c3), .bool (sg y.d), .string (mg y.d)], .agg #[.bool (sg z.c0), .string (mg z.c0), .bool (sg z.c1), .string (mg z.c1), .bool (sg z.c2), .string (mg z.c2), .bool (sg z.c3), .string (mg z.c3), .bool (sg z.d), .string (mg z.d)]] (Nat.le_of_ble_eq_true (by kernel_rfl)) [(6, 11), (8, 29)] [.f, .f, .f, .f, .f, .f, .f, .f, .f, .f, .f, .f, .t, .t, .t, .t, .f, .t, .f, (.p _ false hm), (.p _ false hm), (.p _ false hm), (.p _ false hm), .f, (.p _ false hm), .f, .f, .f, .f, .f, .f, .f, .f, .f, .f, .f, .f, .f, .f, .f, .f, .f, (.p _ false hg), (.p _ true hs), (.p _ true hs), (.p _ true hs), (.p _ true hs), (.p _ true hs), (.p _ true hs), (.p _ true hs), (.p _ true hs), (.p _ true hs), (.p _ true hs), .t, .t, .t, .t, .t, (.p _ true hh), (.p _ true hh), (.p _ true hh), (.p _ true hh), (.p _ true hh), (.p _ true hh), (.p _ true hh), (.p _ true hh), (.p _ true hh), (.p _ true hh)] [cW (fun w' hc => HAW w' (Chg.bl0 hc)), cU 9 33 _ _ (fun b w hc hB => R b w hB), cV (C1), cV (C2), lV _ (.bool false) (fun w hC => eqN_diff (x) (y) (hxy) (.tmp 28) (.tmp 29) w), cV (C3), cV (A1), cV (A2), cV (C5), cV (M1), cV (S1), cV (S2), cV (B), cV (S3), cV (B), cV (B), cV (M4), cV (M1), lV _ (.bool true) (fun w hC => eqN_same (mxx) (.tmp 92) (.tmp 95) w)] (fun r => by kernel_rfl) (fun r => by kernel_rfl)
set_option maxRecDepth 100000 in
theorem FO_nbt (x y z axz ayz mxx mxz myz ab : Nm) (m n s g h : Int) (w : World) (HAW : ∀ W, Below w.heap.size w W → Calls Tryz.prog 19 #[] W (RetV (.bool true) W))
    (R : ∀ b w, Hc w b 33 (cells3 (rwN x) (rwN y) (rwN z)) → Calls Tryz.prog 34 #[.slice (some ⟨b, 0, none⟩) 3 3] w (fun e w' => e = .returned (.bool true) ∧ Hc w' b 33 (cells3 (rwN x) (rwN y) (rwN z)) ∧ Chg [b] w w'))
    (C1 : ∀ w, Calls Tryz.prog 46 #[vN x, vN y] w (RetN (-1) w)) (C2 : ∀ w, Calls Tryz.prog 46 #[vN y, vN x] w (RetN (1) w)) (hxy : x ≠ y) (C3 : ∀ w, Calls Tryz.prog 46 #[vN y, vN z] w (RetN m w)) (hm : decide (m ≤ 0) = false)
    (A1 : ∀ w, Calls Tryz.prog 23 #[vN x, vN z] w (RetV (vN axz) w)) (A2 : ∀ w, Calls Tryz.prog 23 #[vN y, vN z] w (RetV (vN ayz) w)) (C5 : ∀ w, Calls Tryz.prog 46 #[vN axz, vN ayz] w (RetN (-1) w))
    (M1 : ∀ w, Calls Tryz.prog 27 #[vN x, vN x] w (RetV (vN mxx) w)) (S1 : ∀ w, Calls Tryz.prog 38 #[vN mxx] w (RetN g w)) (hg : decide (g < 0) = false)
    (S2 : ∀ w, Calls Tryz.prog 38 #[vN z] w (RetN s w)) (hs : decide (s ≤ 0) = false) (M2 : ∀ w, Calls Tryz.prog 27 #[vN x, vN z] w (RetV (vN mxz) w)) (M3 : ∀ w, Calls Tryz.prog 27 #[vN y, vN z] w (RetV (vN myz) w)) (C6 : ∀ w, Calls Tryz.prog 46 #[vN mxz, vN myz] w (RetN (-1) w))
    (B : ∀ w, Calls Tryz.prog 47 #[vN x] w (RetV (vN ab) w)) (S3 : ∀ w, Calls Tryz.prog 38 #[vN ab] w (RetN h w)) (hh : decide (0 ≤ h) = true) (M4 : ∀ w, Calls Tryz.prog 27 #[vN ab, vN ab] w (RetV (vN mxx) w)) :
    Calls Tryz.prog 8 #[vN x, vN y, vN z] w (RetV (.bool true) w) := by
  exact vm_pure (by kernel_rfl) Tryz.func8 rfl [.agg #[.bool (sg x.c0), .string (mg x.c0), .bool (sg x.c1), .string (mg x.c1), .bool (sg x.c2), .string (mg x.c2), .bool (sg x.c3), .string (mg x.c3), .bool (sg x.d), .string (mg x.d)], .agg #[.bool (sg y.c0), .string (mg y.c0), .bool (sg y.c1), .string (mg y.c1), .bool (sg y.c2), .string (mg y.c2), .bool (sg y.c3), .string (mg y.c3), .bool (sg y.d), .string (mg y.d)], .agg #[.bool (sg z.c0), .string (mg z.c0), .bool (sg z.c1), .string (mg z.c1), .bool (sg z.c2), .string (mg z.c2), .bool (sg z.c3), .string (mg z.c3), .bool (sg z.d), .string (mg z.d)]] (Nat.le_of_ble_eq_true (by kernel_rfl)) [(6, 11), (8, 29)] [.f, .f, .f, .f, .f, .f, .f, .f, .f, .f, .f, .f, .t, .t, .t, .t, .f, .t, .f, (.p _ false hm), (.p _ false hm), (.p _ false hm), (.p _ false hm), .f, (.p _ false hm), .f, .f, .f, .f, .f, .f, .f, .f, .f, .f, .f, .f, .f, .f, .f, .f, .f, (.p _ false hg), (.p _ false hs), (.p _ false hs), (.p _ false hs), (.p _ false hs), (.p _ false hs), (.p _ false hs), (.p _ false hs), (.p _ false hs), (.p _ false hs), (.p _ false hs), .t, .t, .t, .t, .t, (.p _ true hh), (.p _ true hh), (.p _ true hh), (.p _ true hh), (.p _ true hh), (.p _ true hh), (.p _ true hh), (.p _ true hh), (.p _ true hh), (.p _ true hh)] [cW (fun w' hc => HAW w' (Chg.bl0 hc)), cU 9 33 _ _ (fun b w hc hB => R b w hB), cV (C1), cV (C2), lV _ (.bool false) (fun w hC => eqN_diff (x) (y) (hxy) (.tmp 28) (.tmp 29) w), cV (C3), cV (A1), cV (A2), cV (C5), cV (M1), cV (S1), cV (S2), cV (M2), cV (M3), cV (C6), cV (B), cV (S3), cV (B), cV (B), cV (M4), cV (M1), lV _ (.bool true) (fun w hC => eqN_same (mxx) (.tmp 92) (.tmp 95) w)] (fun r => by kernel_rfl) (fun r => by kernel_rfl)
theorem FO_all (u v r : Rw) (w : World) (ht : HasTab w) : Calls Tryz.prog 8 #[vR u, vR v, vR r] w (RetV (.bool true) w) := by
  have HAW : ∀ W, Below w.heap.size w W → Calls Tryz.prog 19 #[] W (RetV (.bool true) W) := fun W h => hawake_any W (ht.below h)
  cases hr : right3 u v r with
  | false => exact FO_no u v r w HAW hr
  | true =>
    have R := fun b w hB => hright3_any u v r b w hB
    rw [hr] at R
    unfold right3 at hr
    simp only [Bool.and_eq_true] at hr
    obtain ⟨⟨⟨f1, f2⟩, f3⟩, ⟨k1, k2⟩, k3⟩ := hr
    obtain ⟨x, rfl, ox, bx⟩ := right_nm f1 k1
    obtain ⟨y, rfl, oy, by'⟩ := right_nm f2 k2
    obtain ⟨z, rfl, oz, bz⟩ := right_nm f3 k3
    have ad : ∀ {a b : Nm}, BN 300 a → BN 300 b → Ok a → Ok b → ∀ w, Calls Tryz.prog 23 #[vN a, vN b] w (RetV (vN (addN a b)) w) := fun ha hb oa ob w => fAdd_any _ _ w (ha.mono (by omega)) (hb.mono (by omega)) oa ob
    have mu : ∀ {a b : Nm}, BN 300 a → BN 300 b → Ok a → Ok b → ∀ w, Calls Tryz.prog 27 #[vN a, vN b] w (RetV (vN (mulN a b)) w) := fun ha hb oa ob w => fMul_any _ _ w (ha.mono (by omega)) (hb.mono (by omega)) oa ob
    have cm : ∀ {a b : Nm}, BN 300 a → BN 300 b → Ok a → Ok b → ∀ w, Calls Tryz.prog 46 #[vN a, vN b] w (RetN (cmpK a b) w) := fun ha hb oa ob w => fCmp_any _ _ w (ha.mono (by omega)) (hb.mono (by omega)) oa ob
    have sn : ∀ {a : Nm}, BN 300 a → Ok a → ∀ w, Calls Tryz.prog 38 #[vN a] w (RetN (sgnN a) w) := fun ha oa w => fSign_any _ w (ha.mono (by omega)) oa
    have X := bx.mono (show 20 ≤ 300 by omega)
    have Y := by'.mono (show 20 ≤ 300 by omega)
    have Z := bz.mono (show 20 ≤ 300 by omega)
    have bxz := (bx.addN bz ox.ne oz.ne).mono (show 2 * 20 + 1 ≤ 300 by omega)
    have byz := (by'.addN bz oy.ne oz.ne).mono (show 2 * 20 + 1 ≤ 300 by omega)
    have mxx := (bx.mulN bx ox.ne ox.ne).mono (show 2 * 20 + 5 ≤ 300 by omega)
    have mxz := (bx.mulN bz ox.ne oz.ne).mono (show 2 * 20 + 5 ≤ 300 by omega)
    have myz := (by'.mulN bz oy.ne oz.ne).mono (show 2 * 20 + 5 ≤ 300 by omega)
    have bab : BN 300 (absN x) := by unfold absN; split; exact X.neg; exact X
    have C1 := cm X Y ox oy
    have C2 := cm Y X oy ox
    rw [cmpK_neg ox oy] at C2
    have C3 := cm Y Z oy oz
    have C4 := cm X Z ox oz
    have A1 := ad X Z ox oz
    have A2 := ad Y Z oy oz
    have C5 := cm bxz byz (addN_ok ox oz) (addN_ok oy oz)
    rw [cmpK_addN ox oy oz] at C5
    have M1 := mu X X ox ox
    have S1 := sn mxx (mulN_ok ox ox)
    have hg : decide (sgnN (mulN x x) < 0) = false := decide_eq_false (by have := sgn_sq ox; omega)
    have S2 := sn Z oz
    have M2 := mu X Z ox oz
    have M3 := mu Y Z oy oz
    have C6 := cm mxz myz (mulN_ok ox oz) (mulN_ok oy oz)
    rw [cmpK_mulN ox oy oz] at C6
    have B := fun w => fAbs_any x w (bx.mono (by omega)) ox
    have S3 := sn bab (absN_ok ox)
    have hh : decide (0 ≤ sgnN (absN x)) = true := decide_eq_true (sgn_abs x)
    have M4 := mu bab bab (absN_ok ox) (absN_ok ox)
    rw [abs_sq ox] at M4
    have le := cmpK_le ox oy oz
    have zz := cmpK_zero ox oy
    have vs := cmpK_vals x y
    have vz := sgn_vals z
    have hs := show decide (sgnN z ≤ 0) = true ∨ sgnN z = 1 by rcases vz with h | h | h; exact .inr h; exact .inl (decide_eq_true (by omega)); exact .inl (decide_eq_true (by omega))
    have hm := show decide (cmpK y z ≤ 0) = true ∨ decide (cmpK y z ≤ 0) = false by cases decide (cmpK y z ≤ 0); exact .inr rfl; exact .inl rfl
    rcases vs with hk | hk | hk
    · have hxy : x ≠ y := fun h => by rw [zz.2 h] at hk; omega
      rw [hk] at C1 C2 C5 C6
      rcases hs with hs | hs
      · exact FO_ps x y z _ _ _ zN zN _ 0 0 _ _ _ w HAW R C1 C2 hxy A1 A2 C5 M1 S1 hg S2 hs B S3 hh M4
      · rw [hs] at C6 S2
        exact FO_pt x y z _ _ _ _ _ _ 0 0 _ _ _ w HAW R C1 C2 hxy A1 A2 C5 M1 S1 hg S2 (by decide) M2 M3 C6 B S3 hh M4
    · have hxy := zz.1 hk
      subst hxy
      rw [hk] at C1 C2 C5 C6
      rcases hm with hm | hm
      · have hn : decide (0 < cmpK x z) = false := decide_eq_false (by have := le (by omega) (of_decide_eq_true hm); omega)
        rcases hs with hs | hs
        · exact FO_zas x x z _ _ _ zN zN _ _ _ _ _ _ w HAW R C1 C2 C3 hm C4 hn A1 A2 C5 M1 S1 hg S2 hs B S3 hh M4
        · rw [hs] at C6 S2
          exact FO_zat x x z _ _ _ _ _ _ _ _ _ _ _ w HAW R C1 C2 C3 hm C4 hn A1 A2 C5 M1 S1 hg S2 (by decide) M2 M3 C6 B S3 hh M4
      · rcases hs with hs | hs
        · exact FO_zbs x x z _ _ _ zN zN _ _ 0 _ _ _ w HAW R C1 C2 C3 hm A1 A2 C5 M1 S1 hg S2 hs B S3 hh M4
        · rw [hs] at C6 S2
          exact FO_zbt x x z _ _ _ _ _ _ _ 0 _ _ _ w HAW R C1 C2 C3 hm A1 A2 C5 M1 S1 hg S2 (by decide) M2 M3 C6 B S3 hh M4
    · have hxy : x ≠ y := fun h => by rw [zz.2 h] at hk; omega
      rw [hk] at C1 C2 C5 C6
      rcases hm with hm | hm
      · have hn : decide (0 < cmpK x z) = false := decide_eq_false (by have := le (by omega) (of_decide_eq_true hm); omega)
        rcases hs with hs | hs
        · exact FO_nas x y z _ _ _ zN zN _ _ _ _ _ _ w HAW R C1 C2 hxy C3 hm C4 hn A1 A2 C5 M1 S1 hg S2 hs B S3 hh M4
        · rw [hs] at C6 S2
          exact FO_nat x y z _ _ _ _ _ _ _ _ _ _ _ w HAW R C1 C2 hxy C3 hm C4 hn A1 A2 C5 M1 S1 hg S2 (by decide) M2 M3 C6 B S3 hh M4
      · rcases hs with hs | hs
        · exact FO_nbs x y z _ _ _ zN zN _ _ 0 _ _ _ w HAW R C1 C2 hxy C3 hm A1 A2 C5 M1 S1 hg S2 hs B S3 hh M4
        · rw [hs] at C6 S2
          exact FO_nbt x y z _ _ _ _ _ _ _ 0 _ _ _ w HAW R C1 C2 hxy C3 hm A1 A2 C5 M1 S1 hg S2 (by decide) M2 M3 C6 B S3 hh M4
end Go.Proofs.YtnejlboohjdfiaaGreatDoor
