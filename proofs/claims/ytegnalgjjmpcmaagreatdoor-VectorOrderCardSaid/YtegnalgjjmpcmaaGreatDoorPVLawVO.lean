/- VectorOrder: comparison of vectors is a total order, which addition keeps. -/
import Derived.Test.YtegnalgjjmpcmaaGreatDoorPVLawVT
import Derived.Test.YtegnalgjjmpcmaaGreatDoorPVVecC
namespace Go.Proofs.YtegnalgjjmpcmaaGreatDoor
open Go Go.RowKit
set_option maxRecDepth 100000
set_option linter.unusedVariables false
set_option linter.unusedSimpArgs false
theorem VO_no (u v x : Rv) (w : World) (HAW : ∀ W, Below w.heap.size w W → Calls Tryz.prog 15 #[] W (RetV (.bool true) W)) (h : rightV3 u v x = false) : Calls Tryz.prog 7 #[vRV u, vRV v, vRV x] w (RetV (.bool true) w) := by
  have R := fun b w hB => vright3_any u v x b w hB
  rw [h] at R
  exact vm_pure kr Tryz.func7 rfl [vRV u, vRV v, vRV x] nle [] [.f, .t] [cW (fun w' hc => HAW w' (Chg.bl0 hc)), cU 9 28 (cellsV3 u v x) (cellsV3 u v x) (fun b w hc hB => R b w hB)]
theorem VO_p (u v x a b s : V3) (m n : Int) (w : World) (HAW : ∀ W, Below w.heap.size w W → Calls Tryz.prog 15 #[] W (RetV (.bool true) W))
    (R : ∀ b w, Hc w b 28 (cellsV3 (rvN u) (rvN v) (rvN x)) → Calls Tryz.prog 16 #[.slice (some ⟨b, 0, none⟩) 3 3] w (fun e w' => e = .returned (.bool true) ∧ Hc w' b 28 (cellsV3 (rvN u) (rvN v) (rvN x)) ∧ Chg [b] w w'))
    (C1 : ∀ w, Calls Tryz.prog 34 #[vV u, vV v] w (RetN (1) w)) (C2 : ∀ w, Calls Tryz.prog 34 #[vV v, vV u] w (RetN (-1) w))  (hne : rvN u ≠ rvN v)
    (A1 : ∀ w, Calls Tryz.prog 31 #[vV u, vV x] w (RetV (vV a) w)) (A2 : ∀ w, Calls Tryz.prog 31 #[vV v, vV x] w (RetV (vV b) w)) (C5 : ∀ w, Calls Tryz.prog 34 #[vV a, vV b] w (RetN (1) w))
    (S : ∀ w, Calls Tryz.prog 36 #[vV u, vV u] w (RetV (vV s) w)) (Z : ∀ w, Calls Tryz.prog 35 #[vV s] w (RetV (.bool true) w)) : Calls Tryz.prog 7 #[vV u, vV v, vV x] w (RetV (.bool true) w) := by
  exact vm_pure kr Tryz.func7 rfl [vV u, vV v, vV x] nle [(6, 11)] [.f, .f, .t, .t, .t, .t, .t, .t, .t, .t, .t, .t, .t, .t, .t, .t, .t, .t, .t, .t, .t, .t, .t, .t, .t, .t, .t, .t, .t, .t, .t, .t, .t, .t, .t, .t, .t, .t, .t, .t, .t] [cW (fun w' hc => HAW w' (Chg.bl0 hc)), cU 9 28 _ _ (fun b w hc hB => R b w hB), cV (C1), cV (C2), lV _ (.bool false) (fun w hC => eqV_diff (rvN u) (rvN v) (hne) (.tmp 28) (.tmp 29) w), cV (A1), cV (A2), cV (C5), cV (S), cV (Z)]
theorem VO_za (u v x a b s : V3) (m n : Int) (w : World) (HAW : ∀ W, Below w.heap.size w W → Calls Tryz.prog 15 #[] W (RetV (.bool true) W))
    (R : ∀ b w, Hc w b 28 (cellsV3 (rvN u) (rvN u) (rvN x)) → Calls Tryz.prog 16 #[.slice (some ⟨b, 0, none⟩) 3 3] w (fun e w' => e = .returned (.bool true) ∧ Hc w' b 28 (cellsV3 (rvN u) (rvN u) (rvN x)) ∧ Chg [b] w w'))
    (C1 : ∀ w, Calls Tryz.prog 34 #[vV u, vV u] w (RetN (0) w)) (C2 : ∀ w, Calls Tryz.prog 34 #[vV u, vV u] w (RetN (0) w)) (C3 : ∀ w, Calls Tryz.prog 34 #[vV u, vV x] w (RetN m w)) (hm : decide (0 < m) = true) 
    (A1 : ∀ w, Calls Tryz.prog 31 #[vV u, vV x] w (RetV (vV a) w)) (A2 : ∀ w, Calls Tryz.prog 31 #[vV u, vV x] w (RetV (vV b) w)) (C5 : ∀ w, Calls Tryz.prog 34 #[vV a, vV b] w (RetN (0) w))
    (S : ∀ w, Calls Tryz.prog 36 #[vV u, vV u] w (RetV (vV s) w)) (Z : ∀ w, Calls Tryz.prog 35 #[vV s] w (RetV (.bool true) w)) : Calls Tryz.prog 7 #[vV u, vV u, vV x] w (RetV (.bool true) w) := by
  exact vm_pure kr Tryz.func7 rfl [vV u, vV u, vV x] nle [(6, 11)] [.f, .f, .t, .t, .t, .t, .t, .t, .t, .t, .t, .t, .f, .f, .f, .f, .t, .f, .t, (.p _ true hm), (.p _ true hm), (.p _ true hm), (.p _ true hm), .t, (.p _ true hm), .t, .t, .t, .t, .t, .t, .t, .t, .t, .t, .t, .t, .t, .t, .t, .t] [cW (fun w' hc => HAW w' (Chg.bl0 hc)), cU 9 28 _ _ (fun b w hc hB => R b w hB), cV (C1), cV (C2), lV _ (.bool true) (fun w hC => eqV_same (rvN u) (.tmp 28) (.tmp 29) w), cV (C3), cV (A1), cV (A2), cV (C5), cV (S), cV (Z)]
theorem VO_zb (u v x a b s : V3) (m n : Int) (w : World) (HAW : ∀ W, Below w.heap.size w W → Calls Tryz.prog 15 #[] W (RetV (.bool true) W))
    (R : ∀ b w, Hc w b 28 (cellsV3 (rvN u) (rvN u) (rvN x)) → Calls Tryz.prog 16 #[.slice (some ⟨b, 0, none⟩) 3 3] w (fun e w' => e = .returned (.bool true) ∧ Hc w' b 28 (cellsV3 (rvN u) (rvN u) (rvN x)) ∧ Chg [b] w w'))
    (C1 : ∀ w, Calls Tryz.prog 34 #[vV u, vV u] w (RetN (0) w)) (C2 : ∀ w, Calls Tryz.prog 34 #[vV u, vV u] w (RetN (0) w)) (C3 : ∀ w, Calls Tryz.prog 34 #[vV u, vV x] w (RetN m w)) (hm : decide (0 < m) = false) (C4 : ∀ w, Calls Tryz.prog 34 #[vV u, vV x] w (RetN n w)) (hn : decide (n ≤ 0) = true) 
    (A1 : ∀ w, Calls Tryz.prog 31 #[vV u, vV x] w (RetV (vV a) w)) (A2 : ∀ w, Calls Tryz.prog 31 #[vV u, vV x] w (RetV (vV b) w)) (C5 : ∀ w, Calls Tryz.prog 34 #[vV a, vV b] w (RetN (0) w))
    (S : ∀ w, Calls Tryz.prog 36 #[vV u, vV u] w (RetV (vV s) w)) (Z : ∀ w, Calls Tryz.prog 35 #[vV s] w (RetV (.bool true) w)) : Calls Tryz.prog 7 #[vV u, vV u, vV x] w (RetV (.bool true) w) := by
  exact vm_pure kr Tryz.func7 rfl [vV u, vV u, vV x] nle [(6, 11)] [.f, .f, .t, .t, .t, .t, .t, .t, .t, .t, .t, .t, .f, .f, .f, .f, .t, .f, .t, (.p _ false hm), (.p _ false hm), (.p _ false hm), (.p _ false hm), .t, (.p _ false hm), .t, (.p _ true hn), (.p _ true hn), (.p _ true hn), (.p _ true hn), (.p _ true hn), (.p _ true hn), (.p _ true hn), (.p _ true hn), (.p _ true hn), (.p _ true hn), .t, .t, .t, .t, .t] [cW (fun w' hc => HAW w' (Chg.bl0 hc)), cU 9 28 _ _ (fun b w hc hB => R b w hB), cV (C1), cV (C2), lV _ (.bool true) (fun w hC => eqV_same (rvN u) (.tmp 28) (.tmp 29) w), cV (C3), cV (C4), cV (A1), cV (A2), cV (C5), cV (S), cV (Z)]
theorem VO_na (u v x a b s : V3) (m n : Int) (w : World) (HAW : ∀ W, Below w.heap.size w W → Calls Tryz.prog 15 #[] W (RetV (.bool true) W))
    (R : ∀ b w, Hc w b 28 (cellsV3 (rvN u) (rvN v) (rvN x)) → Calls Tryz.prog 16 #[.slice (some ⟨b, 0, none⟩) 3 3] w (fun e w' => e = .returned (.bool true) ∧ Hc w' b 28 (cellsV3 (rvN u) (rvN v) (rvN x)) ∧ Chg [b] w w'))
    (C1 : ∀ w, Calls Tryz.prog 34 #[vV u, vV v] w (RetN (-1) w)) (C2 : ∀ w, Calls Tryz.prog 34 #[vV v, vV u] w (RetN (1) w)) (C3 : ∀ w, Calls Tryz.prog 34 #[vV v, vV x] w (RetN m w)) (hm : decide (0 < m) = true) (hne : rvN u ≠ rvN v)
    (A1 : ∀ w, Calls Tryz.prog 31 #[vV u, vV x] w (RetV (vV a) w)) (A2 : ∀ w, Calls Tryz.prog 31 #[vV v, vV x] w (RetV (vV b) w)) (C5 : ∀ w, Calls Tryz.prog 34 #[vV a, vV b] w (RetN (-1) w))
    (S : ∀ w, Calls Tryz.prog 36 #[vV u, vV u] w (RetV (vV s) w)) (Z : ∀ w, Calls Tryz.prog 35 #[vV s] w (RetV (.bool true) w)) : Calls Tryz.prog 7 #[vV u, vV v, vV x] w (RetV (.bool true) w) := by
  exact vm_pure kr Tryz.func7 rfl [vV u, vV v, vV x] nle [(6, 11)] [.f, .f, .t, .t, .t, .t, .t, .t, .t, .t, .t, .t, .f, .f, .f, .f, .t, .f, .t, (.p _ true hm), (.p _ true hm), (.p _ true hm), (.p _ true hm), .t, (.p _ true hm), .t, .t, .t, .t, .t, .t, .t, .t, .t, .t, .t, .t, .t, .t, .t, .t] [cW (fun w' hc => HAW w' (Chg.bl0 hc)), cU 9 28 _ _ (fun b w hc hB => R b w hB), cV (C1), cV (C2), lV _ (.bool false) (fun w hC => eqV_diff (rvN u) (rvN v) (hne) (.tmp 28) (.tmp 29) w), cV (C3), cV (A1), cV (A2), cV (C5), cV (S), cV (Z)]
theorem VO_nb (u v x a b s : V3) (m n : Int) (w : World) (HAW : ∀ W, Below w.heap.size w W → Calls Tryz.prog 15 #[] W (RetV (.bool true) W))
    (R : ∀ b w, Hc w b 28 (cellsV3 (rvN u) (rvN v) (rvN x)) → Calls Tryz.prog 16 #[.slice (some ⟨b, 0, none⟩) 3 3] w (fun e w' => e = .returned (.bool true) ∧ Hc w' b 28 (cellsV3 (rvN u) (rvN v) (rvN x)) ∧ Chg [b] w w'))
    (C1 : ∀ w, Calls Tryz.prog 34 #[vV u, vV v] w (RetN (-1) w)) (C2 : ∀ w, Calls Tryz.prog 34 #[vV v, vV u] w (RetN (1) w)) (C3 : ∀ w, Calls Tryz.prog 34 #[vV v, vV x] w (RetN m w)) (hm : decide (0 < m) = false) (C4 : ∀ w, Calls Tryz.prog 34 #[vV u, vV x] w (RetN n w)) (hn : decide (n ≤ 0) = true) (hne : rvN u ≠ rvN v)
    (A1 : ∀ w, Calls Tryz.prog 31 #[vV u, vV x] w (RetV (vV a) w)) (A2 : ∀ w, Calls Tryz.prog 31 #[vV v, vV x] w (RetV (vV b) w)) (C5 : ∀ w, Calls Tryz.prog 34 #[vV a, vV b] w (RetN (-1) w))
    (S : ∀ w, Calls Tryz.prog 36 #[vV u, vV u] w (RetV (vV s) w)) (Z : ∀ w, Calls Tryz.prog 35 #[vV s] w (RetV (.bool true) w)) : Calls Tryz.prog 7 #[vV u, vV v, vV x] w (RetV (.bool true) w) := by
  exact vm_pure kr Tryz.func7 rfl [vV u, vV v, vV x] nle [(6, 11)] [.f, .f, .t, .t, .t, .t, .t, .t, .t, .t, .t, .t, .f, .f, .f, .f, .t, .f, .t, (.p _ false hm), (.p _ false hm), (.p _ false hm), (.p _ false hm), .t, (.p _ false hm), .t, (.p _ true hn), (.p _ true hn), (.p _ true hn), (.p _ true hn), (.p _ true hn), (.p _ true hn), (.p _ true hn), (.p _ true hn), (.p _ true hn), (.p _ true hn), .t, .t, .t, .t, .t] [cW (fun w' hc => HAW w' (Chg.bl0 hc)), cU 9 28 _ _ (fun b w hc hB => R b w hB), cV (C1), cV (C2), lV _ (.bool false) (fun w hC => eqV_diff (rvN u) (rvN v) (hne) (.tmp 28) (.tmp 29) w), cV (C3), cV (C4), cV (A1), cV (A2), cV (C5), cV (S), cV (Z)]
theorem VO_all (u v t : Rv) (w : World) (ht : HasTab w) : Calls Tryz.prog 7 #[vRV u, vRV v, vRV t] w (RetV (.bool true) w) := by
  have HAW : ∀ W, Below w.heap.size w W → Calls Tryz.prog 15 #[] W (RetV (.bool true) W) := fun W h => vawake_any W (ht.below h)
  cases hr : rightV3 u v t with
  | false => exact VO_no u v t w HAW hr
  | true =>
    have R := fun b w hB => vright3_any u v t b w hB
    rw [hr] at R
    obtain ⟨u, v, x, rfl, rfl, rfl, ou, ov, ox, bu, bv, bx⟩ := rightV3_nm hr
    have cm : ∀ {a b : V3}, BNV 100 a → BNV 100 b → OkV a → OkV b → ∀ w, Calls Tryz.prog 34 #[vV a, vV b] w (RetN (cmpV a b) w) := fun ha hb oa ob w => vCmp_any _ _ w (ha.mono (by omega)) (hb.mono (by omega)) oa ob
    have U := bu.mono (show 12 ≤ 100 by omega)
    have V := bv.mono (show 12 ≤ 100 by omega)
    have X := bx.mono (show 12 ≤ 100 by omega)
    have C1 := cm U V ou ov
    have C2 := cm V U ov ou
    rw [cmpV_neg ou ov] at C2
    have C3 := cm V X ov ox
    have C4 := cm U X ou ox
    have A1 := fun w => vAdd_any u x w (bu.mono (by omega)) (bx.mono (by omega)) ou ox
    have A2 := fun w => vAdd_any v x w (bv.mono (by omega)) (bx.mono (by omega)) ov ox
    have C5 := cm ((bu.addV bx ou ox).mono (by omega)) ((bv.addV bx ov ox).mono (by omega)) (addV_ok ou ox) (addV_ok ov ox)
    rw [cmpV_add ou ov ox] at C5
    have S := fun w => vSub_any u u w (bu.mono (by omega)) (bu.mono (by omega)) ou ou
    rw [sub_self ou] at S
    have Z := fun w => vZero_yes (rvN zV) w rfl
    have le := cmpV_le ou ov ox
    have hz := cmpV_zero ou ov
    have hv := cmpV_vals u v
    generalize hk : cmpV u v = k at *
    rcases hv with rfl | rfl | rfl
    · exact VO_p u v x _ _ _ 0 0 w HAW R C1 C2 (fun e => by have := hz.2 (rvN_inj e); omega) A1 A2 C5 S Z
    · obtain rfl := hz.1 rfl
      by_cases hm : 0 < cmpV u x
      · exact VO_za u u x _ _ _ _ 0 w HAW R C1 C2 C3 (decide_eq_true hm) A1 A2 C5 S Z
      · exact VO_zb u u x _ _ _ _ _ w HAW R C1 C2 C3 (decide_eq_false hm) C4 (decide_eq_true (by omega)) A1 A2 C5 S Z
    · by_cases hm : 0 < cmpV v x
      · exact VO_na u v x _ _ _ _ 0 w HAW R C1 C2 C3 (decide_eq_true hm) (fun e => by have := hz.2 (rvN_inj e); omega) A1 A2 C5 S Z
      · exact VO_nb u v x _ _ _ _ _ w HAW R C1 C2 C3 (decide_eq_false hm) C4 (decide_eq_true (le (by omega) (by omega))) (fun e => by have := hz.2 (rvN_inj e); omega) A1 A2 C5 S Z
end Go.Proofs.YtegnalgjjmpcmaaGreatDoor
