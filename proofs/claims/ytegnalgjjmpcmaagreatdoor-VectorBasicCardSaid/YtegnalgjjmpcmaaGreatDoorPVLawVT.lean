/- VectorTurned: rotations of the wheel map vector products to vector products, and keep determinants. -/
import Derived.Test.YtegnalgjjmpcmaaGreatDoorPVVecX
namespace Go.Proofs.YtegnalgjjmpcmaaGreatDoor
open Go Go.RowKit
set_option maxRecDepth 100000
set_option linter.unusedVariables false
set_option linter.unusedSimpArgs false
theorem conv_i8 (i : Int) (h0 : -128 ≤ i) (h1 : i ≤ 127) (w : World) : (convert 29 3 (.int .i8 i)).run Tryz.prog w = .ok (.int .i64 i) w := by
  have e : IntKind.i64.wrap i = i := wr64 (by omega) (by omega)
  unfold convert
  simp [go_sem, Tryz.underlying29, Tryz.underlying3, e]
theorem rightV2_nm {u v : Rv} (h : rightV2 u v = true) : ∃ x y, u = rvN x ∧ v = rvN y ∧ OkV x ∧ OkV y ∧ BNV 12 x ∧ BNV 12 y := by
  unfold rightV2 at h
  simp only [Bool.and_eq_true] at h
  obtain ⟨x, rfl, ox, bx⟩ := rvN_of (rawV_small h.1.1) h.2.1
  obtain ⟨y, rfl, oy, by'⟩ := rvN_of (rawV_small h.1.2) h.2.2
  exact ⟨x, y, rfl, rfl, ox, oy, bx, by'⟩
theorem rightV3_nm {u v t : Rv} (h : rightV3 u v t = true) : ∃ x y z, u = rvN x ∧ v = rvN y ∧ t = rvN z ∧ OkV x ∧ OkV y ∧ OkV z ∧ BNV 12 x ∧ BNV 12 y ∧ BNV 12 z := by
  unfold rightV3 at h
  simp only [Bool.and_eq_true] at h
  obtain ⟨x, rfl, ox, bx⟩ := rvN_of (rawV_small h.1.1.1) h.2.1.1
  obtain ⟨y, rfl, oy, by'⟩ := rvN_of (rawV_small h.1.1.2) h.2.1.2
  obtain ⟨z, rfl, oz, bz⟩ := rvN_of (rawV_small h.1.2) h.2.2
  exact ⟨x, y, z, rfl, rfl, rfl, ox, oy, oz, bx, by', bz⟩
theorem VT_no (u v : Rv) (i : Int) (w : World) (HAW : ∀ W, Below w.heap.size w W → Calls Tryz.prog 15 #[] W (RetV (.bool true) W)) (h : rightV2 u v = false) : Calls Tryz.prog 3 #[vRV u, vRV v, .int .i8 i] w (RetV (.bool true) w) := by
  have R := fun b w hB => vright2_any u v b w hB
  rw [h] at R
  exact vm_pure kr Tryz.func3 rfl [vRV u, vRV v, .int .i8 i] nle [] [.f, .t] [cW (fun w' hc => HAW w' (Chg.bl0 hc)), cU 7 28 (cellsV2 u v) (cellsV2 u v) (fun b w hc hB => R b w hB)]
theorem VT_yes (u v a b c e : V3) (d : Nm) (i : Int) (w : World) (h0 : -128 ≤ i) (h1 : i ≤ 127) (HAW : ∀ W, Below w.heap.size w W → Calls Tryz.prog 15 #[] W (RetV (.bool true) W))
    (R : ∀ b w, Hc w b 28 (cellsV2 (rvN u) (rvN v)) → Calls Tryz.prog 16 #[.slice (some ⟨b, 0, none⟩) 2 2] w (fun e w' => e = .returned (.bool true) ∧ Hc w' b 28 (cellsV2 (rvN u) (rvN v)) ∧ Chg [b] w w'))
    (T1 : ∀ w, Calls Tryz.prog 17 #[vV u, .int .i64 i] w (RetV (vV a) w)) (T2 : ∀ w, Calls Tryz.prog 17 #[vV v, .int .i64 i] w (RetV (vV b) w))
    (X1 : ∀ w, Calls Tryz.prog 18 #[vV a, vV b] w (RetV (vV c) w)) (X2 : ∀ w, Calls Tryz.prog 18 #[vV u, vV v] w (RetV (vV e) w)) (T3 : ∀ w, Calls Tryz.prog 17 #[vV e, .int .i64 i] w (RetV (vV c) w))
    (D1 : ∀ w, Calls Tryz.prog 19 #[vV a, vV b, vV c] w (RetV (vN d) w)) (D2 : ∀ w, Calls Tryz.prog 19 #[vV u, vV v, vV e] w (RetV (vN d) w)) : Calls Tryz.prog 3 #[vV u, vV v, .int .i8 i] w (RetV (.bool true) w) := by
  exact vm_pure kr Tryz.func3 rfl [vV u, vV v, .int .i8 i] nle [(5, 1), (7, 8), (7, 22)] [.f, .f, .t, .t, .t, .t, .t, .t, .t, .t, .t, .t, .t, .t, .t, .t] [cW (fun w' hc => HAW w' (Chg.bl0 hc)), cU 7 28 _ _ (fun b w hc hB => R b w hB), lV (convert 29 3 (.int .i8 i)) (.int .i64 i) (fun w hC => conv_i8 i h0 h1 w), cV (T1), cV (T2), cV (X1), cV (X2), cV (T3), lV _ (.bool true) (fun w hC => eqV_same (rvN c) (.tmp 27) (.tmp 32) w), cV (X1), cV (D1), cV (X2), cV (D2), lV _ (.bool true) (fun w hC => eqN_same (d) (.tmp 40) (.tmp 46) w)]
theorem VT_all (u v : Rv) (i : Int) (w : World) (ht : HasTab w) (h0 : -128 ≤ i) (h1 : i ≤ 127) : Calls Tryz.prog 3 #[vRV u, vRV v, .int .i8 i] w (RetV (.bool true) w) := by
  have HAW : ∀ W, Below w.heap.size w W → Calls Tryz.prog 15 #[] W (RetV (.bool true) W) := fun W h => vawake_any W (ht.below h)
  cases hr : rightV2 u v with
  | false => exact VT_no u v i w HAW hr
  | true =>
    have R := fun b w hB => vright2_any u v b w hB
    rw [hr] at R
    obtain ⟨x, y, rfl, rfl, ox, oy, bx, by'⟩ := rightV2_nm hr
    obtain ⟨oc, bc⟩ := cosN_ok i
    obtain ⟨os, bs⟩ := cosN_ok (i % 24 - 6)
    change Ok (sinN i) at os
    change BN 1 (sinN i) at bs
    have oe := crsV_ok ox oy
    have be := bx.crs by' ox oy
    have ba := BNV.trnV (bc.mono (show 1 ≤ 12 by omega)) (bs.mono (show 1 ≤ 12 by omega)) bx oc os ox
    have bb := BNV.trnV (bc.mono (show 1 ≤ 12 by omega)) (bs.mono (show 1 ≤ 12 by omega)) by' oc os oy
    have oa := trnV_ok oc os ox
    have ob := trnV_ok oc os oy
    have T1 := fun w => wTurn_any x i w (bx.mono (by omega)) ox (by omega) (by omega)
    have T2 := fun w => wTurn_any y i w (by'.mono (by omega)) oy (by omega) (by omega)
    have X1 := fun w => vCross_any _ _ w (ba.mono (by omega)) (bb.mono (by omega)) oa ob
    have X2 := fun w => vCross_any x y w (bx.mono (by omega)) (by'.mono (by omega)) ox oy
    have T3 := fun w => wTurn_any (crsV x y) i w (be.mono (by omega)) oe (by omega) (by omega)
    have D1 := fun w => vDet_any _ _ _ w (ba.mono (by omega)) (bb.mono (by omega)) ((ba.crs bb oa ob).mono (by omega)) oa ob (crsV_ok oa ob)
    have D2 := fun w => vDet_any x y _ w (bx.mono (by omega)) (by'.mono (by omega)) (be.mono (by omega)) ox oy oe
    rw [trn_crs oc os ox oy (circ i)] at X1 D1
    rw [trn_det oc os ox oy oe (circ i)] at D1
    exact VT_yes x y _ _ _ _ _ i w h0 h1 HAW R T1 T2 X1 X2 T3 D1 D2
end Go.Proofs.YtegnalgjjmpcmaaGreatDoor
