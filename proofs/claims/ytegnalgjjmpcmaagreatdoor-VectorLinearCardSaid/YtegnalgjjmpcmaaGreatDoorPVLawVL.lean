/- VectorLinear: scalar and vector product are linear; the former is symmetric, the latter changes its sign if its arguments are exchanged. -/
import Derived.Test.YtegnalgjjmpcmaaGreatDoorPVLawVT
namespace Go.Proofs.YtegnalgjjmpcmaaGreatDoor
open Go Go.RowKit
set_option maxRecDepth 100000
set_option linter.unusedVariables false
set_option linter.unusedSimpArgs false
theorem VL_no (u v x : Rv) (w : World) (HAW : ∀ W, Below w.heap.size w W → Calls Tryz.prog 15 #[] W (RetV (.bool true) W)) (h : rightV3 u v x = false) : Calls Tryz.prog 6 #[vRV u, vRV v, vRV x] w (RetV (.bool true) w) := by
  have R := fun b w hB => vright3_any u v x b w hB
  rw [h] at R
  exact vm_pure kr Tryz.func6 rfl [vRV u, vRV v, vRV x] nle [] [.f, .t] [cW (fun w' hc => HAW w' (Chg.bl0 hc)), cU 9 28 (cellsV3 u v x) (cellsV3 u v x) (fun b w hc hB => R b w hB)]
theorem VL_yes (u v x sc s c cux scx cvx cuv cvu : V3) (p dux m dvx duv : Nm) (w : World) (HAW : ∀ W, Below w.heap.size w W → Calls Tryz.prog 15 #[] W (RetV (.bool true) W))
    (R : ∀ b w, Hc w b 28 (cellsV3 (rvN u) (rvN v) (rvN x)) → Calls Tryz.prog 16 #[.slice (some ⟨b, 0, none⟩) 3 3] w (fun e w' => e = .returned (.bool true) ∧ Hc w' b 28 (cellsV3 (rvN u) (rvN v) (rvN x)) ∧ Chg [b] w w'))
    (S1 : ∀ w, Calls Tryz.prog 21 #[vV u, vN x.y] w (RetV (vV sc) w)) (A1 : ∀ w, Calls Tryz.prog 31 #[vV sc, vV v] w (RetV (vV s) w))
    (D1 : ∀ w, Calls Tryz.prog 23 #[vV s, vV x] w (RetV (vN p) w)) (D2 : ∀ w, Calls Tryz.prog 23 #[vV u, vV x] w (RetV (vN dux) w)) (M : ∀ w, Calls Tryz.prog 29 #[vN x.y, vN dux] w (RetV (vN m) w))
    (D3 : ∀ w, Calls Tryz.prog 23 #[vV v, vV x] w (RetV (vN dvx) w)) (A2 : ∀ w, Calls Tryz.prog 32 #[vN m, vN dvx] w (RetV (vN p) w))
    (D4 : ∀ w, Calls Tryz.prog 23 #[vV u, vV v] w (RetV (vN duv) w)) (D5 : ∀ w, Calls Tryz.prog 23 #[vV v, vV u] w (RetV (vN duv) w))
    (X1 : ∀ w, Calls Tryz.prog 18 #[vV s, vV x] w (RetV (vV c) w)) (X2 : ∀ w, Calls Tryz.prog 18 #[vV u, vV x] w (RetV (vV cux) w)) (S2 : ∀ w, Calls Tryz.prog 21 #[vV cux, vN x.y] w (RetV (vV scx) w))
    (X3 : ∀ w, Calls Tryz.prog 18 #[vV v, vV x] w (RetV (vV cvx) w)) (A3 : ∀ w, Calls Tryz.prog 31 #[vV scx, vV cvx] w (RetV (vV c) w))
    (X4 : ∀ w, Calls Tryz.prog 18 #[vV u, vV v] w (RetV (vV cuv) w)) (X5 : ∀ w, Calls Tryz.prog 18 #[vV v, vV u] w (RetV (vV cvu) w)) (N : ∀ w, Calls Tryz.prog 33 #[vV cvu] w (RetV (vV cuv) w)) :
    Calls Tryz.prog 6 #[vV u, vV v, vV x] w (RetV (.bool true) w) := by
  exact vm_pure kr Tryz.func6 rfl [vV u, vV v, vV x] nle [(7, 12), (7, 20), (9, 12), (9, 21)] [.f, .f, .f, .f, .f, .f, .f, .f, .f, .f, .f, .t, .t, .t, .t, .t, .t, .t, .t, .t] [cW (fun w' hc => HAW w' (Chg.bl0 hc)), cU 9 28 _ _ (fun b w hc hB => R b w hB), cV (S1), cV (A1), cV (D1), cV (D2), cV (M), cV (D3), cV (A2), lV _ (.bool false) (fun w hC => neN_same (p) (.tmp 26) (.tmp 35) w), cV (D4), cV (D5), lV _ (.bool false) (fun w hC => neN_same (duv) (.tmp 40) (.tmp 43) w), cV (X1), cV (X2), cV (S2), cV (X3), cV (A3), lV _ (.bool true) (fun w hC => eqV_same (rvN c) (.tmp 48) (.tmp 57) w), cV (X4), cV (X5), cV (N), lV _ (.bool true) (fun w hC => eqV_same (rvN cuv) (.tmp 62) (.tmp 66) w)]
theorem VL_all (u v t : Rv) (w : World) (ht : HasTab w) : Calls Tryz.prog 6 #[vRV u, vRV v, vRV t] w (RetV (.bool true) w) := by
  have HAW : ∀ W, Below w.heap.size w W → Calls Tryz.prog 15 #[] W (RetV (.bool true) W) := fun W h => vawake_any W (ht.below h)
  cases hr : rightV3 u v t with
  | false => exact VL_no u v t w HAW hr
  | true =>
    have R := fun b w hB => vright3_any u v t b w hB
    rw [hr] at R
    obtain ⟨u, v, x, rfl, rfl, rfl, ou, ov, ox, bu, bv, bx⟩ := rightV3_nm hr
    have os1 := scaV_ok ou ox.y
    have bs1 := bu.scaV bx.y ou ox.y
    have os := addV_ok os1 ov
    have bs := bs1.addV (bv.mono (by omega)) os1 ov
    have odux := dotV_ok ou ox
    have bdux := BN.dotV bu bx ou ox
    have odvx := dotV_ok ov ox
    have bdvx := BN.dotV bv bx ov ox
    have bm := (bx.y.mono (show 12 ≤ 8 * 12 + 30 by omega)).mulN bdux ox.y.ne odux.ne
    have D1 := fun w => vDot_any _ x w (bs.mono (by omega)) (bx.mono (by omega)) os ox
    have A2 := fun w => gAdd_any _ _ w (bm.mono (by omega)) (bdvx.mono (by omega)) (mulN_ok ox.y odux) odvx
    rw [← dot_lin ou ov ox] at A2
    have D5 := fun w => vDot_any v u w (bv.mono (by omega)) (bu.mono (by omega)) ov ou
    rw [dot_comm ou ov] at D5
    have ocux := crsV_ok ou ox
    have bcux := bu.crs bx ou ox
    have ocvx := crsV_ok ov ox
    have bcvx := bv.crs bx ov ox
    have bscx := bcux.scaV (bx.y.mono (by omega)) ocux ox.y
    have A3 := fun w => vAdd_any _ _ w (bscx.mono (by omega)) (bcvx.mono (by omega)) (scaV_ok ocux ox.y) ocvx
    rw [← crs_lin ou ov ox] at A3
    have N := fun w => vNeg_any _ w ((bv.crs bu ov ou).mono (by omega)) (crsV_ok ov ou)
    rw [crs_neg ou ov] at N
    exact VL_yes u v x _ _ _ _ _ _ _ _ _ _ _ _ _ w HAW R (fun w => vScale_any u x.y w (bu.mono (by omega)) (bx.y.mono (by omega)) ou ox.y) (fun w => vAdd_any _ v w (bs1.mono (by omega)) (bv.mono (by omega)) os1 ov)
      D1 (fun w => vDot_any u x w (bu.mono (by omega)) (bx.mono (by omega)) ou ox) (fun w => gMul_any x.y _ w (bx.y.mono (by omega)) (bdux.mono (by omega)) ox.y odux) (fun w => vDot_any v x w (bv.mono (by omega)) (bx.mono (by omega)) ov ox) A2
      (fun w => vDot_any u v w (bu.mono (by omega)) (bv.mono (by omega)) ou ov) D5
      (fun w => vCross_any _ x w (bs.mono (by omega)) (bx.mono (by omega)) os ox) (fun w => vCross_any u x w (bu.mono (by omega)) (bx.mono (by omega)) ou ox) (fun w => vScale_any _ x.y w (bcux.mono (by omega)) (bx.y.mono (by omega)) ocux ox.y)
      (fun w => vCross_any v x w (bv.mono (by omega)) (bx.mono (by omega)) ov ox) A3
      (fun w => vCross_any u v w (bu.mono (by omega)) (bv.mono (by omega)) ou ov) (fun w => vCross_any v u w (bv.mono (by omega)) (bu.mono (by omega)) ov ou) N
end Go.Proofs.YtegnalgjjmpcmaaGreatDoor
