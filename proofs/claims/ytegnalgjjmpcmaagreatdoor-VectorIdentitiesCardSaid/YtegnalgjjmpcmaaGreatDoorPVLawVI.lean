/- VectorIdentities: the vector product is perpendicular to both vectors; products of vector products; determinants. -/
import Derived.Test.YtegnalgjjmpcmaaGreatDoorPVLawVT
namespace Go.Proofs.YtegnalgjjmpcmaaGreatDoor
open Go Go.RowKit
set_option maxRecDepth 100000
set_option linter.unusedVariables false
set_option linter.unusedSimpArgs false
theorem VI_no (u v x : Rv) (w : World) (HAW : ∀ W, Below w.heap.size w W → Calls Tryz.prog 15 #[] W (RetV (.bool true) W)) (h : rightV3 u v x = false) : Calls Tryz.prog 5 #[vRV u, vRV v, vRV x] w (RetV (.bool true) w) := by
  have R := fun b w hB => vright3_any u v x b w hB
  rw [h] at R
  exact vm_pure kr Tryz.func5 rfl [vRV u, vRV v, vRV x] nle [] [.f, .t] [cW (fun w' hc => HAW w' (Chg.bl0 hc)), cU 9 28 (cellsV3 u v x) (cellsV3 u v x) (fun b w hc hB => R b w hB)]
theorem VI_yes (u v x c cvx ux : V3) (z a1 a2 m1 a3 a4 m2 l d nd : Nm) (w : World) (HAW : ∀ W, Below w.heap.size w W → Calls Tryz.prog 15 #[] W (RetV (.bool true) W))
    (R : ∀ b w, Hc w b 28 (cellsV3 (rvN u) (rvN v) (rvN x)) → Calls Tryz.prog 16 #[.slice (some ⟨b, 0, none⟩) 3 3] w (fun e w' => e = .returned (.bool true) ∧ Hc w' b 28 (cellsV3 (rvN u) (rvN v) (rvN x)) ∧ Chg [b] w w'))
    (X1 : ∀ w, Calls Tryz.prog 18 #[vV u, vV v] w (RetV (vV c) w)) (O : ∀ w, Calls Tryz.prog 27 #[.int .i64 0] w (RetV (vN z) w))
    (D1 : ∀ w, Calls Tryz.prog 23 #[vV u, vV v] w (RetV (vN a1) w)) (D2 : ∀ w, Calls Tryz.prog 23 #[vV v, vV x] w (RetV (vN a2) w)) (M1 : ∀ w, Calls Tryz.prog 29 #[vN a1, vN a2] w (RetV (vN m1) w))
    (D3 : ∀ w, Calls Tryz.prog 23 #[vV u, vV x] w (RetV (vN a3) w)) (D4 : ∀ w, Calls Tryz.prog 23 #[vV v, vV v] w (RetV (vN a4) w)) (M2 : ∀ w, Calls Tryz.prog 29 #[vN a3, vN a4] w (RetV (vN m2) w))
    (S : ∀ w, Calls Tryz.prog 28 #[vN m1, vN m2] w (RetV (vN l) w)) (P1 : ∀ w, Calls Tryz.prog 23 #[vV c, vV u] w (RetV (vN z) w)) (P2 : ∀ w, Calls Tryz.prog 23 #[vV c, vV v] w (RetV (vN z) w))
    (X2 : ∀ w, Calls Tryz.prog 18 #[vV v, vV x] w (RetV (vV cvx) w)) (P3 : ∀ w, Calls Tryz.prog 23 #[vV c, vV cvx] w (RetV (vN l) w)) (E0 : ∀ w, Calls Tryz.prog 19 #[vV u, vV v, vV x] w (RetV (vN d) w))
    (E1 : ∀ w, Calls Tryz.prog 19 #[vV v, vV u, vV x] w (RetV (vN nd) w)) (N : ∀ w, Calls Tryz.prog 30 #[vN d] w (RetV (vN nd) w)) (E2 : ∀ w, Calls Tryz.prog 19 #[vV u, vV x, vV v] w (RetV (vN nd) w))
    (A : ∀ w, Calls Tryz.prog 31 #[vV u, vV x] w (RetV (vV ux) w)) (E3 : ∀ w, Calls Tryz.prog 19 #[vV ux, vV v, vV x] w (RetV (vN d) w)) (E4 : ∀ w, Calls Tryz.prog 19 #[vV v, vV x, vV u] w (RetV (vN d) w))
    (P4 : ∀ w, Calls Tryz.prog 23 #[vV c, vV x] w (RetV (vN d) w)) : Calls Tryz.prog 5 #[vV u, vV v, vV x] w (RetV (.bool true) w) := by
  exact vm_pure kr Tryz.func5 rfl [vV u, vV v, vV x] nle [(8, 4), (8, 10), (8, 19), (11, 6), (11, 14), (11, 24), (11, 32), (11, 39)] [.f, .f, .f, .f, .f, .f, .f, .f, .f, .f, .f, .f, .f, .f, .f, .f, .f, .t, .t, .t, .t, .t, .t, .t, .t, .t, .t, .t, .t, .t, .t, .t, .t, .t, .t, .t, .t, .t, .t, .t, .t, .t, .t, .t, .t, .t, .t] [cW (fun w' hc => HAW w' (Chg.bl0 hc)), cU 9 28 _ _ (fun b w hc hB => R b w hB), cV (X1), cV (O), cV (D1), cV (D2), cV (M1), cV (D3), cV (D4), cV (M2), cV (S), cV (P1), lV _ (.bool false) (fun w hC => neN_same (z) (.tmp 40) (.tmp 41) w), cV (P2), lV _ (.bool false) (fun w hC => neN_same (z) (.tmp 46) (.tmp 47) w), cV (X2), cV (P3), lV _ (.bool false) (fun w hC => neN_same (l) (.tmp 55) (.tmp 56) w), cV (E0), cV (E1), cV (N), lV _ (.bool true) (fun w hC => eqN_same (nd) (.tmp 66) (.tmp 68) w), cV (E2), cV (N), lV _ (.bool true) (fun w hC => eqN_same (nd) (.tmp 74) (.tmp 76) w), cV (A), cV (E3), lV _ (.bool true) (fun w hC => eqN_same (d) (.tmp 85) (.tmp 86) w), cV (E4), lV _ (.bool true) (fun w hC => eqN_same (d) (.tmp 93) (.tmp 94) w), cV (P4), lV _ (.bool true) (fun w hC => eqN_same (d) (.tmp 100) (.tmp 101) w)]
theorem VI_all (u v t : Rv) (w : World) (ht : HasTab w) : Calls Tryz.prog 5 #[vRV u, vRV v, vRV t] w (RetV (.bool true) w) := by
  have HAW : ∀ W, Below w.heap.size w W → Calls Tryz.prog 15 #[] W (RetV (.bool true) W) := fun W h => vawake_any W (ht.below h)
  cases hr : rightV3 u v t with
  | false => exact VI_no u v t w HAW hr
  | true =>
    have R := fun b w hB => vright3_any u v t b w hB
    rw [hr] at R
    obtain ⟨u, v, x, rfl, rfl, rfl, ou, ov, ox, bu, bv, bx⟩ := rightV3_nm hr
    have O := fun w => gOf_any 0 w (by omega) (by omega)
    rw [show intN 0 = zN from rfl] at O
    have bm : ∀ {a b : V3}, BNV 12 a → BNV 12 b → BNV 1000 a ∧ BNV 1000 b := fun ha hb => ⟨ha.mono (by omega), hb.mono (by omega)⟩
    have dt : ∀ {a b : V3}, BNV 1000 a → BNV 1000 b → OkV a → OkV b → ∀ w, Calls Tryz.prog 23 #[vV a, vV b] w (RetV (vN (dotV a b)) w) := fun ha hb oa ob w => vDot_any _ _ w (ha.mono (by omega)) (hb.mono (by omega)) oa ob
    have de : ∀ {a b c : V3}, BNV 1000 a → BNV 1000 b → BNV 1000 c → OkV a → OkV b → OkV c → ∀ w, Calls Tryz.prog 19 #[vV a, vV b, vV c] w (RetV (vN (detV a b c)) w) := fun ha hb hc oa ob oc w => vDet_any _ _ _ w (ha.mono (by omega)) (hb.mono (by omega)) (hc.mono (by omega)) oa ob oc
    have U := bu.mono (show 12 ≤ 1000 by omega)
    have V := bv.mono (show 12 ≤ 1000 by omega)
    have X := bx.mono (show 12 ≤ 1000 by omega)
    have oc := crsV_ok ou ov
    have bc := (bu.crs bv ou ov).mono (show 4 * 12 + 11 ≤ 1000 by omega)
    have ocvx := crsV_ok ov ox
    have bcvx := (bv.crs bx ov ox).mono (show 4 * 12 + 11 ≤ 1000 by omega)
    have q := fun {a b : V3} (ha : BNV 12 a) (hb : BNV 12 b) oa ob => (BN.dotV ha hb oa ob).mono (show 8 * 12 + 30 ≤ 200 by omega)
    have b1 := q bu bv ou ov
    have b2 := q bv bx ov ox
    have b3 := q bu bx ou ox
    have b4 := q bv bv ov ov
    have o1 := dotV_ok ou ov
    have o2 := dotV_ok ov ox
    have o3 := dotV_ok ou ox
    have o4 := dotV_ok ov ov
    have S := fun w => gSub_any _ _ w ((b1.mulN b2 o1.ne o2.ne).mono (by omega)) ((b3.mulN b4 o3.ne o4.ne).mono (by omega)) (mulN_ok o1 o2) (mulN_ok o3 o4)
    rw [← lagrange ou ov ox] at S
    have P1 := dt bc U oc ou
    rw [perp_u ou ov] at P1
    have P2 := dt bc V oc ov
    rw [perp_v ou ov] at P2
    have P4 := dt bc X oc ox
    rw [det_dot ou ov ox] at P4
    have E1 := de V U X ov ou ox
    rw [det_swap1 ou ov ox] at E1
    have E2 := de U X V ou ox ov
    rw [det_swap2 ou ov ox] at E2
    have oux := addV_ok ou ox
    have E3 := de ((bu.addV bx ou ox).mono (by omega)) V X oux ov ox
    rw [det_add ou ov ox] at E3
    have E4 := de V X U ov ox ou
    rw [det_turn ou ov ox] at E4
    have od := detV_ok ou ov ox
    have bd : BN 80000000 (detV u v x) := by
      have h := BN.dotV (k := 59) (bu.mono (by omega)) (bv.crs bx ov ox) ou ocvx
      exact h.mono (by omega)
    exact VI_yes u v x _ _ _ _ _ _ _ _ _ _ _ _ _ w HAW R (fun w => vCross_any u v w (bu.mono (by omega)) (bv.mono (by omega)) ou ov) O (dt U V ou ov) (dt V X ov ox) (fun w => gMul_any _ _ w (b1.mono (by omega)) (b2.mono (by omega)) o1 o2)
      (dt U X ou ox) (dt V V ov ov) (fun w => gMul_any _ _ w (b3.mono (by omega)) (b4.mono (by omega)) o3 o4) S P1 P2 (fun w => vCross_any v x w (bv.mono (by omega)) (bx.mono (by omega)) ov ox) (dt bc bcvx oc ocvx) (de U V X ou ov ox)
      E1 (fun w => gNeg_any _ w bd od) E2 (fun w => vAdd_any u x w (bu.mono (by omega)) (bx.mono (by omega)) ou ox) E3 E4 P4
end Go.Proofs.YtegnalgjjmpcmaaGreatDoor
