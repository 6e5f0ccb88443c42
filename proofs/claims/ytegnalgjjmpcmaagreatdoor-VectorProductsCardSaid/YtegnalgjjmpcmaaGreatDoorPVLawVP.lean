/- VectorProducts: multiples, scalar products, vector products and determinants. -/
import Derived.Test.YtegnalgjjmpcmaaGreatDoorPVLawVT
namespace Go.Proofs.YtegnalgjjmpcmaaGreatDoor
open Go Go.RowKit
set_option maxRecDepth 100000
set_option linter.unusedVariables false
set_option linter.unusedSimpArgs false
theorem VP_no (u v x : Rv) (w : World) (HAW : ∀ W, Below w.heap.size w W → Calls Tryz.prog 15 #[] W (RetV (.bool true) W)) (h : (rawV u && rawV v && rawV x) = false) : Calls Tryz.prog 4 #[vRV u, vRV v, vRV x] w (RetV (.bool true) w) := by
  have R := fun b w hB => vfew3_any u v x b w hB
  rw [h] at R
  exact vm_pure kr Tryz.func4 rfl [vRV u, vRV v, vRV x] nle [] [.f, .t] [cW (fun w' hc => HAW w' (Chg.bl0 hc)), cU 9 28 (cellsV3 u v x) (cellsV3 u v x) (fun b w hc hB => R b w hB)]
theorem VP_yes (u v x : Rv) (s c : V3) (p d : Nm) (w : World) (HAW : ∀ W, Below w.heap.size w W → Calls Tryz.prog 15 #[] W (RetV (.bool true) W)) (h : (rawV u && rawV v && rawV x) = true)
    (S1 : ∀ w, Calls Tryz.prog 21 #[vRV u, vR x.x] w (RetV (vV s) w)) (S2 : ∀ w, Calls Tryz.prog 22 #[vRV u, vR x.x] w (RetV (vV s) w))
    (D1 : ∀ w, Calls Tryz.prog 23 #[vRV u, vRV v] w (RetV (vN p) w)) (D2 : ∀ w, Calls Tryz.prog 24 #[vRV u, vRV v] w (RetV (vN p) w))
    (X1 : ∀ w, Calls Tryz.prog 18 #[vRV u, vRV v] w (RetV (vV c) w)) (X2 : ∀ w, Calls Tryz.prog 25 #[vRV u, vRV v] w (RetV (vV c) w))
    (E1 : ∀ w, Calls Tryz.prog 19 #[vRV u, vRV v, vRV x] w (RetV (vN d) w)) (E2 : ∀ w, Calls Tryz.prog 26 #[vRV u, vRV v, vRV x] w (RetV (vN d) w)) : Calls Tryz.prog 4 #[vRV u, vRV v, vRV x] w (RetV (.bool true) w) := by
  have R := fun b w hB => vfew3_any u v x b w hB
  rw [h] at R
  exact vm_pure kr Tryz.func4 rfl [vRV u, vRV v, vRV x] nle [(5, 8), (5, 16), (5, 25), (5, 36)] [.f, .f, .t, .t, .t, .t, .t, .t, .t, .t, .t, .t, .t, .t, .t, .t, .t, .t, .t, .t, .t, .t, .t, .t, .t, .t, .t, .t] [cW (fun w' hc => HAW w' (Chg.bl0 hc)), cU 9 28 (cellsV3 u v x) (cellsV3 u v x) (fun b w hc hB => R b w hB), cV (S1), cV (S2), lV _ (.bool true) (fun w hC => eqV_same (rvN s) (.tmp 18) (.tmp 22) w), cV (D1), cV (D2), lV _ (.bool true) (fun w hC => eqN_same (p) (.tmp 27) (.tmp 30) w), cV (X1), cV (X2), lV _ (.bool true) (fun w hC => eqV_same (rvN c) (.tmp 36) (.tmp 39) w), cV (E1), cV (E2), lV _ (.bool true) (fun w hC => eqN_same (d) (.tmp 46) (.tmp 50) w)]
theorem VP_all (u v t : Rv) (w : World) (ht : HasTab w) : Calls Tryz.prog 4 #[vRV u, vRV v, vRV t] w (RetV (.bool true) w) := by
  have HAW : ∀ W, Below w.heap.size w W → Calls Tryz.prog 15 #[] W (RetV (.bool true) W) := fun W h => vawake_any W (ht.below h)
  cases hr : (rawV u && rawV v && rawV t) with
  | false => exact VP_no u v t w HAW hr
  | true =>
    have h2 := hr
    simp only [Bool.and_eq_true] at h2
    have ru := rawV_small h2.1.1
    have rv := rawV_small h2.1.2
    have rt := rawV_small h2.2
    have su := ru.mono (show 12 ≤ 80000000 by omega)
    have sv := rv.mono (show 12 ≤ 80000000 by omega)
    have st := rt.mono (show 12 ≤ 80000000 by omega)
    have ez : vZ = vN zzN := vZ_eq
    have S : ∃ s, (∀ w, Calls Tryz.prog 21 #[vRV u, vR t.x] w (RetV (vV s) w)) ∧ (∀ w, Calls Tryz.prog 22 #[vRV u, vR t.x] w (RetV (vV s) w)) := by
      cases hu : okRV u with
      | false => exact ⟨⟨zzN, zzN, zzN⟩, by rw [← vZV_eq]; exact fun w => vScale_no1 u t.x w su hu, by rw [← vZV_eq]; exact fun w => uScale_no1 u t.x w su hu⟩
      | true =>
        cases hk : okR t.x with
        | false => exact ⟨⟨zzN, zzN, zzN⟩, by rw [← vZV_eq]; exact fun w => vScale_no2 u t.x w su st.x hu hk, by rw [← vZV_eq]; exact fun w => uScale_no2 u t.x w su st.x hu hk⟩
        | true =>
          obtain ⟨x, rfl, ox, bx⟩ := rvN_of ru hu
          have ek : t.x = rwN (nmR t.x) := rwN_of (okR_ok hk).2
          have ok := (okR_ok hk).1
          have bk := BN_R rt.x (okR_ok hk).2
          rw [ek]
          generalize nmR t.x = k at *
          exact ⟨scaV x k, fun w => vScale_any x k w (bx.mono (by omega)) (bk.mono (by omega)) ox ok, fun w => uScale_any x k w (bx.mono (by omega)) (bk.mono (by omega)) ox ok⟩
    have DX : ∃ p c, (∀ w, Calls Tryz.prog 23 #[vRV u, vRV v] w (RetV (vN p) w)) ∧ (∀ w, Calls Tryz.prog 24 #[vRV u, vRV v] w (RetV (vN p) w)) ∧ (∀ w, Calls Tryz.prog 18 #[vRV u, vRV v] w (RetV (vV c) w)) ∧ (∀ w, Calls Tryz.prog 25 #[vRV u, vRV v] w (RetV (vV c) w)) := by
      cases hu : okRV u with
      | false => exact ⟨zzN, ⟨zzN, zzN, zzN⟩, by rw [← ez]; exact fun w => vDot_no1 u v w su hu, by rw [← ez]; exact fun w => uDot_no1 u v w su hu, by rw [← vZV_eq]; exact fun w => vCross_no1 u v w su hu, by rw [← vZV_eq]; exact fun w => uCross_no1 u v w su hu⟩
      | true =>
        cases hv : okRV v with
        | false => exact ⟨zzN, ⟨zzN, zzN, zzN⟩, by rw [← ez]; exact fun w => vDot_no2 u v w su sv hu hv, by rw [← ez]; exact fun w => uDot_no2 u v w su sv hu hv, by rw [← vZV_eq]; exact fun w => vCross_no2 u v w su sv hu hv, by rw [← vZV_eq]; exact fun w => uCross_no2 u v w su sv hu hv⟩
        | true =>
          obtain ⟨x, rfl, ox, bx⟩ := rvN_of ru hu
          obtain ⟨y, rfl, oy, by'⟩ := rvN_of rv hv
          exact ⟨dotV x y, crsV x y, fun w => vDot_any x y w (bx.mono (by omega)) (by'.mono (by omega)) ox oy, fun w => uDot_any x y w (bx.mono (by omega)) (by'.mono (by omega)) ox oy, fun w => vCross_any x y w (bx.mono (by omega)) (by'.mono (by omega)) ox oy, fun w => uCross_any x y w (bx.mono (by omega)) (by'.mono (by omega)) ox oy⟩
    have E : ∃ d, (∀ w, Calls Tryz.prog 19 #[vRV u, vRV v, vRV t] w (RetV (vN d) w)) ∧ (∀ w, Calls Tryz.prog 26 #[vRV u, vRV v, vRV t] w (RetV (vN d) w)) := by
      cases hv : okRV v with
      | false =>
        refine ⟨zzN, ?_, ?_⟩ <;> rw [← ez]
        · cases hu : okRV u with
          | false => exact fun w => vDet_bad u v t rZV w (fun w => vCross_no1 v t w sv hv) (fun w => vDot_no1 u rZV w su hu)
          | true => exact fun w => vDet_bad u v t rZV w (fun w => vCross_no1 v t w sv hv) (fun w => vDot_no2 u rZV w su rZV_small hu rZV_no)
        · cases hu : okRV u with
          | false => exact fun w => uDet_no1 u v t w su sv st hu
          | true => exact fun w => uDet_no2 u v t w su sv st hu hv
      | true =>
        cases htt : okRV t with
        | false =>
          refine ⟨zzN, ?_, ?_⟩ <;> rw [← ez]
          · cases hu : okRV u with
            | false => exact fun w => vDet_bad u v t rZV w (fun w => vCross_no2 v t w sv st hv htt) (fun w => vDot_no1 u rZV w su hu)
            | true => exact fun w => vDet_bad u v t rZV w (fun w => vCross_no2 v t w sv st hv htt) (fun w => vDot_no2 u rZV w su rZV_small hu rZV_no)
          · cases hu : okRV u with
            | false => exact fun w => uDet_no1 u v t w su sv st hu
            | true => exact fun w => uDet_no3 u v t w su sv st hu hv htt
        | true =>
          obtain ⟨y, rfl, oy, by'⟩ := rvN_of rv hv
          obtain ⟨z, rfl, oz, bz⟩ := rvN_of rt htt
          cases hu : okRV u with
          | false =>
            refine ⟨zzN, by rw [← ez]; exact fun w => vDet_bad u _ _ (rvN (crsV y z)) w (fun w => vCross_any y z w (by'.mono (by omega)) (bz.mono (by omega)) oy oz) (fun w => vDot_no1 u _ w su hu), by rw [← ez]; exact fun w => uDet_no1 u _ _ w su sv st hu⟩
          | true =>
            obtain ⟨x, rfl, ox, bx⟩ := rvN_of ru hu
            exact ⟨detV x y z, fun w => vDet_any x y z w (bx.mono (by omega)) (by'.mono (by omega)) (bz.mono (by omega)) ox oy oz, fun w => uDet_any x y z w (bx.mono (by omega)) (by'.mono (by omega)) (bz.mono (by omega)) ox oy oz⟩
    obtain ⟨s, S1, S2⟩ := S
    obtain ⟨p, c, D1, D2, X1, X2⟩ := DX
    obtain ⟨d, E1, E2⟩ := E
    exact VP_yes u v t s c p d w HAW hr S1 S2 D1 D2 X1 X2 E1 E2
end Go.Proofs.YtegnalgjjmpcmaaGreatDoor
