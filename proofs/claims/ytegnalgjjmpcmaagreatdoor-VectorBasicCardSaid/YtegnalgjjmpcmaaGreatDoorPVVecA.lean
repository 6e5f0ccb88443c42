/- The given program's vectors: operations on numbers, sums, differences, products, determinants, comparison. -/
import Derived.Test.YtegnalgjjmpcmaaGreatDoorPVVecV
import Derived.Test.YtegnalgjjmpcmaaGreatDoorPVEqV
import Derived.Test.YtegnalgjjmpcmaaGreatDoorPVI
namespace Go.Proofs.YtegnalgjjmpcmaaGreatDoor
open Go Go.RowKit
set_option maxRecDepth 100000
set_option linter.unusedVariables false
set_option linter.unusedSimpArgs false
theorem okRV_V {u : V3} (h : OkV u) : okRV (rvN u) = true := by
  unfold okRV rvN
  simp only [okR_rwN h.x, okR_rwN h.y, okR_rwN h.z]
  rfl
theorem smallR_N {k : Nat} {x : Nm} (h : BN k x) : smallR k (rwN x) := ⟨h.h0.size, h.h1.size, h.h2.size, h.h3.size, h.h4.size⟩
theorem smallRV_V {k : Nat} {u : V3} (h : BNV k u) : smallRV k (rvN u) := ⟨smallR_N h.x, smallR_N h.y, smallR_N h.z⟩
theorem vValid_yes (u : V3) (w : World) (hu : BNV 80000000 u) (ou : OkV u) : Calls Tryz.prog 37 #[vV u] w (RetV (.bool true) w) := by
  have := vValid_any (rvN u) w (smallRV_V hu)
  rwa [okRV_V ou] at this
theorem vOf_any (a b c : Int) (w : World) (a0 : -9223372036854775808 ≤ a) (a1 : a ≤ 9223372036854775807) (b0 : -9223372036854775808 ≤ b) (b1 : b ≤ 9223372036854775807) (c0 : -9223372036854775808 ≤ c) (c1 : c ≤ 9223372036854775807) : Calls Tryz.prog 44 #[.int .i64 a, .int .i64 b, .int .i64 c] w (RetV (vV ⟨intN a, intN b, intN c⟩) w) := by
  have H1 := fun w => fOf_any a w a0 a1
  have H2 := fun w => fOf_any b w b0 b1
  have H3 := fun w => fOf_any c w c0 c1
  generalize intN a = x at *
  generalize intN b = y at *
  generalize intN c = z at *
  exact vm_pure kr Tryz.func44 rfl [.int .i64 a, .int .i64 b, .int .i64 c] nle [] [] [cV (H1), cV (H2), cV (H3)]
theorem vOf_zero (w : World) : Calls Tryz.prog 44 #[.int .i64 0, .int .i64 0, .int .i64 0] w (RetV (vV zV) w) := vOf_any 0 0 0 w (by omega) (by omega) (by omega) (by omega) (by omega) (by omega)
theorem von_Add (u v : V3) (w : World) (hu : BNV 30000000 u) (hv : BNV 30000000 v) (ou : OkV u) (ov : OkV v) : Calls Tryz.prog 90 #[.agg #[.func (.func 50) #[] #[]], vV u, vV v] w (RetV (vV (addV u v)) w) := by
  have V1 := fun w => vValid_yes u w (hu.mono (by omega)) ou
  have V2 := fun w => vValid_yes v w (hv.mono (by omega)) ov
  have A1 := fun w => fAdd_any u.x v.x w hu.x hv.x ou.x ov.x
  have A2 := fun w => fAdd_any u.y v.y w hu.y hv.y ou.y ov.y
  have A3 := fun w => fAdd_any u.z v.z w hu.z hv.z ou.z ov.z
  unfold addV
  generalize addN u.x v.x = a at *
  generalize addN u.y v.y = b at *
  generalize addN u.z v.z = c at *
  exact vm_pure kr Tryz.func90 rfl [.agg #[.func (.func 50) #[] #[]], vV u, vV v] nle [] [.f, .f, .f, .f, .f] [cV (V1), cV (V2), cV (A1), cV (A2), cV (A3)]
theorem von_Add1 (r s : Rv) (w : World) (hr : smallRV 80000000 r) (h : okRV r = false) : Calls Tryz.prog 90 #[.agg #[.func (.func 50) #[] #[]], vRV r, vRV s] w (RetV vZV w) := by
  have V1 := fun w => vValid_no r w hr h
  exact vm_pure kr Tryz.func90 rfl [.agg #[.func (.func 50) #[] #[]], vRV r, vRV s] nle [] [.t, .t, .t, .t, .t] [cV (V1)]
theorem von_Add2 (r s : Rv) (w : World) (hr : smallRV 80000000 r) (hs : smallRV 80000000 s) (h : okRV r = true) (h2 : okRV s = false) : Calls Tryz.prog 90 #[.agg #[.func (.func 50) #[] #[]], vRV r, vRV s] w (RetV vZV w) := by
  have V1 := fun w => vValid_any r w hr
  rw [h] at V1
  have V2 := fun w => vValid_no s w hs h2
  exact vm_pure kr Tryz.func90 rfl [.agg #[.func (.func 50) #[] #[]], vRV r, vRV s] nle [] [.f, .f, .f, .f, .t] [cV (V1), cV (V2)]
theorem von_Sub (u v : V3) (w : World) (hu : BNV 30000000 u) (hv : BNV 30000000 v) (ou : OkV u) (ov : OkV v) : Calls Tryz.prog 90 #[.agg #[.func (.func 51) #[] #[]], vV u, vV v] w (RetV (vV (subV u v)) w) := by
  have V1 := fun w => vValid_yes u w (hu.mono (by omega)) ou
  have V2 := fun w => vValid_yes v w (hv.mono (by omega)) ov
  have A1 := fun w => fSub_any u.x v.x w hu.x hv.x ou.x ov.x
  have A2 := fun w => fSub_any u.y v.y w hu.y hv.y ou.y ov.y
  have A3 := fun w => fSub_any u.z v.z w hu.z hv.z ou.z ov.z
  unfold subV
  generalize subN u.x v.x = a at *
  generalize subN u.y v.y = b at *
  generalize subN u.z v.z = c at *
  exact vm_pure kr Tryz.func90 rfl [.agg #[.func (.func 51) #[] #[]], vV u, vV v] nle [] [.f, .f, .f, .f, .f] [cV (V1), cV (V2), cV (A1), cV (A2), cV (A3)]
theorem von_Sub1 (r s : Rv) (w : World) (hr : smallRV 80000000 r) (h : okRV r = false) : Calls Tryz.prog 90 #[.agg #[.func (.func 51) #[] #[]], vRV r, vRV s] w (RetV vZV w) := by
  have V1 := fun w => vValid_no r w hr h
  exact vm_pure kr Tryz.func90 rfl [.agg #[.func (.func 51) #[] #[]], vRV r, vRV s] nle [] [.t, .t, .t, .t, .t] [cV (V1)]
theorem von_Sub2 (r s : Rv) (w : World) (hr : smallRV 80000000 r) (hs : smallRV 80000000 s) (h : okRV r = true) (h2 : okRV s = false) : Calls Tryz.prog 90 #[.agg #[.func (.func 51) #[] #[]], vRV r, vRV s] w (RetV vZV w) := by
  have V1 := fun w => vValid_any r w hr
  rw [h] at V1
  have V2 := fun w => vValid_no s w hs h2
  exact vm_pure kr Tryz.func90 rfl [.agg #[.func (.func 51) #[] #[]], vRV r, vRV s] nle [] [.f, .f, .f, .f, .t] [cV (V1), cV (V2)]
theorem von_Mul (u v : V3) (w : World) (hu : BNV 30000000 u) (hv : BNV 30000000 v) (ou : OkV u) (ov : OkV v) : Calls Tryz.prog 90 #[.agg #[.func (.func 52) #[] #[]], vV u, vV v] w (RetV (vV (mulV u v)) w) := by
  have V1 := fun w => vValid_yes u w (hu.mono (by omega)) ou
  have V2 := fun w => vValid_yes v w (hv.mono (by omega)) ov
  have A1 := fun w => fMul_any u.x v.x w hu.x hv.x ou.x ov.x
  have A2 := fun w => fMul_any u.y v.y w hu.y hv.y ou.y ov.y
  have A3 := fun w => fMul_any u.z v.z w hu.z hv.z ou.z ov.z
  unfold mulV
  generalize mulN u.x v.x = a at *
  generalize mulN u.y v.y = b at *
  generalize mulN u.z v.z = c at *
  exact vm_pure kr Tryz.func90 rfl [.agg #[.func (.func 52) #[] #[]], vV u, vV v] nle [] [.f, .f, .f, .f, .f] [cV (V1), cV (V2), cV (A1), cV (A2), cV (A3)]
theorem von_Mul1 (r s : Rv) (w : World) (hr : smallRV 80000000 r) (h : okRV r = false) : Calls Tryz.prog 90 #[.agg #[.func (.func 52) #[] #[]], vRV r, vRV s] w (RetV vZV w) := by
  have V1 := fun w => vValid_no r w hr h
  exact vm_pure kr Tryz.func90 rfl [.agg #[.func (.func 52) #[] #[]], vRV r, vRV s] nle [] [.t, .t, .t, .t, .t] [cV (V1)]
theorem von_Mul2 (r s : Rv) (w : World) (hr : smallRV 80000000 r) (hs : smallRV 80000000 s) (h : okRV r = true) (h2 : okRV s = false) : Calls Tryz.prog 90 #[.agg #[.func (.func 52) #[] #[]], vRV r, vRV s] w (RetV vZV w) := by
  have V1 := fun w => vValid_any r w hr
  rw [h] at V1
  have V2 := fun w => vValid_no s w hs h2
  exact vm_pure kr Tryz.func90 rfl [.agg #[.func (.func 52) #[] #[]], vRV r, vRV s] nle [] [.f, .f, .f, .f, .t] [cV (V1), cV (V2)]
theorem vAdd_any (u v : V3) (w : World) (hu : BNV 30000000 u) (hv : BNV 30000000 v) (ou : OkV u) (ov : OkV v) : Calls Tryz.prog 31 #[vV u, vV v] w (RetV (vV (addV u v)) w) := by
  have H := fun w => von_Add u v w hu hv ou ov
  generalize addV u v = l at *
  exact vm_pure kr Tryz.func31 rfl [vV u, vV v] nle [] [] [cV (H)]
theorem vAdd_bad (r s : Rv) (w : World) (H : ∀ w, Calls Tryz.prog 90 #[.agg #[.func (.func 50) #[] #[]], vRV r, vRV s] w (RetV vZV w)) : Calls Tryz.prog 31 #[vRV r, vRV s] w (RetV vZV w) := by
  exact vm_pure kr Tryz.func31 rfl [vRV r, vRV s] nle [] [] [cV (H)]
theorem vAdd_no1 (r s : Rv) (w : World) (hr : smallRV 80000000 r) (h : okRV r = false) : Calls Tryz.prog 31 #[vRV r, vRV s] w (RetV vZV w) := vAdd_bad r s w (fun w => von_Add1 r s w hr h)
theorem vAdd_no2 (r s : Rv) (w : World) (hr : smallRV 80000000 r) (hs : smallRV 80000000 s) (h : okRV r = true) (h2 : okRV s = false) : Calls Tryz.prog 31 #[vRV r, vRV s] w (RetV vZV w) := vAdd_bad r s w (fun w => von_Add2 r s w hr hs h h2)
theorem vSub_any (u v : V3) (w : World) (hu : BNV 30000000 u) (hv : BNV 30000000 v) (ou : OkV u) (ov : OkV v) : Calls Tryz.prog 36 #[vV u, vV v] w (RetV (vV (subV u v)) w) := by
  have H := fun w => von_Sub u v w hu hv ou ov
  generalize subV u v = l at *
  exact vm_pure kr Tryz.func36 rfl [vV u, vV v] nle [] [] [cV (H)]
theorem vSub_bad (r s : Rv) (w : World) (H : ∀ w, Calls Tryz.prog 90 #[.agg #[.func (.func 51) #[] #[]], vRV r, vRV s] w (RetV vZV w)) : Calls Tryz.prog 36 #[vRV r, vRV s] w (RetV vZV w) := by
  exact vm_pure kr Tryz.func36 rfl [vRV r, vRV s] nle [] [] [cV (H)]
theorem vSub_no1 (r s : Rv) (w : World) (hr : smallRV 80000000 r) (h : okRV r = false) : Calls Tryz.prog 36 #[vRV r, vRV s] w (RetV vZV w) := vSub_bad r s w (fun w => von_Sub1 r s w hr h)
theorem vSub_no2 (r s : Rv) (w : World) (hr : smallRV 80000000 r) (hs : smallRV 80000000 s) (h : okRV r = true) (h2 : okRV s = false) : Calls Tryz.prog 36 #[vRV r, vRV s] w (RetV vZV w) := vSub_bad r s w (fun w => von_Sub2 r s w hr hs h h2)
theorem zN_bn {k : Nat} (hk : 1 ≤ k) : BN k zN := (BN.int (k := 1) (Bd.zero 1) (by omega)).mono hk
theorem zV_bn {k : Nat} (hk : 1 ≤ k) : BNV k zV := ⟨zN_bn hk, zN_bn hk, zN_bn hk⟩
theorem vNeg_any (u : V3) (w : World) (hu : BNV 30000000 u) (ou : OkV u) : Calls Tryz.prog 33 #[vV u] w (RetV (vV (negV u)) w) := by
  have O := vOf_zero
  have S := fun w => vSub_any zV u w (zV_bn (by omega)) hu zV_ok ou
  rw [negV_eq_sub ou] at S
  generalize negV u = l at *
  generalize zV = z at *
  exact vm_pure kr Tryz.func33 rfl [vV u] nle [] [] [cV (O), cV (S)]
theorem vNeg_no (r : Rv) (w : World) (hr : smallRV 80000000 r) (h : okRV r = false) : Calls Tryz.prog 33 #[vRV r] w (RetV vZV w) := by
  have O := vOf_zero
  have S := fun w => vSub_no2 (rvN zV) r w (smallRV_V (zV_bn (by omega))) hr (okRV_V zV_ok) h
  rw [← vV_rv] at S
  generalize zV = z at *
  exact vm_pure kr Tryz.func33 rfl [vRV r] nle [] [] [cV (O), cV (S)]
theorem vScale_any (u : V3) (k : Nm) (w : World) (hu : BNV 30000000 u) (hk : BN 30000000 k) (ou : OkV u) (ok : Ok k) : Calls Tryz.prog 21 #[vV u, vN k] w (RetV (vV (scaV u k)) w) := by
  have H := fun w => von_Mul u ⟨k, k, k⟩ w hu ⟨hk, hk, hk⟩ ou ⟨ok, ok, ok⟩
  rw [show mulV u ⟨k, k, k⟩ = scaV u k from rfl] at H
  generalize scaV u k = l at *
  exact vm_pure kr Tryz.func21 rfl [vV u, .agg #[.bool (sg k.c0), .string (mg k.c0), .bool (sg k.c1), .string (mg k.c1), .bool (sg k.c2), .string (mg k.c2), .bool (sg k.c3), .string (mg k.c3), .bool (sg k.d), .string (mg k.d)]] nle [] [] [cV (H)]
theorem vScale_bad (r : Rv) (k : Rw) (w : World) (H : ∀ w, Calls Tryz.prog 90 #[.agg #[.func (.func 52) #[] #[]], vRV r, vRV ⟨k, k, k⟩] w (RetV vZV w)) : Calls Tryz.prog 21 #[vRV r, vR k] w (RetV vZV w) := by
  exact vm_pure kr Tryz.func21 rfl [vRV r, vR k] nle [] [] [cV (H)]
theorem vScale_no1 (r : Rv) (k : Rw) (w : World) (hr : smallRV 80000000 r) (h : okRV r = false) : Calls Tryz.prog 21 #[vRV r, vR k] w (RetV vZV w) := vScale_bad r k w (fun w => von_Mul1 r _ w hr h)
theorem vScale_no2 (r : Rv) (k : Rw) (w : World) (hr : smallRV 80000000 r) (hk : smallR 80000000 k) (h : okRV r = true) (h2 : okR k = false) : Calls Tryz.prog 21 #[vRV r, vR k] w (RetV vZV w) :=
  vScale_bad r k w (fun w => von_Mul2 r _ w hr ⟨hk, hk, hk⟩ h (by unfold okRV; simp [h2]))
theorem vDot_any (u v : V3) (w : World) (hu : BNV 7000000 u) (hv : BNV 7000000 v) (ou : OkV u) (ov : OkV v) : Calls Tryz.prog 23 #[vV u, vV v] w (RetV (vN (dotV u v)) w) := by
  have H := fun w => von_Mul u v w (hu.mono (by omega)) (hv.mono (by omega)) ou ov
  have bx := hu.x.mulN hv.x ou.x.ne ov.x.ne
  have by' := hu.y.mulN hv.y ou.y.ne ov.y.ne
  have bz := hu.z.mulN hv.z ou.z.ne ov.z.ne
  have oxy := addN_ok (mulN_ok ou.x ov.x) (mulN_ok ou.y ov.y)
  have bxy := bx.addN by' (mulN_ok ou.x ov.x).ne (mulN_ok ou.y ov.y).ne
  have A1 := fun w => fAdd_any _ _ w (bx.mono (by omega)) (by'.mono (by omega)) (mulN_ok ou.x ov.x) (mulN_ok ou.y ov.y)
  have A2 := fun w => fAdd_any _ _ w (bxy.mono (by omega)) (bz.mono (by omega)) oxy (mulN_ok ou.z ov.z)
  unfold mulV at H
  unfold dotV
  clear hu hv bx by' bz bxy oxy
  generalize mulN u.x v.x = a at *
  generalize mulN u.y v.y = b at *
  generalize mulN u.z v.z = c at *
  generalize addN a b = d at *
  generalize addN d c = e at *
  exact vm_pure kr Tryz.func23 rfl [vV u, vV v] nle [] [] [cV (H), cV (A1), cV (A2)]
theorem vDot_bad (r s : Rv) (w : World) (H : ∀ w, Calls Tryz.prog 90 #[.agg #[.func (.func 52) #[] #[]], vRV r, vRV s] w (RetV vZV w)) : Calls Tryz.prog 23 #[vRV r, vRV s] w (RetV vZ w) := by
  have A := fun w => fAdd_no1 rZ rZ w rZ_small rZ_no
  exact vm_pure kr Tryz.func23 rfl [vRV r, vRV s] nle [] [] [cV (H), cV (A), cV (A)]
theorem vDot_no1 (r s : Rv) (w : World) (hr : smallRV 80000000 r) (h : okRV r = false) : Calls Tryz.prog 23 #[vRV r, vRV s] w (RetV vZ w) := vDot_bad r s w (fun w => von_Mul1 r s w hr h)
theorem vDot_no2 (r s : Rv) (w : World) (hr : smallRV 80000000 r) (hs : smallRV 80000000 s) (h : okRV r = true) (h2 : okRV s = false) : Calls Tryz.prog 23 #[vRV r, vRV s] w (RetV vZ w) := vDot_bad r s w (fun w => von_Mul2 r s w hr hs h h2)
theorem vminor_any (a b c d : Nm) (w : World) (ha : BN 7000000 a) (hb : BN 7000000 b) (hc : BN 7000000 c) (hd : BN 7000000 d) (oa : Ok a) (ob : Ok b) (oc : Ok c) (od : Ok d) : Calls Tryz.prog 88 #[vN a, vN b, vN c, vN d] w (RetV (vN (minN a b c d)) w) := by
  have M1 := fun w => fMul_any a d w (ha.mono (by omega)) (hd.mono (by omega)) oa od
  have M2 := fun w => fMul_any b c w (hb.mono (by omega)) (hc.mono (by omega)) ob oc
  have S := fun w => fSub_any _ _ w ((ha.mulN hd oa.ne od.ne).mono (by omega)) ((hb.mulN hc ob.ne oc.ne).mono (by omega)) (mulN_ok oa od) (mulN_ok ob oc)
  unfold minN
  clear ha hb hc hd
  generalize mulN a d = x at *
  generalize mulN b c = y at *
  generalize subN x y = z at *
  exact vm_pure kr Tryz.func88 rfl [.agg #[.bool (sg a.c0), .string (mg a.c0), .bool (sg a.c1), .string (mg a.c1), .bool (sg a.c2), .string (mg a.c2), .bool (sg a.c3), .string (mg a.c3), .bool (sg a.d), .string (mg a.d)], .agg #[.bool (sg b.c0), .string (mg b.c0), .bool (sg b.c1), .string (mg b.c1), .bool (sg b.c2), .string (mg b.c2), .bool (sg b.c3), .string (mg b.c3), .bool (sg b.d), .string (mg b.d)], .agg #[.bool (sg c.c0), .string (mg c.c0), .bool (sg c.c1), .string (mg c.c1), .bool (sg c.c2), .string (mg c.c2), .bool (sg c.c3), .string (mg c.c3), .bool (sg c.d), .string (mg c.d)], .agg #[.bool (sg d.c0), .string (mg d.c0), .bool (sg d.c1), .string (mg d.c1), .bool (sg d.c2), .string (mg d.c2), .bool (sg d.c3), .string (mg d.c3), .bool (sg d.d), .string (mg d.d)]] nle [] [] [cV (M1), cV (M2), cV (S)]
theorem vCross_any (u v : V3) (w : World) (hu : BNV 7000000 u) (hv : BNV 7000000 v) (ou : OkV u) (ov : OkV v) : Calls Tryz.prog 18 #[vV u, vV v] w (RetV (vV (crsV u v)) w) := by
  have V1 := fun w => vValid_yes u w (hu.mono (by omega)) ou
  have V2 := fun w => vValid_yes v w (hv.mono (by omega)) ov
  have M1 := fun w => vminor_any u.y u.z v.y v.z w hu.y hu.z hv.y hv.z ou.y ou.z ov.y ov.z
  have M2 := fun w => vminor_any u.z u.x v.z v.x w hu.z hu.x hv.z hv.x ou.z ou.x ov.z ov.x
  have M3 := fun w => vminor_any u.x u.y v.x v.y w hu.x hu.y hv.x hv.y ou.x ou.y ov.x ov.y
  unfold crsV
  clear hu hv
  generalize minN u.y u.z v.y v.z = a at *
  generalize minN u.z u.x v.z v.x = b at *
  generalize minN u.x u.y v.x v.y = c at *
  exact vm_pure kr Tryz.func18 rfl [vV u, vV v] nle [] [.f, .f, .f, .f, .f] [cV (V1), cV (V2), cV (M1), cV (M2), cV (M3)]
theorem vCross_no1 (r s : Rv) (w : World) (hr : smallRV 80000000 r) (h : okRV r = false) : Calls Tryz.prog 18 #[vRV r, vRV s] w (RetV vZV w) := by
  have V1 := fun w => vValid_no r w hr h
  exact vm_pure kr Tryz.func18 rfl [vRV r, vRV s] nle [] [.t, .t, .t, .t, .t] [cV (V1)]
theorem vCross_no2 (r s : Rv) (w : World) (hr : smallRV 80000000 r) (hs : smallRV 80000000 s) (h : okRV r = true) (h2 : okRV s = false) : Calls Tryz.prog 18 #[vRV r, vRV s] w (RetV vZV w) := by
  have V1 := fun w => vValid_any r w hr
  rw [h] at V1
  have V2 := fun w => vValid_no s w hs h2
  exact vm_pure kr Tryz.func18 rfl [vRV r, vRV s] nle [] [.f, .f, .f, .f, .t] [cV (V1), cV (V2)]
theorem BN.minN {k : Nat} {a b c d : Nm} (ha : BN k a) (hb : BN k b) (hc : BN k c) (hd : BN k d) (oa : Ok a) (ob : Ok b) (oc : Ok c) (od : Ok d) : BN (4 * k + 11) (minN a b c d) := ((ha.mulN hd oa.ne od.ne).subN (hb.mulN hc ob.ne oc.ne) (mulN_ok oa od).ne (mulN_ok ob oc).ne).mono (by omega)
theorem BNV.crs {k : Nat} {u v : V3} (hu : BNV k u) (hv : BNV k v) (ou : OkV u) (ov : OkV v) : BNV (4 * k + 11) (crsV u v) :=
  ⟨BN.minN hu.y hu.z hv.y hv.z ou.y ou.z ov.y ov.z, BN.minN hu.z hu.x hv.z hv.x ou.z ou.x ov.z ov.x, BN.minN hu.x hu.y hv.x hv.y ou.x ou.y ov.x ov.y⟩
theorem BN.dotV {k : Nat} {u v : V3} (hu : BNV k u) (hv : BNV k v) (ou : OkV u) (ov : OkV v) : BN (8 * k + 30) (dotV u v) := by
  have bx := hu.x.mulN hv.x ou.x.ne ov.x.ne
  have by' := hu.y.mulN hv.y ou.y.ne ov.y.ne
  have bz := hu.z.mulN hv.z ou.z.ne ov.z.ne
  have bxy := bx.addN by' (mulN_ok ou.x ov.x).ne (mulN_ok ou.y ov.y).ne
  exact (bxy.addN (bz.mono (by omega)) (addN_ok (mulN_ok ou.x ov.x) (mulN_ok ou.y ov.y)).ne (mulN_ok ou.z ov.z).ne).mono (by omega)
theorem BNV.addV {k : Nat} {u v : V3} (hu : BNV k u) (hv : BNV k v) (ou : OkV u) (ov : OkV v) : BNV (2 * k + 1) (addV u v) := ⟨hu.x.addN hv.x ou.x.ne ov.x.ne, hu.y.addN hv.y ou.y.ne ov.y.ne, hu.z.addN hv.z ou.z.ne ov.z.ne⟩
theorem BNV.scaV {k : Nat} {u : V3} {c : Nm} (hu : BNV k u) (hc : BN k c) (ou : OkV u) (oc : Ok c) : BNV (2 * k + 5) (scaV u c) := ⟨hu.x.mulN hc ou.x.ne oc.ne, hu.y.mulN hc ou.y.ne oc.ne, hu.z.mulN hc ou.z.ne oc.ne⟩
theorem BNV.trnV {k : Nat} {c s : Nm} {u : V3} (hc : BN k c) (hs : BN k s) (hu : BNV k u) (oc : Ok c) (os : Ok s) (ou : OkV u) : BNV (4 * k + 11) (trnV c s u) :=
  ⟨((hc.mulN hu.x oc.ne ou.x.ne).subN (hs.mulN hu.y os.ne ou.y.ne) (mulN_ok oc ou.x).ne (mulN_ok os ou.y).ne).mono (by omega), ((hs.mulN hu.x os.ne ou.x.ne).addN (hc.mulN hu.y oc.ne ou.y.ne) (mulN_ok os ou.x).ne (mulN_ok oc ou.y).ne).mono (by omega), hu.z.mono (by omega)⟩
theorem vDet_any (u v t : V3) (w : World) (hu : BNV 1000000 u) (hv : BNV 1000000 v) (ht : BNV 1000000 t) (ou : OkV u) (ov : OkV v) (ot : OkV t) : Calls Tryz.prog 19 #[vV u, vV v, vV t] w (RetV (vN (detV u v t)) w) := by
  have C := fun w => vCross_any v t w (hv.mono (by omega)) (ht.mono (by omega)) ov ot
  have D := fun w => vDot_any u (crsV v t) w (hu.mono (by omega)) ((hv.crs ht ov ot).mono (by omega)) ou (crsV_ok ov ot)
  unfold detV
  clear hu hv ht
  generalize crsV v t = c at *
  generalize dotV u c = d at *
  exact vm_pure kr Tryz.func19 rfl [vV u, vV v, vV t] nle [] [] [cV (C), cV (D)]
theorem vDet_bad (r s t c : Rv) (w : World) (C : ∀ w, Calls Tryz.prog 18 #[vRV s, vRV t] w (RetV (vRV c) w)) (D : ∀ w, Calls Tryz.prog 23 #[vRV r, vRV c] w (RetV vZ w)) : Calls Tryz.prog 19 #[vRV r, vRV s, vRV t] w (RetV vZ w) := by
  exact vm_pure kr Tryz.func19 rfl [vRV r, vRV s, vRV t] nle [] [] [cV (C), cV (D)]
theorem vZero_yes (r : Rv) (w : World) (h : r = rvN zV) : Calls Tryz.prog 35 #[vRV r] w (RetV (.bool true) w) := by
  have O := vOf_zero
  rw [vV_rv, ← h] at O
  exact vm_pure kr Tryz.func35 rfl [vRV r] nle [(1, 2)] [] [cV (O), lV _ (.bool true) (fun w hC => eqV_same (r) (.tmp 3) (.tmp 4) w)]
theorem vZero_no (r : Rv) (w : World) (h : r ≠ rvN zV) : Calls Tryz.prog 35 #[vRV r] w (RetV (.bool false) w) := by
  have O := vOf_zero
  rw [vV_rv] at O
  generalize rvN zV = z at *
  exact vm_pure kr Tryz.func35 rfl [vRV r] nle [(1, 2)] [] [cV (O), lV _ (.bool false) (fun w hC => eqV_diff (r) (z) (h) (.tmp 3) (.tmp 4) w)]
end Go.Proofs.YtegnalgjjmpcmaaGreatDoor
