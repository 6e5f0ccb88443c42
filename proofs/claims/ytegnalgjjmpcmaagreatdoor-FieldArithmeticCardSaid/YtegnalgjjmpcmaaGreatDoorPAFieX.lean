/- The reference's field: quotients. -/
import Derived.Test.YtegnalgjjmpcmaaGreatDoorPAFieV
import Derived.Test.YtegnalgjjmpcmaaGreatDoorPADivG
namespace Go.Proofs.YtegnalgjjmpcmaaGreatDoor
open Go Go.RowKit
set_option linter.unusedVariables false
set_option linter.unusedSimpArgs false

set_option maxRecDepth 100000 in
theorem gDiv_core (x y l : Nm) (s n1 n2 n3 a0 a1 a2 a3 b0 b1 b2 b3 e0 e1 e2 e3 m0 m1 m2 m3 u0 u1 u2 u3 v0 v1 v2 v3 md : Int) (w : World)
    (V1 : ∀ w, Calls Tryz.prog 57 #[vN x] w (RetV (.bool true) w)) (V2 : ∀ w, Calls Tryz.prog 57 #[vN y] w (RetV (.bool true) w))
    (S : ∀ w, Calls Tryz.prog 70 #[vN y] w (RetN s w)) (hs : (s == 0) = false)
    (N1 : ∀ w, Calls Tryz.prog 97 #[vI y.c1] w (RetI n1 w)) (N2 : ∀ w, Calls Tryz.prog 97 #[vI y.c2] w (RetI n2 w)) (N3 : ∀ w, Calls Tryz.prog 97 #[vI y.c3] w (RetI n3 w))
    (T1 : ∀ w, Calls Tryz.prog 95 #[.agg #[.bool (sg 1), .string (mg 1), .bool false, .string ⟨#[]⟩, .bool false, .string ⟨#[]⟩, .bool false, .string ⟨#[]⟩], vA4 y.c0 n1 y.c2 n3] w (RetV (vA4 a0 a1 a2 a3) w))
    (T2 : ∀ w, Calls Tryz.prog 95 #[vA4 a0 a1 a2 a3, vA4 y.c0 y.c1 n2 n3] w (RetV (vA4 b0 b1 b2 b3) w))
    (T3 : ∀ w, Calls Tryz.prog 95 #[vA4 b0 b1 b2 b3, vA4 y.c0 n1 n2 y.c3] w (RetV (vA4 e0 e1 e2 e3) w))
    (T4 : ∀ w, Calls Tryz.prog 95 #[vA4 y.c0 y.c1 y.c2 y.c3, vA4 e0 e1 e2 e3] w (RetV (vA4 m0 m1 m2 m3) w))
    (T5 : ∀ w, Calls Tryz.prog 95 #[vA4 x.c0 x.c1 x.c2 x.c3, vA4 e0 e1 e2 e3] w (RetV (vA4 u0 u1 u2 u3) w))
    (M0 : ∀ w, Calls Tryz.prog 96 #[vI u0, vI y.d] w (RetI v0 w)) (M1 : ∀ w, Calls Tryz.prog 96 #[vI u1, vI y.d] w (RetI v1 w)) (M2 : ∀ w, Calls Tryz.prog 96 #[vI u2, vI y.d] w (RetI v2 w)) (M3 : ∀ w, Calls Tryz.prog 96 #[vI u3, vI y.d] w (RetI v3 w))
    (M4 : ∀ w, Calls Tryz.prog 96 #[vI m0, vI x.d] w (RetI md w)) (R : ∀ w, Calls Tryz.prog 94 #[vA4 v0 v1 v2 v3, vI md] w (RetV (vN l) w)) :
    Calls Tryz.prog 49 #[vN x, vN y] w (RetV (.tuple #[vN l, .int .i64 0]) w) := by
  have O := fun w => ROf_any 1 w (by omega) (by omega)
  exact vm_pure (by kernel_rfl) Tryz.func49 rfl [.agg #[.bool (sg x.c0), .string (mg x.c0), .bool (sg x.c1), .string (mg x.c1), .bool (sg x.c2), .string (mg x.c2), .bool (sg x.c3), .string (mg x.c3), .bool (sg x.d), .string (mg x.d)], .agg #[.bool (sg y.c0), .string (mg y.c0), .bool (sg y.c1), .string (mg y.c1), .bool (sg y.c2), .string (mg y.c2), .bool (sg y.c3), .string (mg y.c3), .bool (sg y.d), .string (mg y.d)]] (Nat.le_of_ble_eq_true (by kernel_rfl)) [] [.f, .f, .f, .f, .f, (.p _ false hs), .t, .t, .f, .f, .f, .f, .f, .f, .t, .t, .t, .t, .t, .t, .t, .t, .f, .f, .f, .f, .f, .f, .t, .t, .t, .t, .t, .t, .t, .f, .t, .t, .f, .f, .f, .f, .f, .f, .t, .f, .f, .f, .f, .f, .f, .t, .f, .f, .f, .f, .f, .t, .t, .f, .f, .f, .f, .f, .t, .f, .t, .t, .f, .f, .f, .f, .f, .f, .t, .t, .t, .t, .t, .t, .t, .t, .f, .f, .f, .f, .f, .t, .t, .f, .f, .f, .f, .f, .f, .f, .f, .t, .t, .t, .t, .f] [cV (V1), cV (V2), cV (S), cV (O), cV (N1), cV (N3), cV (T1), cV (N2), cV (N3), cV (T2), cV (N1), cV (N2), cV (T3), cV (T4), cV (T5), cV (M0), cV (M1), cV (M2), cV (M3), cV (M4), cV (R)] (fun r => by kernel_rfl) (fun r => by kernel_rfl)
set_option maxRecDepth 100000 in
theorem gDiv_any (x y : Nm) (w : World) (hx : BN 1000000 x) (hy : BN 1000000 y) (ox : Ok x) (oy : Ok y) (h : y ≠ zN) : Calls Tryz.prog 49 #[vN x, vN y] w (RetV (.tuple #[vN (divN x y), .int .i64 0]) w) := by
  have V1 := fun w => gValid_yes x w (hx.mono (by omega)) ox
  have V2 := fun w => gValid_yes y w (hy.mono (by omega)) oy
  have S := fun w => gSign_any y w (hy.mono (by omega)) oy
  have hs : (sgnN y == 0) = false := by rw [beq_eq_false_iff_ne]; exact ne_zN oy h
  have N1 := fun w => RNeg_any y.c1 w
  have N2 := fun w => RNeg_any y.c2 w
  have N3 := fun w => RNeg_any y.c3 w
  have bX : BN 1000000 (quN x) := ⟨hx.h0, hx.h1, hx.h2, hx.h3, Bd.one (by omega)⟩
  have bY : BN 1000000 (quN y) := ⟨hy.h0, hy.h1, hy.h2, hy.h3, Bd.one (by omega)⟩
  have b1 : BN 1000000 ⟨1, 0, 0, 0, 1⟩ := ⟨Bd.one (by omega), Bd.zero _, Bd.zero _, Bd.zero _, Bd.one (by omega)⟩
  obtain ⟨C1, e1⟩ : ∃ C, C = mulR ⟨1, 0, 0, 0, 1⟩ (cj1 (quN y)) := ⟨_, rfl⟩
  obtain ⟨C2, e2⟩ : ∃ C, C = mulR C1 (cj2 (quN y)) := ⟨_, rfl⟩
  obtain ⟨C3, e3⟩ : ∃ C, C = mulR C2 (cj1 (cj2 (quN y))) := ⟨_, rfl⟩
  have eC : gC y = C3 := by rw [e3, e2, e1]; rfl
  obtain ⟨N, eN⟩ : ∃ C, C = mulR (quN y) C3 := ⟨_, rfl⟩
  obtain ⟨U, eU⟩ : ∃ C, C = mulR (quN x) C3 := ⟨_, rfl⟩
  have c1 : BN 2000005 C1 := by rw [e1]; exact (b1.mulR bY.cj1).mono (by omega)
  have c2 : BN 4000015 C2 := by rw [e2]; exact (c1.mulR (bY.cj2.mono (by omega))).mono (by omega)
  have c3 : BN 8000035 C3 := by rw [e3]; exact (c2.mulR (bY.cj2.cj1.mono (by omega))).mono (by omega)
  have bn : BN 17000000 N := by rw [eN]; exact ((bY.mono (show _ ≤ 8000035 by omega)).mulR c3).mono (by omega)
  have bu : BN 17000000 U := by rw [eU]; exact ((bX.mono (show _ ≤ 8000035 by omega)).mulR c3).mono (by omega)
  have T1 := fun w => gtimes_N ⟨1, 0, 0, 0, 1⟩ (cj1 (quN y)) w (b1.mono (by omega)) (bY.cj1.mono (by omega))
  have T2 := fun w => gtimes_N C1 (cj2 (quN y)) w (c1.mono (by omega)) (bY.cj2.mono (by omega))
  have T3 := fun w => gtimes_N C2 (cj1 (cj2 (quN y))) w (c2.mono (by omega)) (bY.cj2.cj1.mono (by omega))
  have T4 := fun w => gtimes_N (quN y) C3 w (bY.mono (by omega)) (c3.mono (by omega))
  have T5 := fun w => gtimes_N (quN x) C3 w (bX.mono (by omega)) (c3.mono (by omega))
  rw [← e1] at T1
  rw [← e2] at T2
  rw [← e3] at T3
  rw [← eN] at T4
  rw [← eU] at T5
  have M0 := fun w => RMul_any U.c0 y.d w (bu.h0.mono (by omega)) (hy.h4.mono (by omega))
  have M1 := fun w => RMul_any U.c1 y.d w (bu.h1.mono (by omega)) (hy.h4.mono (by omega))
  have M2 := fun w => RMul_any U.c2 y.d w (bu.h2.mono (by omega)) (hy.h4.mono (by omega))
  have M3 := fun w => RMul_any U.c3 y.d w (bu.h3.mono (by omega)) (hy.h4.mono (by omega))
  have M4 := fun w => RMul_any N.c0 x.d w (bn.h0.mono (by omega)) (hx.h4.mono (by omega))
  have bR : BN 80000000 ⟨U.c0 * y.d, U.c1 * y.d, U.c2 * y.d, U.c3 * y.d, N.c0 * x.d⟩ := ⟨((bu.h0.mul hy.h4).mono (by omega)), ((bu.h1.mul hy.h4).mono (by omega)), ((bu.h2.mul hy.h4).mono (by omega)), ((bu.h3.mul hy.h4).mono (by omega)), ((bn.h0.mul hx.h4).mono (by omega))⟩
  have eR : divR x y = ⟨U.c0 * y.d, U.c1 * y.d, U.c2 * y.d, U.c3 * y.d, N.c0 * x.d⟩ := by unfold divR gUp gNorm; rw [eC, ← eU, ← eN]
  have hd := divR_ne ox oy h
  have hl := divR_low ox oy h
  rw [eR] at hd hl
  have R := fun w => greduced_any _ w bR hd
  rw [hl] at R
  clear hl hd eR bR bn bu c1 c2 c3 eU eN eC e1 e2 e3 bX bY b1
  simp only [cj1, cj2, quN] at T1 T2 T3 T4 T5
  have T1' : ∀ w, Calls Tryz.prog 95 #[.agg #[.bool (sg 1), .string (mg 1), .bool false, .string ⟨#[]⟩, .bool false, .string ⟨#[]⟩, .bool false, .string ⟨#[]⟩], vA4 y.c0 (-y.c1) y.c2 (-y.c3)] w (RetV (vA4 C1.c0 C1.c1 C1.c2 C1.c3) w) := fun w => by
    have h1 : vA4 1 0 0 0 = .agg #[.bool (sg 1), .string (mg 1), .bool false, .string ⟨#[]⟩, .bool false, .string ⟨#[]⟩, .bool false, .string ⟨#[]⟩] := by unfold vA4; rw [sg0, mg0]
    rw [← h1]
    exact T1 w
  simp only [Int.neg_neg] at T3
  exact gDiv_core x y (divN x y) (sgnN y) (-y.c1) (-y.c2) (-y.c3) C1.c0 C1.c1 C1.c2 C1.c3 C2.c0 C2.c1 C2.c2 C2.c3 C3.c0 C3.c1 C3.c2 C3.c3 N.c0 N.c1 N.c2 N.c3 U.c0 U.c1 U.c2 U.c3 (U.c0 * y.d) (U.c1 * y.d) (U.c2 * y.d) (U.c3 * y.d) (N.c0 * x.d) w V1 V2 S hs N1 N2 N3 T1' T2 T3 T4 T5 M0 M1 M2 M3 M4 R
theorem gDiv_zero (x : Nm) (w : World) (hx : BN 1000000 x) (ox : Ok x) : Calls Tryz.prog 49 #[vN x, vN zN] w (RetV (.tuple #[vZ, .int .i64 10]) w) := by
  have V1 := fun w => gValid_yes x w (hx.mono (by omega)) ox
  have bz : BN 1 zN := ⟨Bd.zero _, Bd.zero _, Bd.zero _, Bd.zero _, Bd.one (by omega)⟩
  have V2 := fun w => gValid_yes zN w (bz.mono (by omega)) zN_ok
  have S := fun w => gSign_any zN w (bz.mono (by omega)) zN_ok
  rw [show sgnN zN = 0 from (sgn_zero zN_ok).2 rfl] at S
  generalize zN = z at *
  exact vm_pure (by kernel_rfl) Tryz.func49 rfl [.agg #[.bool (sg x.c0), .string (mg x.c0), .bool (sg x.c1), .string (mg x.c1), .bool (sg x.c2), .string (mg x.c2), .bool (sg x.c3), .string (mg x.c3), .bool (sg x.d), .string (mg x.d)], .agg #[.bool (sg z.c0), .string (mg z.c0), .bool (sg z.c1), .string (mg z.c1), .bool (sg z.c2), .string (mg z.c2), .bool (sg z.c3), .string (mg z.c3), .bool (sg z.d), .string (mg z.d)]] (Nat.le_of_ble_eq_true (by kernel_rfl)) [] [.f, .f, .f, .f, .f, .t] [cV (V1), cV (V2), cV (S)] (fun r => by kernel_rfl) (fun r => by kernel_rfl)
theorem gDiv_no1 (r s : Rw) (w : World) (hr : smallR 80000000 r) (h : okR r = false) : Calls Tryz.prog 49 #[vR r, vR s] w (RetV (.tuple #[vZ, .int .i64 1]) w) := by
  have V := fun w => gValid_no r w hr h
  exact vm_pure (by kernel_rfl) Tryz.func49 rfl [.agg #[.bool r.n0, .string r.s0, .bool r.n1, .string r.s1, .bool r.n2, .string r.s2, .bool r.n3, .string r.s3, .bool r.n4, .string r.s4], .agg #[.bool s.n0, .string s.s0, .bool s.n1, .string s.s1, .bool s.n2, .string s.s2, .bool s.n3, .string s.s3, .bool s.n4, .string s.s4]] (Nat.le_of_ble_eq_true (by kernel_rfl)) [] [.t, .t, .t, .t, .t] [cV (V)] (fun r => by kernel_rfl) (fun r => by kernel_rfl)
theorem gDiv_no2 (r s : Rw) (w : World) (hr : smallR 80000000 r) (hs : smallR 80000000 s) (h : okR r = true) (h2 : okR s = false) : Calls Tryz.prog 49 #[vR r, vR s] w (RetV (.tuple #[vZ, .int .i64 1]) w) := by
  have V1 := fun w => gValid_any r w hr
  rw [h] at V1
  have V2 := fun w => gValid_no s w hs h2
  exact vm_pure (by kernel_rfl) Tryz.func49 rfl [.agg #[.bool r.n0, .string r.s0, .bool r.n1, .string r.s1, .bool r.n2, .string r.s2, .bool r.n3, .string r.s3, .bool r.n4, .string r.s4], .agg #[.bool s.n0, .string s.s0, .bool s.n1, .string s.s1, .bool s.n2, .string s.s2, .bool s.n3, .string s.s3, .bool s.n4, .string s.s4]] (Nat.le_of_ble_eq_true (by kernel_rfl)) [] [.f, .f, .f, .f, .t] [cV (V1), cV (V2)] (fun r => by kernel_rfl) (fun r => by kernel_rfl)
end Go.Proofs.YtegnalgjjmpcmaaGreatDoor

