/- The vectors' laws: the document's example, which each checks first. -/
import Derived.Test.YtegnalgjjmpcmaaGreatDoorPVVecW
import Derived.Test.YtegnalgjjmpcmaaGreatDoorPVVecL
namespace Go.Proofs.YtegnalgjjmpcmaaGreatDoor
open Go Go.RowKit
set_option maxRecDepth 100000
set_option linter.unusedVariables false
set_option linter.unusedSimpArgs false
def e12 : Nm := ⟨0, 1, 0, 0, 2⟩
theorem vN_e12 : vN e12 = .agg #[.bool false, .string ⟨#[]⟩, .bool false, .string ⟨#[1]⟩, .bool false, .string ⟨#[]⟩, .bool false, .string ⟨#[]⟩, .bool false, .string ⟨#[2]⟩] := by kernel_rfl
theorem vN_z : vN zN = .agg #[.bool false, .string ⟨#[]⟩, .bool false, .string ⟨#[]⟩, .bool false, .string ⟨#[]⟩, .bool false, .string ⟨#[]⟩, .bool false, .string ⟨#[1]⟩] := by kernel_rfl
theorem vI_p2 : vI 2 = .agg #[.bool false, .string ⟨#[2]⟩] := by kernel_rfl
theorem it2 : strOf (Lib.itoa 2) = .string ⟨#[50]⟩ := by kernel_rfl
theorem exPrint12 (w : World) (ht : HasTab w) : Calls Tryz.prog 53 #[vN e12] w (RetV (.string ⟨#[49, 47, 50, 114, 50]⟩) w) := by
  have V := fun w => fValid_yes e12 w ((BN1 0 1 0 0 2 (by decide)).mono (by omega)) (ok_lit _ (by decide))
  have G := fun w => Gcd_any 1 2 w (bd1 _ (by omega) (by decide)) (bd1 _ (by omega) (by decide))
  have A1 := fun w => Abs_any 1 w
  have V1 := fun w => fover_any 1 1 w (bd1 _ (by omega) (by decide)) (bd1 _ (by omega) (by decide)) (by decide)
  have V2 := fun w => fover_any 2 1 w (bd1 _ (by omega) (by decide)) (bd1 _ (by omega) (by decide)) (by decide)
  have P1 := fun w' (hc : Chg [] w w') => Print_any 1 w' (bd1 _ (by omega) (by decide)) (ht.below (Chg.bl0 hc))
  have P2 := fun w' (hc : Chg [] w w') => Print_any 2 w' (bd1 _ (by omega) (by decide)) (ht.below (Chg.bl0 hc))
  have O := fun w => Of_any 1 w (by omega) (by omega)
  unfold RetI at G A1 V1 V2 O
  simp only [show ((Nat.gcd (Int.natAbs 1) (Int.natAbs 2) : Nat) : Int) = 1 from rfl, show ((Int.natAbs 1 : Nat) : Int) = 1 from rfl, show (1 : Int).fdiv 1 = 1 from rfl, show (2 : Int).fdiv 1 = 2 from rfl, vI_p1, vI_p2, it1, it2] at G A1 V1 V2 O P1 P2
  rw [vN_e12] at V ⊢
  exact vm_pure kr Tryz.func53 rfl [.agg #[.bool false, .string ⟨#[]⟩, .bool false, .string ⟨#[1]⟩, .bool false, .string ⟨#[]⟩, .bool false, .string ⟨#[]⟩, .bool false, .string ⟨#[2]⟩]] nle [] [.f, .t, .t, .t, .f, .t, .f, .f, .f, .f, .f, .f, .t, .t, .t, .t, .f, .f] [cV (V), cV (G), cV (A1), cV (V1), cV (V2), cW P1, cV (O), cW P2]
theorem exPrint0 (w : World) : Calls Tryz.prog 53 #[vN zN] w (RetV (.string ⟨#[48]⟩) w) := by
  have V := fun w => fValid_yes zN w ((BN1 0 0 0 0 1 (by decide)).mono (by omega)) zN_ok
  rw [vN_z] at V ⊢
  exact vm_pure kr Tryz.func53 rfl [.agg #[.bool false, .string ⟨#[]⟩, .bool false, .string ⟨#[]⟩, .bool false, .string ⟨#[]⟩, .bool false, .string ⟨#[]⟩, .bool false, .string ⟨#[1]⟩]] nle [] [.f, .t, .t, .t, .t, .t, .t, .t, .t, .f, .t] [cV (V)]
def dE : V3 := ⟨e12, e12, zN⟩
theorem dE_ok : OkV dE := ⟨ok_lit _ (by decide), ok_lit _ (by decide), zN_ok⟩
theorem dE_bn : BNV 1 dE := ⟨BN1 0 1 0 0 2 (by decide), BN1 0 1 0 0 2 (by decide), BN1 0 0 0 0 1 (by decide)⟩
theorem exVPrint (w : World) (ht : HasTab w) : Calls Tryz.prog 81 #[vV dE] w (RetV (.string ⟨#[40, 49, 47, 50, 114, 50, 44, 32, 49, 47, 50, 114, 50, 44, 32, 48, 41]⟩) w) := by
  have V := fun w => vValid_yes dE w (dE_bn.mono (by omega)) dE_ok
  have P1 := fun w' (hc : Chg [] w w') => exPrint12 w' (ht.below (Chg.bl0 hc))
  have P0 := exPrint0
  change ∀ w, Calls Tryz.prog 37 #[vV ⟨e12, e12, zN⟩] w (RetV (.bool true) w) at V
  show Calls Tryz.prog 81 #[vV ⟨e12, e12, zN⟩] w _
  generalize e12 = x at *
  generalize zN = z at *
  exact vm_pure kr Tryz.func81 rfl [.agg #[.bool (sg x.c0), .string (mg x.c0), .bool (sg x.c1), .string (mg x.c1), .bool (sg x.c2), .string (mg x.c2), .bool (sg x.c3), .string (mg x.c3), .bool (sg x.d), .string (mg x.d), .bool (sg x.c0), .string (mg x.c0), .bool (sg x.c1), .string (mg x.c1), .bool (sg x.c2), .string (mg x.c2), .bool (sg x.c3), .string (mg x.c3), .bool (sg x.d), .string (mg x.d), .bool (sg z.c0), .string (mg z.c0), .bool (sg z.c1), .string (mg z.c1), .bool (sg z.c2), .string (mg z.c2), .bool (sg z.c3), .string (mg z.c3), .bool (sg z.d), .string (mg z.d)]] nle [] [.f] [cV (V), cW P1, cW P1, cV (P0)]
theorem vawake_any (w : World) (ht : HasTab w) : Calls Tryz.prog 15 #[] w (RetV (.bool true) w) := by
  have C := fun w => wCos_any 3 w (by omega) (by omega)
  rw [show cosN 3 = e12 from by kernel_rfl] at C
  have S := fun w => wSin_any 3 w (by omega) (by omega)
  rw [show sinN 3 = e12 from by kernel_rfl] at S
  have O := fun w => gOf_any 0 w (by omega) (by omega)
  rw [show intN 0 = zN from rfl] at O
  have U1 := fun w => vOf_any 1 0 0 w (by omega) (by omega) (by omega) (by omega) (by omega) (by omega)
  have U2 := fun w => vOf_any 0 1 0 w (by omega) (by omega) (by omega) (by omega) (by omega) (by omega)
  have U3 := fun w => uOf_any 0 0 1 w (by omega) (by omega) (by omega) (by omega) (by omega) (by omega)
  have bi : ∀ k : Int, k.natAbs < 256 → BN 7000000 (intN k) := fun k h => (int_bn k h).mono (by omega)
  have X := fun w => vCross_any ⟨intN 1, intN 0, intN 0⟩ ⟨intN 0, intN 1, intN 0⟩ w ⟨bi _ (by decide), bi _ (by decide), bi _ (by decide)⟩ ⟨bi _ (by decide), bi _ (by decide), bi _ (by decide)⟩ ⟨intN_ok _, intN_ok _, intN_ok _⟩ ⟨intN_ok _, intN_ok _, intN_ok _⟩
  rw [show crsV ⟨intN 1, intN 0, intN 0⟩ ⟨intN 0, intN 1, intN 0⟩ = ⟨intN 0, intN 0, intN 1⟩ from by kernel_rfl] at X
  have P := fun w' (hc : Chg [] w w') => exVPrint w' (ht.below (Chg.bl0 hc))
  have V := fun w => vValid_yes dE w (dE_bn.mono (by omega)) dE_ok
  change ∀ w, Calls Tryz.prog 37 #[vV ⟨e12, e12, zN⟩] w (RetV (.bool true) w) at V
  change ∀ w', Chg [] w w' → Calls Tryz.prog 81 #[vV ⟨e12, e12, zN⟩] w' _ at P
  generalize (⟨intN 1, intN 0, intN 0⟩ : V3) = a at *
  generalize (⟨intN 0, intN 1, intN 0⟩ : V3) = b at *
  generalize (⟨intN 0, intN 0, intN 1⟩ : V3) = c at *
  generalize e12 = x at *
  generalize zN = z at *
  exact vm_pure kr Tryz.func15 rfl [] nle [(2, 4)] [.t, .t, .t, .t, .t, .t, .t] [cV (C), cV (S), cV (O), cV (U1), cV (U2), cV (X), cV (U3), lV _ (.bool true) (fun w hC => eqV_same (rvN c) (.tmp 8) (.tmp 9) w), cW P, cV (V)]
end Go.Proofs.YtegnalgjjmpcmaaGreatDoor
