/- The reference's wheel: cosines and sines of its positions, rotations. -/
import Derived.Test.YtegnalgjjmpcmaaGreatDoorPVVecU
namespace Go.Proofs.YtegnalgjjmpcmaaGreatDoor
open Go Go.RowKit
set_option maxRecDepth 100000
set_option linter.unusedVariables false
set_option linter.unusedSimpArgs false
theorem wrem_run (a b q : Int) (w : World) (h : b ≠ 0) (e : a.tmod b = q) : (Op.intDiv .rem .i64 a b).run Tryz.prog w = .ok (.int .i64 q) w := by
  unfold Op.intDiv
  rw [if_neg h]
  simp only [e]
  rfl
theorem tmod24 (i : Int) : (i.tmod 24 + 24).tmod 24 = i % 24 := by
  have h := Int.tmod_eq_emod (a := i) (b := 24)
  have h2 := Int.tmod_eq_emod (a := i.tmod 24 + 24) (b := 24)
  have h3 := Int.emod_nonneg i (show (24 : Int) ≠ 0 by decide)
  have h4 := Int.emod_lt_of_pos i (show (0 : Int) < 24 by decide)
  simp at h h2
  split at h <;> split at h2 <;> omega
theorem wMod_any (i : Int) (w : World) (h0 : -1000 ≤ i) (h1 : i ≤ 1000) : Calls Tryz.prog 143 #[.int .i64 i] w (RetN (i % 24) w) := by
  have b0 : -24 < i.tmod 24 ∧ i.tmod 24 < 24 := by
    have h := Int.tmod_eq_emod (a := i) (b := 24)
    simp at h
    split at h <;> omega
  have wa : IntKind.i64.wrap (i.tmod 24 + 24) = i.tmod 24 + 24 := wr64 (by omega) (by omega)
  have e := tmod24 i
  generalize i % 24 = m at *
  generalize hq : i.tmod 24 = q at *
  exact vm_pure kr Tryz.func143 rfl [.int .i64 i] nle [(1, 1), (1, 2), (1, 3)] [] [lV (Op.intDiv .rem .i64 ((i) : Int) ((24) : Int)) (.int .i64 (q)) (fun w hC => wrem_run _ _ _ w (by decide) hq), lE .i64 (((q) : Int) + ((24) : Int)) (q + 24) (wa), lV (Op.intDiv .rem .i64 ((q + 24) : Int) ((24) : Int)) (.int .i64 (m)) (fun w hC => wrem_run _ _ _ w (by decide) e)]
def cosM (k : Nat) : Nm := match k with
  | 0 => ⟨1, 0, 0, 0, 1⟩
  | 1 => ⟨0, 1, 0, 1, 4⟩
  | 2 => ⟨0, 0, 1, 0, 2⟩
  | 3 => ⟨0, 1, 0, 0, 2⟩
  | 4 => ⟨1, 0, 0, 0, 2⟩
  | 5 => ⟨0, -1, 0, 1, 4⟩
  | 6 => ⟨0, 0, 0, 0, 1⟩
  | 7 => ⟨0, 1, 0, -1, 4⟩
  | 8 => ⟨-1, 0, 0, 0, 2⟩
  | 9 => ⟨0, -1, 0, 0, 2⟩
  | 10 => ⟨0, 0, -1, 0, 2⟩
  | 11 => ⟨0, -1, 0, -1, 4⟩
  | 12 => ⟨-1, 0, 0, 0, 1⟩
  | 13 => ⟨0, -1, 0, -1, 4⟩
  | 14 => ⟨0, 0, -1, 0, 2⟩
  | 15 => ⟨0, -1, 0, 0, 2⟩
  | 16 => ⟨-1, 0, 0, 0, 2⟩
  | 17 => ⟨0, 1, 0, -1, 4⟩
  | 18 => ⟨0, 0, 0, 0, 1⟩
  | 19 => ⟨0, -1, 0, 1, 4⟩
  | 20 => ⟨1, 0, 0, 0, 2⟩
  | 21 => ⟨0, 1, 0, 0, 2⟩
  | 22 => ⟨0, 0, 1, 0, 2⟩
  | _ => ⟨0, 1, 0, 1, 4⟩
def cosN (i : Int) : Nm := cosM (i % 24).toNat
def sinN (i : Int) : Nm := cosN (i % 24 - 6)
theorem wquarter_0 (w : World) : Calls Tryz.prog 144 #[.int .i64 4, .int .i64 0, .int .i64 0, .int .i64 0] w (RetV (vN ⟨1, 0, 0, 0, 1⟩) w) := by
  have O0 := fun w => ROf_any (4) w (by omega) (by omega)
  have O1 := fun w => ROf_any (0) w (by omega) (by omega)
  have O2 := fun w => ROf_any (0) w (by omega) (by omega)
  have O3 := fun w => ROf_any (0) w (by omega) (by omega)
  have O4 := fun w => ROf_any 4 w (by omega) (by omega)
  have M := fun w => gMake_int ⟨(4), (0), (0), (0), 4⟩ w ((BN1 (4) (0) (0) (0) 4 (by decide)).mono (by omega)) (by decide)
  rw [show low ⟨(4), (0), (0), (0), 4⟩ = ⟨1, 0, 0, 0, 1⟩ from by kernel_rfl] at M
  generalize (⟨1, 0, 0, 0, 1⟩ : Nm) = l at *
  exact vm_pure kr Tryz.func144 rfl [.int .i64 4, .int .i64 0, .int .i64 0, .int .i64 0] nle [] [] [cV (O0), cV (O1), cV (O2), cV (O3), cV (O4), cV (M)]
theorem wquarter_1 (w : World) : Calls Tryz.prog 144 #[.int .i64 0, .int .i64 1, .int .i64 0, .int .i64 1] w (RetV (vN ⟨0, 1, 0, 1, 4⟩) w) := by
  have O0 := fun w => ROf_any (0) w (by omega) (by omega)
  have O1 := fun w => ROf_any (1) w (by omega) (by omega)
  have O2 := fun w => ROf_any (0) w (by omega) (by omega)
  have O3 := fun w => ROf_any (1) w (by omega) (by omega)
  have O4 := fun w => ROf_any 4 w (by omega) (by omega)
  have M := fun w => gMake_int ⟨(0), (1), (0), (1), 4⟩ w ((BN1 (0) (1) (0) (1) 4 (by decide)).mono (by omega)) (by decide)
  rw [show low ⟨(0), (1), (0), (1), 4⟩ = ⟨0, 1, 0, 1, 4⟩ from by kernel_rfl] at M
  generalize (⟨0, 1, 0, 1, 4⟩ : Nm) = l at *
  exact vm_pure kr Tryz.func144 rfl [.int .i64 0, .int .i64 1, .int .i64 0, .int .i64 1] nle [] [] [cV (O0), cV (O1), cV (O2), cV (O3), cV (O4), cV (M)]
theorem wquarter_2 (w : World) : Calls Tryz.prog 144 #[.int .i64 0, .int .i64 0, .int .i64 2, .int .i64 0] w (RetV (vN ⟨0, 0, 1, 0, 2⟩) w) := by
  have O0 := fun w => ROf_any (0) w (by omega) (by omega)
  have O1 := fun w => ROf_any (0) w (by omega) (by omega)
  have O2 := fun w => ROf_any (2) w (by omega) (by omega)
  have O3 := fun w => ROf_any (0) w (by omega) (by omega)
  have O4 := fun w => ROf_any 4 w (by omega) (by omega)
  have M := fun w => gMake_int ⟨(0), (0), (2), (0), 4⟩ w ((BN1 (0) (0) (2) (0) 4 (by decide)).mono (by omega)) (by decide)
  rw [show low ⟨(0), (0), (2), (0), 4⟩ = ⟨0, 0, 1, 0, 2⟩ from by kernel_rfl] at M
  generalize (⟨0, 0, 1, 0, 2⟩ : Nm) = l at *
  exact vm_pure kr Tryz.func144 rfl [.int .i64 0, .int .i64 0, .int .i64 2, .int .i64 0] nle [] [] [cV (O0), cV (O1), cV (O2), cV (O3), cV (O4), cV (M)]
theorem wquarter_3 (w : World) : Calls Tryz.prog 144 #[.int .i64 0, .int .i64 2, .int .i64 0, .int .i64 0] w (RetV (vN ⟨0, 1, 0, 0, 2⟩) w) := by
  have O0 := fun w => ROf_any (0) w (by omega) (by omega)
  have O1 := fun w => ROf_any (2) w (by omega) (by omega)
  have O2 := fun w => ROf_any (0) w (by omega) (by omega)
  have O3 := fun w => ROf_any (0) w (by omega) (by omega)
  have O4 := fun w => ROf_any 4 w (by omega) (by omega)
  have M := fun w => gMake_int ⟨(0), (2), (0), (0), 4⟩ w ((BN1 (0) (2) (0) (0) 4 (by decide)).mono (by omega)) (by decide)
  rw [show low ⟨(0), (2), (0), (0), 4⟩ = ⟨0, 1, 0, 0, 2⟩ from by kernel_rfl] at M
  generalize (⟨0, 1, 0, 0, 2⟩ : Nm) = l at *
  exact vm_pure kr Tryz.func144 rfl [.int .i64 0, .int .i64 2, .int .i64 0, .int .i64 0] nle [] [] [cV (O0), cV (O1), cV (O2), cV (O3), cV (O4), cV (M)]
theorem wquarter_4 (w : World) : Calls Tryz.prog 144 #[.int .i64 2, .int .i64 0, .int .i64 0, .int .i64 0] w (RetV (vN ⟨1, 0, 0, 0, 2⟩) w) := by
  have O0 := fun w => ROf_any (2) w (by omega) (by omega)
  have O1 := fun w => ROf_any (0) w (by omega) (by omega)
  have O2 := fun w => ROf_any (0) w (by omega) (by omega)
  have O3 := fun w => ROf_any (0) w (by omega) (by omega)
  have O4 := fun w => ROf_any 4 w (by omega) (by omega)
  have M := fun w => gMake_int ⟨(2), (0), (0), (0), 4⟩ w ((BN1 (2) (0) (0) (0) 4 (by decide)).mono (by omega)) (by decide)
  rw [show low ⟨(2), (0), (0), (0), 4⟩ = ⟨1, 0, 0, 0, 2⟩ from by kernel_rfl] at M
  generalize (⟨1, 0, 0, 0, 2⟩ : Nm) = l at *
  exact vm_pure kr Tryz.func144 rfl [.int .i64 2, .int .i64 0, .int .i64 0, .int .i64 0] nle [] [] [cV (O0), cV (O1), cV (O2), cV (O3), cV (O4), cV (M)]
theorem wquarter_5 (w : World) : Calls Tryz.prog 144 #[.int .i64 0, .int .i64 (-1), .int .i64 0, .int .i64 1] w (RetV (vN ⟨0, -1, 0, 1, 4⟩) w) := by
  have O0 := fun w => ROf_any (0) w (by omega) (by omega)
  have O1 := fun w => ROf_any (-1) w (by omega) (by omega)
  have O2 := fun w => ROf_any (0) w (by omega) (by omega)
  have O3 := fun w => ROf_any (1) w (by omega) (by omega)
  have O4 := fun w => ROf_any 4 w (by omega) (by omega)
  have M := fun w => gMake_int ⟨(0), (-1), (0), (1), 4⟩ w ((BN1 (0) (-1) (0) (1) 4 (by decide)).mono (by omega)) (by decide)
  rw [show low ⟨(0), (-1), (0), (1), 4⟩ = ⟨0, -1, 0, 1, 4⟩ from by kernel_rfl] at M
  generalize (⟨0, -1, 0, 1, 4⟩ : Nm) = l at *
  exact vm_pure kr Tryz.func144 rfl [.int .i64 0, .int .i64 (-1), .int .i64 0, .int .i64 1] nle [] [] [cV (O0), cV (O1), cV (O2), cV (O3), cV (O4), cV (M)]
theorem wquarter_6 (w : World) : Calls Tryz.prog 144 #[.int .i64 0, .int .i64 0, .int .i64 0, .int .i64 0] w (RetV (vN ⟨0, 0, 0, 0, 1⟩) w) := by
  have O0 := fun w => ROf_any (0) w (by omega) (by omega)
  have O1 := fun w => ROf_any (0) w (by omega) (by omega)
  have O2 := fun w => ROf_any (0) w (by omega) (by omega)
  have O3 := fun w => ROf_any (0) w (by omega) (by omega)
  have O4 := fun w => ROf_any 4 w (by omega) (by omega)
  have M := fun w => gMake_int ⟨(0), (0), (0), (0), 4⟩ w ((BN1 (0) (0) (0) (0) 4 (by decide)).mono (by omega)) (by decide)
  rw [show low ⟨(0), (0), (0), (0), 4⟩ = ⟨0, 0, 0, 0, 1⟩ from by kernel_rfl] at M
  generalize (⟨0, 0, 0, 0, 1⟩ : Nm) = l at *
  exact vm_pure kr Tryz.func144 rfl [.int .i64 0, .int .i64 0, .int .i64 0, .int .i64 0] nle [] [] [cV (O0), cV (O1), cV (O2), cV (O3), cV (O4), cV (M)]
theorem wCos_0 (i : Int) (w : World) (h0 : -1000 ≤ i) (h1 : i ≤ 1000) (h : i % 24 = 0) : Calls Tryz.prog 85 #[.int .i64 i] w (RetV (vN ⟨1, 0, 0, 0, 1⟩) w) := by
  have M := fun w => wMod_any i w h0 h1
  rw [h] at M
  have Q := wquarter_0
  generalize (⟨1, 0, 0, 0, 1⟩ : Nm) = l at *
  exact vm_pure kr Tryz.func85 rfl [.int .i64 i] nle [] [.f, .t] [cV (M), cV (Q)]
theorem wCos_1 (i : Int) (w : World) (h0 : -1000 ≤ i) (h1 : i ≤ 1000) (h : i % 24 = 1) : Calls Tryz.prog 85 #[.int .i64 i] w (RetV (vN ⟨0, 1, 0, 1, 4⟩) w) := by
  have M := fun w => wMod_any i w h0 h1
  rw [h] at M
  have Q := wquarter_1
  generalize (⟨0, 1, 0, 1, 4⟩ : Nm) = l at *
  exact vm_pure kr Tryz.func85 rfl [.int .i64 i] nle [] [.f, .f, .t] [cV (M), cV (Q)]
theorem wCos_2 (i : Int) (w : World) (h0 : -1000 ≤ i) (h1 : i ≤ 1000) (h : i % 24 = 2) : Calls Tryz.prog 85 #[.int .i64 i] w (RetV (vN ⟨0, 0, 1, 0, 2⟩) w) := by
  have M := fun w => wMod_any i w h0 h1
  rw [h] at M
  have Q := wquarter_2
  generalize (⟨0, 0, 1, 0, 2⟩ : Nm) = l at *
  exact vm_pure kr Tryz.func85 rfl [.int .i64 i] nle [] [.f, .f, .f, .t] [cV (M), cV (Q)]
theorem wCos_3 (i : Int) (w : World) (h0 : -1000 ≤ i) (h1 : i ≤ 1000) (h : i % 24 = 3) : Calls Tryz.prog 85 #[.int .i64 i] w (RetV (vN ⟨0, 1, 0, 0, 2⟩) w) := by
  have M := fun w => wMod_any i w h0 h1
  rw [h] at M
  have Q := wquarter_3
  generalize (⟨0, 1, 0, 0, 2⟩ : Nm) = l at *
  exact vm_pure kr Tryz.func85 rfl [.int .i64 i] nle [] [.f, .f, .f, .f, .t] [cV (M), cV (Q)]
theorem wCos_4 (i : Int) (w : World) (h0 : -1000 ≤ i) (h1 : i ≤ 1000) (h : i % 24 = 4) : Calls Tryz.prog 85 #[.int .i64 i] w (RetV (vN ⟨1, 0, 0, 0, 2⟩) w) := by
  have M := fun w => wMod_any i w h0 h1
  rw [h] at M
  have Q := wquarter_4
  generalize (⟨1, 0, 0, 0, 2⟩ : Nm) = l at *
  exact vm_pure kr Tryz.func85 rfl [.int .i64 i] nle [] [.f, .f, .f, .f, .f, .t] [cV (M), cV (Q)]
theorem wCos_5 (i : Int) (w : World) (h0 : -1000 ≤ i) (h1 : i ≤ 1000) (h : i % 24 = 5) : Calls Tryz.prog 85 #[.int .i64 i] w (RetV (vN ⟨0, -1, 0, 1, 4⟩) w) := by
  have M := fun w => wMod_any i w h0 h1
  rw [h] at M
  have Q := wquarter_5
  generalize (⟨0, -1, 0, 1, 4⟩ : Nm) = l at *
  exact vm_pure kr Tryz.func85 rfl [.int .i64 i] nle [] [.f, .f, .f, .f, .f, .f, .t] [cV (M), cV (Q)]
theorem wCos_6 (i : Int) (w : World) (h0 : -1000 ≤ i) (h1 : i ≤ 1000) (h : i % 24 = 6) : Calls Tryz.prog 85 #[.int .i64 i] w (RetV (vN ⟨0, 0, 0, 0, 1⟩) w) := by
  have M := fun w => wMod_any i w h0 h1
  rw [h] at M
  have Q := wquarter_6
  generalize (⟨0, 0, 0, 0, 1⟩ : Nm) = l at *
  exact vm_pure kr Tryz.func85 rfl [.int .i64 i] nle [] [.f, .f, .f, .f, .f, .f, .f, .t] [cV (M), cV (Q)]
theorem wCos_18 (i : Int) (w : World) (h0 : -1000 ≤ i) (h1 : i ≤ 1000) (h : i % 24 = 18) : Calls Tryz.prog 85 #[.int .i64 i] w (RetV (vN ⟨0, 0, 0, 0, 1⟩) w) := by
  have M := fun w => wMod_any i w h0 h1
  rw [h] at M
  have Q := wquarter_6
  generalize (⟨0, 0, 0, 0, 1⟩ : Nm) = l at *
  exact vm_pure kr Tryz.func85 rfl [.int .i64 i] nle [] [.t, .f, .f, .f, .f, .f, .f, .t] [cV (M), cV (Q)]
theorem wCos_19 (i : Int) (w : World) (h0 : -1000 ≤ i) (h1 : i ≤ 1000) (h : i % 24 = 19) : Calls Tryz.prog 85 #[.int .i64 i] w (RetV (vN ⟨0, -1, 0, 1, 4⟩) w) := by
  have M := fun w => wMod_any i w h0 h1
  rw [h] at M
  have Q := wquarter_5
  generalize (⟨0, -1, 0, 1, 4⟩ : Nm) = l at *
  exact vm_pure kr Tryz.func85 rfl [.int .i64 i] nle [] [.t, .f, .f, .f, .f, .f, .t] [cV (M), cV (Q)]
theorem wCos_20 (i : Int) (w : World) (h0 : -1000 ≤ i) (h1 : i ≤ 1000) (h : i % 24 = 20) : Calls Tryz.prog 85 #[.int .i64 i] w (RetV (vN ⟨1, 0, 0, 0, 2⟩) w) := by
  have M := fun w => wMod_any i w h0 h1
  rw [h] at M
  have Q := wquarter_4
  generalize (⟨1, 0, 0, 0, 2⟩ : Nm) = l at *
  exact vm_pure kr Tryz.func85 rfl [.int .i64 i] nle [] [.t, .f, .f, .f, .f, .t] [cV (M), cV (Q)]
theorem wCos_21 (i : Int) (w : World) (h0 : -1000 ≤ i) (h1 : i ≤ 1000) (h : i % 24 = 21) : Calls Tryz.prog 85 #[.int .i64 i] w (RetV (vN ⟨0, 1, 0, 0, 2⟩) w) := by
  have M := fun w => wMod_any i w h0 h1
  rw [h] at M
  have Q := wquarter_3
  generalize (⟨0, 1, 0, 0, 2⟩ : Nm) = l at *
  exact vm_pure kr Tryz.func85 rfl [.int .i64 i] nle [] [.t, .f, .f, .f, .t] [cV (M), cV (Q)]
theorem wCos_22 (i : Int) (w : World) (h0 : -1000 ≤ i) (h1 : i ≤ 1000) (h : i % 24 = 22) : Calls Tryz.prog 85 #[.int .i64 i] w (RetV (vN ⟨0, 0, 1, 0, 2⟩) w) := by
  have M := fun w => wMod_any i w h0 h1
  rw [h] at M
  have Q := wquarter_2
  generalize (⟨0, 0, 1, 0, 2⟩ : Nm) = l at *
  exact vm_pure kr Tryz.func85 rfl [.int .i64 i] nle [] [.t, .f, .f, .t] [cV (M), cV (Q)]
theorem wCos_23 (i : Int) (w : World) (h0 : -1000 ≤ i) (h1 : i ≤ 1000) (h : i % 24 = 23) : Calls Tryz.prog 85 #[.int .i64 i] w (RetV (vN ⟨0, 1, 0, 1, 4⟩) w) := by
  have M := fun w => wMod_any i w h0 h1
  rw [h] at M
  have Q := wquarter_1
  generalize (⟨0, 1, 0, 1, 4⟩ : Nm) = l at *
  exact vm_pure kr Tryz.func85 rfl [.int .i64 i] nle [] [.t, .f, .t] [cV (M), cV (Q)]
theorem wCos_7 (i : Int) (w : World) (h0 : -1000 ≤ i) (h1 : i ≤ 1000) (h : i % 24 = 7) : Calls Tryz.prog 85 #[.int .i64 i] w (RetV (vN ⟨0, 1, 0, -1, 4⟩) w) := by
  have M := fun w => wMod_any i w h0 h1
  rw [h] at M
  have Q := fun w => wCos_5 5 w (by omega) (by omega) (by decide)
  have N := fun w => gNeg_any ⟨0, -1, 0, 1, 4⟩ w ((BN1 (0) (-1) (0) (1) (4) (by decide)).mono (by omega)) (ok_lit _ (by decide))
  rw [show negN ⟨0, -1, 0, 1, 4⟩ = ⟨0, 1, 0, -1, 4⟩ from by kernel_rfl] at N
  generalize (⟨0, 1, 0, -1, 4⟩ : Nm) = l at *
  generalize (⟨0, -1, 0, 1, 4⟩ : Nm) = l2 at *
  exact vm_pure kr Tryz.func85 rfl [.int .i64 i] nle [] [.f, .f, .f, .f, .f, .f, .f, .f] [cV (M), cV (Q), cV (N)]
theorem wCos_8 (i : Int) (w : World) (h0 : -1000 ≤ i) (h1 : i ≤ 1000) (h : i % 24 = 8) : Calls Tryz.prog 85 #[.int .i64 i] w (RetV (vN ⟨-1, 0, 0, 0, 2⟩) w) := by
  have M := fun w => wMod_any i w h0 h1
  rw [h] at M
  have Q := fun w => wCos_4 4 w (by omega) (by omega) (by decide)
  have N := fun w => gNeg_any ⟨1, 0, 0, 0, 2⟩ w ((BN1 (1) (0) (0) (0) (2) (by decide)).mono (by omega)) (ok_lit _ (by decide))
  rw [show negN ⟨1, 0, 0, 0, 2⟩ = ⟨-1, 0, 0, 0, 2⟩ from by kernel_rfl] at N
  generalize (⟨-1, 0, 0, 0, 2⟩ : Nm) = l at *
  generalize (⟨1, 0, 0, 0, 2⟩ : Nm) = l2 at *
  exact vm_pure kr Tryz.func85 rfl [.int .i64 i] nle [] [.f, .f, .f, .f, .f, .f, .f, .f] [cV (M), cV (Q), cV (N)]
theorem wCos_9 (i : Int) (w : World) (h0 : -1000 ≤ i) (h1 : i ≤ 1000) (h : i % 24 = 9) : Calls Tryz.prog 85 #[.int .i64 i] w (RetV (vN ⟨0, -1, 0, 0, 2⟩) w) := by
  have M := fun w => wMod_any i w h0 h1
  rw [h] at M
  have Q := fun w => wCos_3 3 w (by omega) (by omega) (by decide)
  have N := fun w => gNeg_any ⟨0, 1, 0, 0, 2⟩ w ((BN1 (0) (1) (0) (0) (2) (by decide)).mono (by omega)) (ok_lit _ (by decide))
  rw [show negN ⟨0, 1, 0, 0, 2⟩ = ⟨0, -1, 0, 0, 2⟩ from by kernel_rfl] at N
  generalize (⟨0, -1, 0, 0, 2⟩ : Nm) = l at *
  generalize (⟨0, 1, 0, 0, 2⟩ : Nm) = l2 at *
  exact vm_pure kr Tryz.func85 rfl [.int .i64 i] nle [] [.f, .f, .f, .f, .f, .f, .f, .f] [cV (M), cV (Q), cV (N)]
theorem wCos_10 (i : Int) (w : World) (h0 : -1000 ≤ i) (h1 : i ≤ 1000) (h : i % 24 = 10) : Calls Tryz.prog 85 #[.int .i64 i] w (RetV (vN ⟨0, 0, -1, 0, 2⟩) w) := by
  have M := fun w => wMod_any i w h0 h1
  rw [h] at M
  have Q := fun w => wCos_2 2 w (by omega) (by omega) (by decide)
  have N := fun w => gNeg_any ⟨0, 0, 1, 0, 2⟩ w ((BN1 (0) (0) (1) (0) (2) (by decide)).mono (by omega)) (ok_lit _ (by decide))
  rw [show negN ⟨0, 0, 1, 0, 2⟩ = ⟨0, 0, -1, 0, 2⟩ from by kernel_rfl] at N
  generalize (⟨0, 0, -1, 0, 2⟩ : Nm) = l at *
  generalize (⟨0, 0, 1, 0, 2⟩ : Nm) = l2 at *
  exact vm_pure kr Tryz.func85 rfl [.int .i64 i] nle [] [.f, .f, .f, .f, .f, .f, .f, .f] [cV (M), cV (Q), cV (N)]
theorem wCos_11 (i : Int) (w : World) (h0 : -1000 ≤ i) (h1 : i ≤ 1000) (h : i % 24 = 11) : Calls Tryz.prog 85 #[.int .i64 i] w (RetV (vN ⟨0, -1, 0, -1, 4⟩) w) := by
  have M := fun w => wMod_any i w h0 h1
  rw [h] at M
  have Q := fun w => wCos_1 1 w (by omega) (by omega) (by decide)
  have N := fun w => gNeg_any ⟨0, 1, 0, 1, 4⟩ w ((BN1 (0) (1) (0) (1) (4) (by decide)).mono (by omega)) (ok_lit _ (by decide))
  rw [show negN ⟨0, 1, 0, 1, 4⟩ = ⟨0, -1, 0, -1, 4⟩ from by kernel_rfl] at N
  generalize (⟨0, -1, 0, -1, 4⟩ : Nm) = l at *
  generalize (⟨0, 1, 0, 1, 4⟩ : Nm) = l2 at *
  exact vm_pure kr Tryz.func85 rfl [.int .i64 i] nle [] [.f, .f, .f, .f, .f, .f, .f, .f] [cV (M), cV (Q), cV (N)]
theorem wCos_12 (i : Int) (w : World) (h0 : -1000 ≤ i) (h1 : i ≤ 1000) (h : i % 24 = 12) : Calls Tryz.prog 85 #[.int .i64 i] w (RetV (vN ⟨-1, 0, 0, 0, 1⟩) w) := by
  have M := fun w => wMod_any i w h0 h1
  rw [h] at M
  have Q := fun w => wCos_0 0 w (by omega) (by omega) (by decide)
  have N := fun w => gNeg_any ⟨1, 0, 0, 0, 1⟩ w ((BN1 (1) (0) (0) (0) (1) (by decide)).mono (by omega)) (ok_lit _ (by decide))
  rw [show negN ⟨1, 0, 0, 0, 1⟩ = ⟨-1, 0, 0, 0, 1⟩ from by kernel_rfl] at N
  generalize (⟨-1, 0, 0, 0, 1⟩ : Nm) = l at *
  generalize (⟨1, 0, 0, 0, 1⟩ : Nm) = l2 at *
  exact vm_pure kr Tryz.func85 rfl [.int .i64 i] nle [] [.f, .f, .f, .f, .f, .f, .f, .f] [cV (M), cV (Q), cV (N)]
theorem wCos_13 (i : Int) (w : World) (h0 : -1000 ≤ i) (h1 : i ≤ 1000) (h : i % 24 = 13) : Calls Tryz.prog 85 #[.int .i64 i] w (RetV (vN ⟨0, -1, 0, -1, 4⟩) w) := by
  have M := fun w => wMod_any i w h0 h1
  rw [h] at M
  have Q := fun w => wCos_1 1 w (by omega) (by omega) (by decide)
  have N := fun w => gNeg_any ⟨0, 1, 0, 1, 4⟩ w ((BN1 (0) (1) (0) (1) (4) (by decide)).mono (by omega)) (ok_lit _ (by decide))
  rw [show negN ⟨0, 1, 0, 1, 4⟩ = ⟨0, -1, 0, -1, 4⟩ from by kernel_rfl] at N
  generalize (⟨0, -1, 0, -1, 4⟩ : Nm) = l at *
  generalize (⟨0, 1, 0, 1, 4⟩ : Nm) = l2 at *
  exact vm_pure kr Tryz.func85 rfl [.int .i64 i] nle [] [.t, .f, .f, .f, .f, .f, .f, .f] [cV (M), cV (Q), cV (N)]
theorem wCos_14 (i : Int) (w : World) (h0 : -1000 ≤ i) (h1 : i ≤ 1000) (h : i % 24 = 14) : Calls Tryz.prog 85 #[.int .i64 i] w (RetV (vN ⟨0, 0, -1, 0, 2⟩) w) := by
  have M := fun w => wMod_any i w h0 h1
  rw [h] at M
  have Q := fun w => wCos_2 2 w (by omega) (by omega) (by decide)
  have N := fun w => gNeg_any ⟨0, 0, 1, 0, 2⟩ w ((BN1 (0) (0) (1) (0) (2) (by decide)).mono (by omega)) (ok_lit _ (by decide))
  rw [show negN ⟨0, 0, 1, 0, 2⟩ = ⟨0, 0, -1, 0, 2⟩ from by kernel_rfl] at N
  generalize (⟨0, 0, -1, 0, 2⟩ : Nm) = l at *
  generalize (⟨0, 0, 1, 0, 2⟩ : Nm) = l2 at *
  exact vm_pure kr Tryz.func85 rfl [.int .i64 i] nle [] [.t, .f, .f, .f, .f, .f, .f, .f] [cV (M), cV (Q), cV (N)]
theorem wCos_15 (i : Int) (w : World) (h0 : -1000 ≤ i) (h1 : i ≤ 1000) (h : i % 24 = 15) : Calls Tryz.prog 85 #[.int .i64 i] w (RetV (vN ⟨0, -1, 0, 0, 2⟩) w) := by
  have M := fun w => wMod_any i w h0 h1
  rw [h] at M
  have Q := fun w => wCos_3 3 w (by omega) (by omega) (by decide)
  have N := fun w => gNeg_any ⟨0, 1, 0, 0, 2⟩ w ((BN1 (0) (1) (0) (0) (2) (by decide)).mono (by omega)) (ok_lit _ (by decide))
  rw [show negN ⟨0, 1, 0, 0, 2⟩ = ⟨0, -1, 0, 0, 2⟩ from by kernel_rfl] at N
  generalize (⟨0, -1, 0, 0, 2⟩ : Nm) = l at *
  generalize (⟨0, 1, 0, 0, 2⟩ : Nm) = l2 at *
  exact vm_pure kr Tryz.func85 rfl [.int .i64 i] nle [] [.t, .f, .f, .f, .f, .f, .f, .f] [cV (M), cV (Q), cV (N)]
theorem wCos_16 (i : Int) (w : World) (h0 : -1000 ≤ i) (h1 : i ≤ 1000) (h : i % 24 = 16) : Calls Tryz.prog 85 #[.int .i64 i] w (RetV (vN ⟨-1, 0, 0, 0, 2⟩) w) := by
  have M := fun w => wMod_any i w h0 h1
  rw [h] at M
  have Q := fun w => wCos_4 4 w (by omega) (by omega) (by decide)
  have N := fun w => gNeg_any ⟨1, 0, 0, 0, 2⟩ w ((BN1 (1) (0) (0) (0) (2) (by decide)).mono (by omega)) (ok_lit _ (by decide))
  rw [show negN ⟨1, 0, 0, 0, 2⟩ = ⟨-1, 0, 0, 0, 2⟩ from by kernel_rfl] at N
  generalize (⟨-1, 0, 0, 0, 2⟩ : Nm) = l at *
  generalize (⟨1, 0, 0, 0, 2⟩ : Nm) = l2 at *
  exact vm_pure kr Tryz.func85 rfl [.int .i64 i] nle [] [.t, .f, .f, .f, .f, .f, .f, .f] [cV (M), cV (Q), cV (N)]
theorem wCos_17 (i : Int) (w : World) (h0 : -1000 ≤ i) (h1 : i ≤ 1000) (h : i % 24 = 17) : Calls Tryz.prog 85 #[.int .i64 i] w (RetV (vN ⟨0, 1, 0, -1, 4⟩) w) := by
  have M := fun w => wMod_any i w h0 h1
  rw [h] at M
  have Q := fun w => wCos_5 5 w (by omega) (by omega) (by decide)
  have N := fun w => gNeg_any ⟨0, -1, 0, 1, 4⟩ w ((BN1 (0) (-1) (0) (1) (4) (by decide)).mono (by omega)) (ok_lit _ (by decide))
  rw [show negN ⟨0, -1, 0, 1, 4⟩ = ⟨0, 1, 0, -1, 4⟩ from by kernel_rfl] at N
  generalize (⟨0, 1, 0, -1, 4⟩ : Nm) = l at *
  generalize (⟨0, -1, 0, 1, 4⟩ : Nm) = l2 at *
  exact vm_pure kr Tryz.func85 rfl [.int .i64 i] nle [] [.t, .f, .f, .f, .f, .f, .f, .f] [cV (M), cV (Q), cV (N)]
theorem wCos_any (i : Int) (w : World) (h0 : -1000 ≤ i) (h1 : i ≤ 1000) : Calls Tryz.prog 85 #[.int .i64 i] w (RetV (vN (cosN i)) w) := by
  have hm : i % 24 = 0 ∨ i % 24 = 1 ∨ i % 24 = 2 ∨ i % 24 = 3 ∨ i % 24 = 4 ∨ i % 24 = 5 ∨ i % 24 = 6 ∨ i % 24 = 7 ∨ i % 24 = 8 ∨ i % 24 = 9 ∨ i % 24 = 10 ∨ i % 24 = 11 ∨ i % 24 = 12 ∨ i % 24 = 13 ∨ i % 24 = 14 ∨ i % 24 = 15 ∨ i % 24 = 16 ∨ i % 24 = 17 ∨ i % 24 = 18 ∨ i % 24 = 19 ∨ i % 24 = 20 ∨ i % 24 = 21 ∨ i % 24 = 22 ∨ i % 24 = 23 := by omega
  unfold cosN
  rcases hm with h | h | h | h | h | h | h | h | h | h | h | h | h | h | h | h | h | h | h | h | h | h | h | h
  · rw [h]; exact wCos_0 i w h0 h1 h
  · rw [h]; exact wCos_1 i w h0 h1 h
  · rw [h]; exact wCos_2 i w h0 h1 h
  · rw [h]; exact wCos_3 i w h0 h1 h
  · rw [h]; exact wCos_4 i w h0 h1 h
  · rw [h]; exact wCos_5 i w h0 h1 h
  · rw [h]; exact wCos_6 i w h0 h1 h
  · rw [h]; exact wCos_7 i w h0 h1 h
  · rw [h]; exact wCos_8 i w h0 h1 h
  · rw [h]; exact wCos_9 i w h0 h1 h
  · rw [h]; exact wCos_10 i w h0 h1 h
  · rw [h]; exact wCos_11 i w h0 h1 h
  · rw [h]; exact wCos_12 i w h0 h1 h
  · rw [h]; exact wCos_13 i w h0 h1 h
  · rw [h]; exact wCos_14 i w h0 h1 h
  · rw [h]; exact wCos_15 i w h0 h1 h
  · rw [h]; exact wCos_16 i w h0 h1 h
  · rw [h]; exact wCos_17 i w h0 h1 h
  · rw [h]; exact wCos_18 i w h0 h1 h
  · rw [h]; exact wCos_19 i w h0 h1 h
  · rw [h]; exact wCos_20 i w h0 h1 h
  · rw [h]; exact wCos_21 i w h0 h1 h
  · rw [h]; exact wCos_22 i w h0 h1 h
  · rw [h]; exact wCos_23 i w h0 h1 h
theorem wSin_any (i : Int) (w : World) (h0 : -1000 ≤ i) (h1 : i ≤ 1000) : Calls Tryz.prog 86 #[.int .i64 i] w (RetV (vN (sinN i)) w) := by
  have M := fun w => wMod_any i w h0 h1
  have hm := Int.emod_nonneg i (show (24 : Int) ≠ 0 by decide)
  have hl := Int.emod_lt_of_pos i (show (0 : Int) < 24 by decide)
  have C := fun w => wCos_any (i % 24 - 6) w (by omega) (by omega)
  have wa : IntKind.i64.wrap (i % 24 - 6) = i % 24 - 6 := wr64 (by omega) (by omega)
  unfold sinN
  generalize cosN (i % 24 - 6) = l at *
  generalize i % 24 = m at *
  exact vm_pure kr Tryz.func86 rfl [.int .i64 i] nle [(1, 2)] [] [cV (M), lE .i64 (((m) : Int) - ((6) : Int)) (m - 6) (wa), cV (C)]
theorem cosN_ok (i : Int) : Ok (cosN i) ∧ BN 1 (cosN i) := by
  have hm : i % 24 = 0 ∨ i % 24 = 1 ∨ i % 24 = 2 ∨ i % 24 = 3 ∨ i % 24 = 4 ∨ i % 24 = 5 ∨ i % 24 = 6 ∨ i % 24 = 7 ∨ i % 24 = 8 ∨ i % 24 = 9 ∨ i % 24 = 10 ∨ i % 24 = 11 ∨ i % 24 = 12 ∨ i % 24 = 13 ∨ i % 24 = 14 ∨ i % 24 = 15 ∨ i % 24 = 16 ∨ i % 24 = 17 ∨ i % 24 = 18 ∨ i % 24 = 19 ∨ i % 24 = 20 ∨ i % 24 = 21 ∨ i % 24 = 22 ∨ i % 24 = 23 := by omega
  unfold cosN
  rcases hm with h | h | h | h | h | h | h | h | h | h | h | h | h | h | h | h | h | h | h | h | h | h | h | h
  · rw [h]; exact ⟨ok_lit _ (by decide), BN1 (1) (0) (0) (0) (1) (by decide)⟩
  · rw [h]; exact ⟨ok_lit _ (by decide), BN1 (0) (1) (0) (1) (4) (by decide)⟩
  · rw [h]; exact ⟨ok_lit _ (by decide), BN1 (0) (0) (1) (0) (2) (by decide)⟩
  · rw [h]; exact ⟨ok_lit _ (by decide), BN1 (0) (1) (0) (0) (2) (by decide)⟩
  · rw [h]; exact ⟨ok_lit _ (by decide), BN1 (1) (0) (0) (0) (2) (by decide)⟩
  · rw [h]; exact ⟨ok_lit _ (by decide), BN1 (0) (-1) (0) (1) (4) (by decide)⟩
  · rw [h]; exact ⟨ok_lit _ (by decide), BN1 (0) (0) (0) (0) (1) (by decide)⟩
  · rw [h]; exact ⟨ok_lit _ (by decide), BN1 (0) (1) (0) (-1) (4) (by decide)⟩
  · rw [h]; exact ⟨ok_lit _ (by decide), BN1 (-1) (0) (0) (0) (2) (by decide)⟩
  · rw [h]; exact ⟨ok_lit _ (by decide), BN1 (0) (-1) (0) (0) (2) (by decide)⟩
  · rw [h]; exact ⟨ok_lit _ (by decide), BN1 (0) (0) (-1) (0) (2) (by decide)⟩
  · rw [h]; exact ⟨ok_lit _ (by decide), BN1 (0) (-1) (0) (-1) (4) (by decide)⟩
  · rw [h]; exact ⟨ok_lit _ (by decide), BN1 (-1) (0) (0) (0) (1) (by decide)⟩
  · rw [h]; exact ⟨ok_lit _ (by decide), BN1 (0) (-1) (0) (-1) (4) (by decide)⟩
  · rw [h]; exact ⟨ok_lit _ (by decide), BN1 (0) (0) (-1) (0) (2) (by decide)⟩
  · rw [h]; exact ⟨ok_lit _ (by decide), BN1 (0) (-1) (0) (0) (2) (by decide)⟩
  · rw [h]; exact ⟨ok_lit _ (by decide), BN1 (-1) (0) (0) (0) (2) (by decide)⟩
  · rw [h]; exact ⟨ok_lit _ (by decide), BN1 (0) (1) (0) (-1) (4) (by decide)⟩
  · rw [h]; exact ⟨ok_lit _ (by decide), BN1 (0) (0) (0) (0) (1) (by decide)⟩
  · rw [h]; exact ⟨ok_lit _ (by decide), BN1 (0) (-1) (0) (1) (4) (by decide)⟩
  · rw [h]; exact ⟨ok_lit _ (by decide), BN1 (1) (0) (0) (0) (2) (by decide)⟩
  · rw [h]; exact ⟨ok_lit _ (by decide), BN1 (0) (1) (0) (0) (2) (by decide)⟩
  · rw [h]; exact ⟨ok_lit _ (by decide), BN1 (0) (0) (1) (0) (2) (by decide)⟩
  · rw [h]; exact ⟨ok_lit _ (by decide), BN1 (0) (1) (0) (1) (4) (by decide)⟩
theorem circ_of {c s : Nm} (oc : Ok c) (os : Ok s) (h : addN (mulN c c) (mulN s s) = oneN) : Circ c s := by
  unfold Circ
  rw [← toK_one, ← h, toK_add (mulN_ok oc oc) (mulN_ok os os), toK_mul oc oc, toK_mul os os]
theorem circ (i : Int) : Circ (cosN i) (sinN i) := by
  refine circ_of (cosN_ok i).1 (show Ok (sinN i) from (cosN_ok (i % 24 - 6)).1) ?_
  have hm : i % 24 = 0 ∨ i % 24 = 1 ∨ i % 24 = 2 ∨ i % 24 = 3 ∨ i % 24 = 4 ∨ i % 24 = 5 ∨ i % 24 = 6 ∨ i % 24 = 7 ∨ i % 24 = 8 ∨ i % 24 = 9 ∨ i % 24 = 10 ∨ i % 24 = 11 ∨ i % 24 = 12 ∨ i % 24 = 13 ∨ i % 24 = 14 ∨ i % 24 = 15 ∨ i % 24 = 16 ∨ i % 24 = 17 ∨ i % 24 = 18 ∨ i % 24 = 19 ∨ i % 24 = 20 ∨ i % 24 = 21 ∨ i % 24 = 22 ∨ i % 24 = 23 := by omega
  unfold sinN cosN
  rcases hm with h | h | h | h | h | h | h | h | h | h | h | h | h | h | h | h | h | h | h | h | h | h | h | h
  · rw [h]; exact (by kernel_rfl : addN (mulN (cosM 0) (cosM 0)) (mulN (cosM 18) (cosM 18)) = oneN)
  · rw [h]; exact (by kernel_rfl : addN (mulN (cosM 1) (cosM 1)) (mulN (cosM 19) (cosM 19)) = oneN)
  · rw [h]; exact (by kernel_rfl : addN (mulN (cosM 2) (cosM 2)) (mulN (cosM 20) (cosM 20)) = oneN)
  · rw [h]; exact (by kernel_rfl : addN (mulN (cosM 3) (cosM 3)) (mulN (cosM 21) (cosM 21)) = oneN)
  · rw [h]; exact (by kernel_rfl : addN (mulN (cosM 4) (cosM 4)) (mulN (cosM 22) (cosM 22)) = oneN)
  · rw [h]; exact (by kernel_rfl : addN (mulN (cosM 5) (cosM 5)) (mulN (cosM 23) (cosM 23)) = oneN)
  · rw [h]; exact (by kernel_rfl : addN (mulN (cosM 6) (cosM 6)) (mulN (cosM 0) (cosM 0)) = oneN)
  · rw [h]; exact (by kernel_rfl : addN (mulN (cosM 7) (cosM 7)) (mulN (cosM 1) (cosM 1)) = oneN)
  · rw [h]; exact (by kernel_rfl : addN (mulN (cosM 8) (cosM 8)) (mulN (cosM 2) (cosM 2)) = oneN)
  · rw [h]; exact (by kernel_rfl : addN (mulN (cosM 9) (cosM 9)) (mulN (cosM 3) (cosM 3)) = oneN)
  · rw [h]; exact (by kernel_rfl : addN (mulN (cosM 10) (cosM 10)) (mulN (cosM 4) (cosM 4)) = oneN)
  · rw [h]; exact (by kernel_rfl : addN (mulN (cosM 11) (cosM 11)) (mulN (cosM 5) (cosM 5)) = oneN)
  · rw [h]; exact (by kernel_rfl : addN (mulN (cosM 12) (cosM 12)) (mulN (cosM 6) (cosM 6)) = oneN)
  · rw [h]; exact (by kernel_rfl : addN (mulN (cosM 13) (cosM 13)) (mulN (cosM 7) (cosM 7)) = oneN)
  · rw [h]; exact (by kernel_rfl : addN (mulN (cosM 14) (cosM 14)) (mulN (cosM 8) (cosM 8)) = oneN)
  · rw [h]; exact (by kernel_rfl : addN (mulN (cosM 15) (cosM 15)) (mulN (cosM 9) (cosM 9)) = oneN)
  · rw [h]; exact (by kernel_rfl : addN (mulN (cosM 16) (cosM 16)) (mulN (cosM 10) (cosM 10)) = oneN)
  · rw [h]; exact (by kernel_rfl : addN (mulN (cosM 17) (cosM 17)) (mulN (cosM 11) (cosM 11)) = oneN)
  · rw [h]; exact (by kernel_rfl : addN (mulN (cosM 18) (cosM 18)) (mulN (cosM 12) (cosM 12)) = oneN)
  · rw [h]; exact (by kernel_rfl : addN (mulN (cosM 19) (cosM 19)) (mulN (cosM 13) (cosM 13)) = oneN)
  · rw [h]; exact (by kernel_rfl : addN (mulN (cosM 20) (cosM 20)) (mulN (cosM 14) (cosM 14)) = oneN)
  · rw [h]; exact (by kernel_rfl : addN (mulN (cosM 21) (cosM 21)) (mulN (cosM 15) (cosM 15)) = oneN)
  · rw [h]; exact (by kernel_rfl : addN (mulN (cosM 22) (cosM 22)) (mulN (cosM 16) (cosM 16)) = oneN)
  · rw [h]; exact (by kernel_rfl : addN (mulN (cosM 23) (cosM 23)) (mulN (cosM 17) (cosM 17)) = oneN)
theorem wright_yes (u : V3) (w : World) (hu : BNV 80000000 u) (ou : OkV u) : Calls Tryz.prog 87 #[vV u] w (RetV (.bool true) w) := by
  have V1 := fun w => gValid_yes u.x w hu.x ou.x
  have V2 := fun w => gValid_yes u.y w hu.y ou.y
  have V3 := fun w => gValid_yes u.z w hu.z ou.z
  exact vm_pure kr Tryz.func87 rfl [vV u] nle [] [.t, .t, .t, .t, .t, .t, .t, .t] [cV (V1), cV (V2), cV (V3)]
theorem wTurn_any (u : V3) (i : Int) (w : World) (hu : BNV 7000000 u) (ou : OkV u) (h0 : -1000 ≤ i) (h1 : i ≤ 1000) : Calls Tryz.prog 17 #[vV u, .int .i64 i] w (RetV (vV (trnV (cosN i) (sinN i) u)) w) := by
  have R := fun w => wright_yes u w (hu.mono (by omega)) ou
  have CO := fun w => wCos_any i w h0 h1
  have SI := fun w => wSin_any i w h0 h1
  obtain ⟨oc, bc⟩ := cosN_ok i
  obtain ⟨os, bs⟩ := cosN_ok (i % 24 - 6)
  change Ok (sinN i) at os
  change BN 1 (sinN i) at bs
  have bc := bc.mono (show 1 ≤ 7000000 by omega)
  have bs := bs.mono (show 1 ≤ 7000000 by omega)
  unfold trnV
  generalize cosN i = c at *
  generalize sinN i = s at *
  have M1 := fun w => gMul_any c u.x w (bc.mono (by omega)) (hu.x.mono (by omega)) oc ou.x
  have M2 := fun w => gMul_any s u.y w (bs.mono (by omega)) (hu.y.mono (by omega)) os ou.y
  have S := fun w => gSub_any _ _ w ((bc.mulN hu.x oc.ne ou.x.ne).mono (by omega)) ((bs.mulN hu.y os.ne ou.y.ne).mono (by omega)) (mulN_ok oc ou.x) (mulN_ok os ou.y)
  have M3 := fun w => gMul_any s u.x w (bs.mono (by omega)) (hu.x.mono (by omega)) os ou.x
  have M4 := fun w => gMul_any c u.y w (bc.mono (by omega)) (hu.y.mono (by omega)) oc ou.y
  have A := fun w => gAdd_any _ _ w ((bs.mulN hu.x os.ne ou.x.ne).mono (by omega)) ((bc.mulN hu.y oc.ne ou.y.ne).mono (by omega)) (mulN_ok os ou.x) (mulN_ok oc ou.y)
  clear hu bc bs
  generalize mulN c u.x = m1 at *
  generalize mulN s u.y = m2 at *
  generalize mulN s u.x = m3 at *
  generalize mulN c u.y = m4 at *
  generalize subN m1 m2 = d at *
  generalize addN m3 m4 = e at *
  exact vm_pure kr Tryz.func17 rfl [vV u, .int .i64 i] nle [] [.f] [cV (R), cV (CO), cV (SI), cV (M1), cV (M2), cV (S), cV (M3), cV (M4), cV (A)]
end Go.Proofs.YtegnalgjjmpcmaaGreatDoor
