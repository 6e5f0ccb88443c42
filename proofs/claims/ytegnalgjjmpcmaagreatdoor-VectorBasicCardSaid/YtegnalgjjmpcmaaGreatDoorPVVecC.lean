/- Comparison of vectors, by the given program and by the reference. -/
import Derived.Test.YtegnalgjjmpcmaaGreatDoorPVVecU
namespace Go.Proofs.YtegnalgjjmpcmaaGreatDoor
open Go Go.RowKit
set_option maxRecDepth 100000
set_option linter.unusedVariables false
set_option linter.unusedSimpArgs false
def firstN (a b c : Int) : Int := if a ≠ 0 then a else if b ≠ 0 then b else c
theorem cmpV_first (u v : V3) : cmpV u v = firstN (cmpK u.x v.x) (cmpK u.y v.y) (cmpK u.z v.z) := rfl
def cI3 (a b c : Int) : Array Value := #[.int .i64 a, .int .i64 b, .int .i64 c]
theorem cmpOr_any (a b c : Int) (B : Nat) (w : World) (hB : Hc w B 3 (cI3 a b c)) : Calls Tryz.prog 99 #[.slice (some ⟨B, 0, none⟩) 3 3] w (fun e w' => e = .returned (.int .i64 (firstN a b c)) ∧ Hc w' B 3 (cI3 a b c) ∧ Chg [B] w w') := by
  unfold firstN
  by_cases ha : a = 0
  · have ea : (a != 0) = false := by simp [ha]
    rw [if_neg (by omega)]
    by_cases hb : b = 0
    · have eb : (b != 0) = false := by simp [hb]
      rw [if_neg (by omega)]
      by_cases hc : c = 0
      · have ec : (c != 0) = false := by simp [hc]
        have e0 : (Value.int .i64 c) = .int .i64 0 := by rw [hc]
        rw [e0]
        exact vm_blk kr Tryz.func99 rfl (fun b => .slice (some ⟨b, 0, none⟩) 3 3) B 3 (cI3 a b c) (cI3 a b c) (hB) [] nle [] [.t, (.p _ false ea), .t, (.p _ false eb), .t, (.p _ false ec), .f] []
      · have ec : (c != 0) = true := by simpa using hc
        exact vm_blk kr Tryz.func99 rfl (fun b => .slice (some ⟨b, 0, none⟩) 3 3) B 3 (cI3 a b c) (cI3 a b c) (hB) [] nle [] [.t, (.p _ false ea), .t, (.p _ false eb), .t, (.p _ true ec)] []
    · have eb : (b != 0) = true := by simpa using hb
      rw [if_pos hb]
      exact vm_blk kr Tryz.func99 rfl (fun b => .slice (some ⟨b, 0, none⟩) 3 3) B 3 (cI3 a b c) (cI3 a b c) (hB) [] nle [] [.t, (.p _ false ea), .t, (.p _ true eb)] []
  · have ea : (a != 0) = true := by simpa using ha
    rw [if_pos ha]
    exact vm_blk kr Tryz.func99 rfl (fun b => .slice (some ⟨b, 0, none⟩) 3 3) B 3 (cI3 a b c) (cI3 a b c) (hB) [] nle [] [.t, (.p _ true ea)] []
theorem vCmp_any (u v : V3) (w : World) (hu : BNV 7000000 u) (hv : BNV 7000000 v) (ou : OkV u) (ov : OkV v) : Calls Tryz.prog 34 #[vV u, vV v] w (RetN (cmpV u v) w) := by
  have V1 := fun w => vValid_yes u w (hu.mono (by omega)) ou
  have V2 := fun w => vValid_yes v w (hv.mono (by omega)) ov
  have C1 := fun w => fCmp_any u.x v.x w (hu.x.mono (by omega)) (hv.x.mono (by omega)) ou.x ov.x
  have C2 := fun w => fCmp_any u.y v.y w (hu.y.mono (by omega)) (hv.y.mono (by omega)) ou.y ov.y
  have C3 := fun w => fCmp_any u.z v.z w (hu.z.mono (by omega)) (hv.z.mono (by omega)) ou.z ov.z
  rw [cmpV_first]
  generalize cmpK u.x v.x = a at *
  generalize cmpK u.y v.y = b at *
  generalize cmpK u.z v.z = c at *
  have O := fun B w h => cmpOr_any a b c B w h
  generalize firstN a b c = f at *
  exact vm_pure kr Tryz.func34 rfl [vV u, vV v] nle [] [.f, .f, .f, .f, .f] [cV (V1), cV (V2), cV (C1), cV (C2), cV (C3), cU 26 3 (cI3 a b c) (cI3 a b c) (fun b w hc hB => O b w hB)]
theorem vCmp_no1 (r s : Rv) (w : World) (hr : smallRV 80000000 r) (h : okRV r = false) : Calls Tryz.prog 34 #[vRV r, vRV s] w (RetN 0 w) := by
  have V1 := fun w => vValid_no r w hr h
  exact vm_pure kr Tryz.func34 rfl [vRV r, vRV s] nle [] [.t, .t, .t, .t, .t] [cV (V1)]
theorem vCmp_no2 (r s : Rv) (w : World) (hr : smallRV 80000000 r) (hs : smallRV 80000000 s) (h : okRV r = true) (h2 : okRV s = false) : Calls Tryz.prog 34 #[vRV r, vRV s] w (RetN 0 w) := by
  have V1 := fun w => vValid_any r w hr
  rw [h] at V1
  have V2 := fun w => vValid_no s w hs h2
  exact vm_pure kr Tryz.func34 rfl [vRV r, vRV s] nle [] [.f, .f, .f, .f, .t] [cV (V1), cV (V2)]
theorem uCmp_any (u v : V3) (w : World) (hu : BNV 7000000 u) (hv : BNV 7000000 v) (ou : OkV u) (ov : OkV v) : Calls Tryz.prog 43 #[vV u, vV v] w (RetN (cmpV u v) w) := by
  have V1 := fun w => uValid_yes u w (hu.mono (by omega)) ou
  have V2 := fun w => uValid_yes v w (hv.mono (by omega)) ov
  have C1 := fun w => gCmp_any u.x v.x w (hu.x.mono (by omega)) (hv.x.mono (by omega)) ou.x ov.x
  have C2 := fun w => gCmp_any u.y v.y w (hu.y.mono (by omega)) (hv.y.mono (by omega)) ou.y ov.y
  have C3 := fun w => gCmp_any u.z v.z w (hu.z.mono (by omega)) (hv.z.mono (by omega)) ou.z ov.z
  rw [cmpV_first]
  unfold firstN
  generalize cmpK u.x v.x = a at *
  generalize cmpK u.y v.y = b at *
  generalize cmpK u.z v.z = c at *
  by_cases ha : a = 0
  · have ea : (a != 0) = false := by simp [ha]
    rw [if_neg (by omega)]
    by_cases hb : b = 0
    · have eb : (b != 0) = false := by simp [hb]
      rw [if_neg (by omega)]
      exact vm_pure kr Tryz.func43 rfl [vV u, vV v] nle [] [.f, .f, .f, .f, .f, (.p _ false ea), (.p _ false eb)] [cV (V1), cV (V2), cV (C1), cV (C2), cV (C3)]
    · have eb : (b != 0) = true := by simpa using hb
      rw [if_pos hb]
      exact vm_pure kr Tryz.func43 rfl [vV u, vV v] nle [] [.f, .f, .f, .f, .f, (.p _ false ea), (.p _ true eb)] [cV (V1), cV (V2), cV (C1), cV (C2)]
  · have ea : (a != 0) = true := by simpa using ha
    rw [if_pos ha]
    exact vm_pure kr Tryz.func43 rfl [vV u, vV v] nle [] [.f, .f, .f, .f, .f, (.p _ true ea)] [cV (V1), cV (V2), cV (C1)]
theorem uCmp_no1 (r s : Rv) (w : World) (hr : smallRV 80000000 r) (h : okRV r = false) : Calls Tryz.prog 43 #[vRV r, vRV s] w (RetN 0 w) := by
  have V1 := fun w => uValid_no r w hr h
  exact vm_pure kr Tryz.func43 rfl [vRV r, vRV s] nle [] [.t, .t, .t, .t, .t] [cV (V1)]
theorem uCmp_no2 (r s : Rv) (w : World) (hr : smallRV 80000000 r) (hs : smallRV 80000000 s) (h : okRV r = true) (h2 : okRV s = false) : Calls Tryz.prog 43 #[vRV r, vRV s] w (RetN 0 w) := by
  have V1 := fun w => uValid_any r w hr
  rw [h] at V1
  have V2 := fun w => uValid_no s w hs h2
  exact vm_pure kr Tryz.func43 rfl [vRV r, vRV s] nle [] [.f, .f, .f, .f, .t] [cV (V1), cV (V2)]
end Go.Proofs.YtegnalgjjmpcmaaGreatDoor
