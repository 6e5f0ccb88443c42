/- The vectors' laws: their guards. -/
import Derived.Test.YtegnalgjjmpcmaaGreatDoorPVVecU
namespace Go.Proofs.YtegnalgjjmpcmaaGreatDoor
open Go Go.RowKit
set_option maxRecDepth 100000
set_option linter.unusedVariables false
set_option linter.unusedSimpArgs false
def cellsV1 (u : Rv) : Array Value := #[.bool u.x.n0, .string u.x.s0, .bool u.x.n1, .string u.x.s1, .bool u.x.n2, .string u.x.s2, .bool u.x.n3, .string u.x.s3, .bool u.x.n4, .string u.x.s4, .bool u.y.n0, .string u.y.s0, .bool u.y.n1, .string u.y.s1, .bool u.y.n2, .string u.y.s2, .bool u.y.n3, .string u.y.s3, .bool u.y.n4, .string u.y.s4, .bool u.z.n0, .string u.z.s0, .bool u.z.n1, .string u.z.s1, .bool u.z.n2, .string u.z.s2, .bool u.z.n3, .string u.z.s3, .bool u.z.n4, .string u.z.s4]
def cellsV2 (u v : Rv) : Array Value := #[.bool u.x.n0, .string u.x.s0, .bool u.x.n1, .string u.x.s1, .bool u.x.n2, .string u.x.s2, .bool u.x.n3, .string u.x.s3, .bool u.x.n4, .string u.x.s4, .bool u.y.n0, .string u.y.s0, .bool u.y.n1, .string u.y.s1, .bool u.y.n2, .string u.y.s2, .bool u.y.n3, .string u.y.s3, .bool u.y.n4, .string u.y.s4, .bool u.z.n0, .string u.z.s0, .bool u.z.n1, .string u.z.s1, .bool u.z.n2, .string u.z.s2, .bool u.z.n3, .string u.z.s3, .bool u.z.n4, .string u.z.s4, .bool v.x.n0, .string v.x.s0, .bool v.x.n1, .string v.x.s1, .bool v.x.n2, .string v.x.s2, .bool v.x.n3, .string v.x.s3, .bool v.x.n4, .string v.x.s4, .bool v.y.n0, .string v.y.s0, .bool v.y.n1, .string v.y.s1, .bool v.y.n2, .string v.y.s2, .bool v.y.n3, .string v.y.s3, .bool v.y.n4, .string v.y.s4, .bool v.z.n0, .string v.z.s0, .bool v.z.n1, .string v.z.s1, .bool v.z.n2, .string v.z.s2, .bool v.z.n3, .string v.z.s3, .bool v.z.n4, .string v.z.s4]
theorem vfew2_0 (u v : Rv) (b : Nat) (w : World) (hB : Hc w b 28 (cellsV2 u v)) (h0 : rawV u = false) : Calls Tryz.prog 20 #[.slice (some ⟨b, 0, none⟩) 2 2] w (fun e w' => e = .returned (.bool false) ∧ Hc w' b 28 (cellsV2 u v) ∧ Chg [b] w w') := by
  have R0 := fun w => uRaw_any u w
  rw [h0] at R0
  exact vm_blk kr Tryz.func20 rfl (fun b => .slice (some ⟨b, 0, none⟩) 2 2) b 28 (cellsV2 u v) (cellsV2 u v) (hB) [] nle [] [.t, .t] [cV (R0)]
theorem vfew2_1 (u v : Rv) (b : Nat) (w : World) (hB : Hc w b 28 (cellsV2 u v)) (h0 : rawV u = true) (h1 : rawV v = false) : Calls Tryz.prog 20 #[.slice (some ⟨b, 0, none⟩) 2 2] w (fun e w' => e = .returned (.bool false) ∧ Hc w' b 28 (cellsV2 u v) ∧ Chg [b] w w') := by
  have R0 := fun w => uRaw_any u w
  rw [h0] at R0
  have R1 := fun w => uRaw_any v w
  rw [h1] at R1
  exact vm_blk kr Tryz.func20 rfl (fun b => .slice (some ⟨b, 0, none⟩) 2 2) b 28 (cellsV2 u v) (cellsV2 u v) (hB) [] nle [] [.t, .f, .t, .t] [cV (R0), cV (R1)]
theorem vfew2_2 (u v : Rv) (b : Nat) (w : World) (hB : Hc w b 28 (cellsV2 u v)) (h0 : rawV u = true) (h1 : rawV v = true) : Calls Tryz.prog 20 #[.slice (some ⟨b, 0, none⟩) 2 2] w (fun e w' => e = .returned (.bool true) ∧ Hc w' b 28 (cellsV2 u v) ∧ Chg [b] w w') := by
  have R0 := fun w => uRaw_any u w
  rw [h0] at R0
  have R1 := fun w => uRaw_any v w
  rw [h1] at R1
  exact vm_blk kr Tryz.func20 rfl (fun b => .slice (some ⟨b, 0, none⟩) 2 2) b 28 (cellsV2 u v) (cellsV2 u v) (hB) [] nle [] [.t, .f, .t, .f, .f] [cV (R0), cV (R1)]
theorem vfew2_any (u v : Rv) (b : Nat) (w : World) (hB : Hc w b 28 (cellsV2 u v)) : Calls Tryz.prog 20 #[.slice (some ⟨b, 0, none⟩) 2 2] w (fun e w' => e = .returned (.bool (rawV u && rawV v)) ∧ Hc w' b 28 (cellsV2 u v) ∧ Chg [b] w w') := by
  cases h0 : rawV u with
  | false => (try simp only [Bool.false_and, Bool.and_false, Bool.true_and]); exact vfew2_0 u v b w hB h0
  | true =>
    cases h1 : rawV v with
    | false => (try simp only [Bool.false_and, Bool.and_false, Bool.true_and]); exact vfew2_1 u v b w hB h0 h1
    | true =>
      (try simp only [Bool.true_and, Bool.and_true]); exact vfew2_2 u v b w hB h0 h1
theorem vright2_f (u v : Rv) (b : Nat) (w : World) (hB : Hc w b 28 (cellsV2 u v)) (hf : (rawV u && rawV v) = false) : Calls Tryz.prog 16 #[.slice (some ⟨b, 0, none⟩) 2 2] w (fun e w' => e = .returned (.bool false) ∧ Hc w' b 28 (cellsV2 u v) ∧ Chg [b] w w') := by
  have F := fun b w h => vfew2_any u v b w h
  rw [hf] at F
  exact vm_blk kr Tryz.func16 rfl (fun b => .slice (some ⟨b, 0, none⟩) 2 2) b 28 (cellsV2 u v) (cellsV2 u v) (hB) [] nle [] [.t] [cU 0 28 (cellsV2 u v) (cellsV2 u v) (fun b w hc hB => F b w hB)]
theorem vright2_0 (u v : Rv) (b : Nat) (w : World) (hB : Hc w b 28 (cellsV2 u v)) (s0 : smallRV 80000000 u) (s1 : smallRV 80000000 v) (hf : (rawV u && rawV v) = true) (h0 : okRV u = false) : Calls Tryz.prog 16 #[.slice (some ⟨b, 0, none⟩) 2 2] w (fun e w' => e = .returned (.bool false) ∧ Hc w' b 28 (cellsV2 u v) ∧ Chg [b] w w') := by
  have F := fun b w h => vfew2_any u v b w h
  rw [hf] at F
  have R0 := fun w => uValid_any u w s0
  rw [h0] at R0
  exact vm_blk kr Tryz.func16 rfl (fun b => .slice (some ⟨b, 0, none⟩) 2 2) b 28 (cellsV2 u v) (cellsV2 u v) (hB) [] nle [] [.f, .t, .t] [cU 0 28 (cellsV2 u v) (cellsV2 u v) (fun b w hc hB => F b w hB), cV (R0)]
theorem vright2_1 (u v : Rv) (b : Nat) (w : World) (hB : Hc w b 28 (cellsV2 u v)) (s0 : smallRV 80000000 u) (s1 : smallRV 80000000 v) (hf : (rawV u && rawV v) = true) (h0 : okRV u = true) (h1 : okRV v = false) : Calls Tryz.prog 16 #[.slice (some ⟨b, 0, none⟩) 2 2] w (fun e w' => e = .returned (.bool false) ∧ Hc w' b 28 (cellsV2 u v) ∧ Chg [b] w w') := by
  have F := fun b w h => vfew2_any u v b w h
  rw [hf] at F
  have R0 := fun w => uValid_any u w s0
  rw [h0] at R0
  have R1 := fun w => uValid_any v w s1
  rw [h1] at R1
  exact vm_blk kr Tryz.func16 rfl (fun b => .slice (some ⟨b, 0, none⟩) 2 2) b 28 (cellsV2 u v) (cellsV2 u v) (hB) [] nle [] [.f, .t, .f, .t, .t] [cU 0 28 (cellsV2 u v) (cellsV2 u v) (fun b w hc hB => F b w hB), cV (R0), cV (R1)]
theorem vright2_2 (u v : Rv) (b : Nat) (w : World) (hB : Hc w b 28 (cellsV2 u v)) (s0 : smallRV 80000000 u) (s1 : smallRV 80000000 v) (hf : (rawV u && rawV v) = true) (h0 : okRV u = true) (h1 : okRV v = true) : Calls Tryz.prog 16 #[.slice (some ⟨b, 0, none⟩) 2 2] w (fun e w' => e = .returned (.bool true) ∧ Hc w' b 28 (cellsV2 u v) ∧ Chg [b] w w') := by
  have F := fun b w h => vfew2_any u v b w h
  rw [hf] at F
  have R0 := fun w => uValid_any u w s0
  rw [h0] at R0
  have R1 := fun w => uValid_any v w s1
  rw [h1] at R1
  exact vm_blk kr Tryz.func16 rfl (fun b => .slice (some ⟨b, 0, none⟩) 2 2) b 28 (cellsV2 u v) (cellsV2 u v) (hB) [] nle [] [.f, .t, .f, .t, .f, .f] [cU 0 28 (cellsV2 u v) (cellsV2 u v) (fun b w hc hB => F b w hB), cV (R0), cV (R1)]
def rightV2 (u v : Rv) : Bool := (rawV u && rawV v) && (okRV u && okRV v)
theorem vright2_any (u v : Rv) (b : Nat) (w : World) (hB : Hc w b 28 (cellsV2 u v)) : Calls Tryz.prog 16 #[.slice (some ⟨b, 0, none⟩) 2 2] w (fun e w' => e = .returned (.bool (rightV2 u v)) ∧ Hc w' b 28 (cellsV2 u v) ∧ Chg [b] w w') := by
  unfold rightV2
  cases hf : (rawV u && rawV v) with
  | false => rw [Bool.false_and]; exact vright2_f u v b w hB hf
  | true =>
    rw [Bool.true_and]
    have hf' := hf
    simp only [Bool.and_eq_true] at hf'
    have s0 := (rawV_small hf'.1).mono (show 12 ≤ 80000000 by omega)
    have s1 := (rawV_small hf'.2).mono (show 12 ≤ 80000000 by omega)
    cases h0 : okRV u with
    | false => (try simp only [Bool.false_and, Bool.and_false, Bool.true_and]); exact vright2_0 u v b w hB s0 s1 hf h0
    | true =>
      cases h1 : okRV v with
      | false => (try simp only [Bool.false_and, Bool.and_false, Bool.true_and]); exact vright2_1 u v b w hB s0 s1 hf h0 h1
      | true =>
        (try simp only [Bool.true_and, Bool.and_true]); exact vright2_2 u v b w hB s0 s1 hf h0 h1
def cellsV3 (u v x : Rv) : Array Value := #[.bool u.x.n0, .string u.x.s0, .bool u.x.n1, .string u.x.s1, .bool u.x.n2, .string u.x.s2, .bool u.x.n3, .string u.x.s3, .bool u.x.n4, .string u.x.s4, .bool u.y.n0, .string u.y.s0, .bool u.y.n1, .string u.y.s1, .bool u.y.n2, .string u.y.s2, .bool u.y.n3, .string u.y.s3, .bool u.y.n4, .string u.y.s4, .bool u.z.n0, .string u.z.s0, .bool u.z.n1, .string u.z.s1, .bool u.z.n2, .string u.z.s2, .bool u.z.n3, .string u.z.s3, .bool u.z.n4, .string u.z.s4, .bool v.x.n0, .string v.x.s0, .bool v.x.n1, .string v.x.s1, .bool v.x.n2, .string v.x.s2, .bool v.x.n3, .string v.x.s3, .bool v.x.n4, .string v.x.s4, .bool v.y.n0, .string v.y.s0, .bool v.y.n1, .string v.y.s1, .bool v.y.n2, .string v.y.s2, .bool v.y.n3, .string v.y.s3, .bool v.y.n4, .string v.y.s4, .bool v.z.n0, .string v.z.s0, .bool v.z.n1, .string v.z.s1, .bool v.z.n2, .string v.z.s2, .bool v.z.n3, .string v.z.s3, .bool v.z.n4, .string v.z.s4, .bool x.x.n0, .string x.x.s0, .bool x.x.n1, .string x.x.s1, .bool x.x.n2, .string x.x.s2, .bool x.x.n3, .string x.x.s3, .bool x.x.n4, .string x.x.s4, .bool x.y.n0, .string x.y.s0, .bool x.y.n1, .string x.y.s1, .bool x.y.n2, .string x.y.s2, .bool x.y.n3, .string x.y.s3, .bool x.y.n4, .string x.y.s4, .bool x.z.n0, .string x.z.s0, .bool x.z.n1, .string x.z.s1, .bool x.z.n2, .string x.z.s2, .bool x.z.n3, .string x.z.s3, .bool x.z.n4, .string x.z.s4]
theorem vfew3_0 (u v x : Rv) (b : Nat) (w : World) (hB : Hc w b 28 (cellsV3 u v x)) (h0 : rawV u = false) : Calls Tryz.prog 20 #[.slice (some ⟨b, 0, none⟩) 3 3] w (fun e w' => e = .returned (.bool false) ∧ Hc w' b 28 (cellsV3 u v x) ∧ Chg [b] w w') := by
  have R0 := fun w => uRaw_any u w
  rw [h0] at R0
  exact vm_blk kr Tryz.func20 rfl (fun b => .slice (some ⟨b, 0, none⟩) 3 3) b 28 (cellsV3 u v x) (cellsV3 u v x) (hB) [] nle [] [.t, .t] [cV (R0)]
theorem vfew3_1 (u v x : Rv) (b : Nat) (w : World) (hB : Hc w b 28 (cellsV3 u v x)) (h0 : rawV u = true) (h1 : rawV v = false) : Calls Tryz.prog 20 #[.slice (some ⟨b, 0, none⟩) 3 3] w (fun e w' => e = .returned (.bool false) ∧ Hc w' b 28 (cellsV3 u v x) ∧ Chg [b] w w') := by
  have R0 := fun w => uRaw_any u w
  rw [h0] at R0
  have R1 := fun w => uRaw_any v w
  rw [h1] at R1
  exact vm_blk kr Tryz.func20 rfl (fun b => .slice (some ⟨b, 0, none⟩) 3 3) b 28 (cellsV3 u v x) (cellsV3 u v x) (hB) [] nle [] [.t, .f, .t, .t] [cV (R0), cV (R1)]
theorem vfew3_2 (u v x : Rv) (b : Nat) (w : World) (hB : Hc w b 28 (cellsV3 u v x)) (h0 : rawV u = true) (h1 : rawV v = true) (h2 : rawV x = false) : Calls Tryz.prog 20 #[.slice (some ⟨b, 0, none⟩) 3 3] w (fun e w' => e = .returned (.bool false) ∧ Hc w' b 28 (cellsV3 u v x) ∧ Chg [b] w w') := by
  have R0 := fun w => uRaw_any u w
  rw [h0] at R0
  have R1 := fun w => uRaw_any v w
  rw [h1] at R1
  have R2 := fun w => uRaw_any x w
  rw [h2] at R2
  exact vm_blk kr Tryz.func20 rfl (fun b => .slice (some ⟨b, 0, none⟩) 3 3) b 28 (cellsV3 u v x) (cellsV3 u v x) (hB) [] nle [] [.t, .f, .t, .f, .t, .t] [cV (R0), cV (R1), cV (R2)]
theorem vfew3_3 (u v x : Rv) (b : Nat) (w : World) (hB : Hc w b 28 (cellsV3 u v x)) (h0 : rawV u = true) (h1 : rawV v = true) (h2 : rawV x = true) : Calls Tryz.prog 20 #[.slice (some ⟨b, 0, none⟩) 3 3] w (fun e w' => e = .returned (.bool true) ∧ Hc w' b 28 (cellsV3 u v x) ∧ Chg [b] w w') := by
  have R0 := fun w => uRaw_any u w
  rw [h0] at R0
  have R1 := fun w => uRaw_any v w
  rw [h1] at R1
  have R2 := fun w => uRaw_any x w
  rw [h2] at R2
  exact vm_blk kr Tryz.func20 rfl (fun b => .slice (some ⟨b, 0, none⟩) 3 3) b 28 (cellsV3 u v x) (cellsV3 u v x) (hB) [] nle [] [.t, .f, .t, .f, .t, .f, .f] [cV (R0), cV (R1), cV (R2)]
theorem vfew3_any (u v x : Rv) (b : Nat) (w : World) (hB : Hc w b 28 (cellsV3 u v x)) : Calls Tryz.prog 20 #[.slice (some ⟨b, 0, none⟩) 3 3] w (fun e w' => e = .returned (.bool (rawV u && rawV v && rawV x)) ∧ Hc w' b 28 (cellsV3 u v x) ∧ Chg [b] w w') := by
  cases h0 : rawV u with
  | false => (try simp only [Bool.false_and, Bool.and_false, Bool.true_and]); exact vfew3_0 u v x b w hB h0
  | true =>
    cases h1 : rawV v with
    | false => (try simp only [Bool.false_and, Bool.and_false, Bool.true_and]); exact vfew3_1 u v x b w hB h0 h1
    | true =>
      cases h2 : rawV x with
      | false => (try simp only [Bool.false_and, Bool.and_false, Bool.true_and]); exact vfew3_2 u v x b w hB h0 h1 h2
      | true =>
        (try simp only [Bool.true_and, Bool.and_true]); exact vfew3_3 u v x b w hB h0 h1 h2
theorem vright3_f (u v x : Rv) (b : Nat) (w : World) (hB : Hc w b 28 (cellsV3 u v x)) (hf : (rawV u && rawV v && rawV x) = false) : Calls Tryz.prog 16 #[.slice (some ⟨b, 0, none⟩) 3 3] w (fun e w' => e = .returned (.bool false) ∧ Hc w' b 28 (cellsV3 u v x) ∧ Chg [b] w w') := by
  have F := fun b w h => vfew3_any u v x b w h
  rw [hf] at F
  exact vm_blk kr Tryz.func16 rfl (fun b => .slice (some ⟨b, 0, none⟩) 3 3) b 28 (cellsV3 u v x) (cellsV3 u v x) (hB) [] nle [] [.t] [cU 0 28 (cellsV3 u v x) (cellsV3 u v x) (fun b w hc hB => F b w hB)]
theorem vright3_0 (u v x : Rv) (b : Nat) (w : World) (hB : Hc w b 28 (cellsV3 u v x)) (s0 : smallRV 80000000 u) (s1 : smallRV 80000000 v) (s2 : smallRV 80000000 x) (hf : (rawV u && rawV v && rawV x) = true) (h0 : okRV u = false) : Calls Tryz.prog 16 #[.slice (some ⟨b, 0, none⟩) 3 3] w (fun e w' => e = .returned (.bool false) ∧ Hc w' b 28 (cellsV3 u v x) ∧ Chg [b] w w') := by
  have F := fun b w h => vfew3_any u v x b w h
  rw [hf] at F
  have R0 := fun w => uValid_any u w s0
  rw [h0] at R0
  exact vm_blk kr Tryz.func16 rfl (fun b => .slice (some ⟨b, 0, none⟩) 3 3) b 28 (cellsV3 u v x) (cellsV3 u v x) (hB) [] nle [] [.f, .t, .t] [cU 0 28 (cellsV3 u v x) (cellsV3 u v x) (fun b w hc hB => F b w hB), cV (R0)]
theorem vright3_1 (u v x : Rv) (b : Nat) (w : World) (hB : Hc w b 28 (cellsV3 u v x)) (s0 : smallRV 80000000 u) (s1 : smallRV 80000000 v) (s2 : smallRV 80000000 x) (hf : (rawV u && rawV v && rawV x) = true) (h0 : okRV u = true) (h1 : okRV v = false) : Calls Tryz.prog 16 #[.slice (some ⟨b, 0, none⟩) 3 3] w (fun e w' => e = .returned (.bool false) ∧ Hc w' b 28 (cellsV3 u v x) ∧ Chg [b] w w') := by
  have F := fun b w h => vfew3_any u v x b w h
  rw [hf] at F
  have R0 := fun w => uValid_any u w s0
  rw [h0] at R0
  have R1 := fun w => uValid_any v w s1
  rw [h1] at R1
  exact vm_blk kr Tryz.func16 rfl (fun b => .slice (some ⟨b, 0, none⟩) 3 3) b 28 (cellsV3 u v x) (cellsV3 u v x) (hB) [] nle [] [.f, .t, .f, .t, .t] [cU 0 28 (cellsV3 u v x) (cellsV3 u v x) (fun b w hc hB => F b w hB), cV (R0), cV (R1)]
theorem vright3_2 (u v x : Rv) (b : Nat) (w : World) (hB : Hc w b 28 (cellsV3 u v x)) (s0 : smallRV 80000000 u) (s1 : smallRV 80000000 v) (s2 : smallRV 80000000 x) (hf : (rawV u && rawV v && rawV x) = true) (h0 : okRV u = true) (h1 : okRV v = true) (h2 : okRV x = false) : Calls Tryz.prog 16 #[.slice (some ⟨b, 0, none⟩) 3 3] w (fun e w' => e = .returned (.bool false) ∧ Hc w' b 28 (cellsV3 u v x) ∧ Chg [b] w w') := by
  have F := fun b w h => vfew3_any u v x b w h
  rw [hf] at F
  have R0 := fun w => uValid_any u w s0
  rw [h0] at R0
  have R1 := fun w => uValid_any v w s1
  rw [h1] at R1
  have R2 := fun w => uValid_any x w s2
  rw [h2] at R2
  exact vm_blk kr Tryz.func16 rfl (fun b => .slice (some ⟨b, 0, none⟩) 3 3) b 28 (cellsV3 u v x) (cellsV3 u v x) (hB) [] nle [] [.f, .t, .f, .t, .f, .t, .t] [cU 0 28 (cellsV3 u v x) (cellsV3 u v x) (fun b w hc hB => F b w hB), cV (R0), cV (R1), cV (R2)]
theorem vright3_3 (u v x : Rv) (b : Nat) (w : World) (hB : Hc w b 28 (cellsV3 u v x)) (s0 : smallRV 80000000 u) (s1 : smallRV 80000000 v) (s2 : smallRV 80000000 x) (hf : (rawV u && rawV v && rawV x) = true) (h0 : okRV u = true) (h1 : okRV v = true) (h2 : okRV x = true) : Calls Tryz.prog 16 #[.slice (some ⟨b, 0, none⟩) 3 3] w (fun e w' => e = .returned (.bool true) ∧ Hc w' b 28 (cellsV3 u v x) ∧ Chg [b] w w') := by
  have F := fun b w h => vfew3_any u v x b w h
  rw [hf] at F
  have R0 := fun w => uValid_any u w s0
  rw [h0] at R0
  have R1 := fun w => uValid_any v w s1
  rw [h1] at R1
  have R2 := fun w => uValid_any x w s2
  rw [h2] at R2
  exact vm_blk kr Tryz.func16 rfl (fun b => .slice (some ⟨b, 0, none⟩) 3 3) b 28 (cellsV3 u v x) (cellsV3 u v x) (hB) [] nle [] [.f, .t, .f, .t, .f, .t, .f, .f] [cU 0 28 (cellsV3 u v x) (cellsV3 u v x) (fun b w hc hB => F b w hB), cV (R0), cV (R1), cV (R2)]
def rightV3 (u v x : Rv) : Bool := (rawV u && rawV v && rawV x) && (okRV u && okRV v && okRV x)
theorem vright3_any (u v x : Rv) (b : Nat) (w : World) (hB : Hc w b 28 (cellsV3 u v x)) : Calls Tryz.prog 16 #[.slice (some ⟨b, 0, none⟩) 3 3] w (fun e w' => e = .returned (.bool (rightV3 u v x)) ∧ Hc w' b 28 (cellsV3 u v x) ∧ Chg [b] w w') := by
  unfold rightV3
  cases hf : (rawV u && rawV v && rawV x) with
  | false => rw [Bool.false_and]; exact vright3_f u v x b w hB hf
  | true =>
    rw [Bool.true_and]
    have hf' := hf
    simp only [Bool.and_eq_true] at hf'
    have s0 := (rawV_small hf'.1.1).mono (show 12 ≤ 80000000 by omega)
    have s1 := (rawV_small hf'.1.2).mono (show 12 ≤ 80000000 by omega)
    have s2 := (rawV_small hf'.2).mono (show 12 ≤ 80000000 by omega)
    cases h0 : okRV u with
    | false => (try simp only [Bool.false_and, Bool.and_false, Bool.true_and]); exact vright3_0 u v x b w hB s0 s1 s2 hf h0
    | true =>
      cases h1 : okRV v with
      | false => (try simp only [Bool.false_and, Bool.and_false, Bool.true_and]); exact vright3_1 u v x b w hB s0 s1 s2 hf h0 h1
      | true =>
        cases h2 : okRV x with
        | false => (try simp only [Bool.false_and, Bool.and_false, Bool.true_and]); exact vright3_2 u v x b w hB s0 s1 s2 hf h0 h1 h2
        | true =>
          (try simp only [Bool.true_and, Bool.and_true]); exact vright3_3 u v x b w hB s0 s1 s2 hf h0 h1 h2
end Go.Proofs.YtegnalgjjmpcmaaGreatDoor
