/- The reference's vectors. -/
import Derived.Test.YtegnalgjjmpcmaaGreatDoorPVVecA
import Derived.Test.YtegnalgjjmpcmaaGreatDoorPVFieV
import Derived.Test.YtegnalgjjmpcmaaGreatDoorPVJ
import Derived.Test.YtegnalgjjmpcmaaGreatDoorPVK
namespace Go.Proofs.YtegnalgjjmpcmaaGreatDoor
open Go Go.RowKit
set_option maxRecDepth 100000
set_option linter.unusedVariables false
set_option linter.unusedSimpArgs false
def rawC (r : Rw) : Bool := decide (r.s0.size ≤ 12) && decide (r.s1.size ≤ 12) && decide (r.s2.size ≤ 12) && decide (r.s3.size ≤ 12) && decide (r.s4.size ≤ 12)
theorem rawC_small {r : Rw} (h : rawC r = true) : smallR 12 r := by
  unfold rawC at h
  simp only [Bool.and_eq_true, decide_eq_true_eq] at h
  obtain ⟨⟨⟨⟨h0, h1⟩, h2⟩, h3⟩, h4⟩ := h
  exact ⟨h0, h1, h2, h3, h4⟩
theorem gRaw12 (r : Rw) (w : World) : Calls Tryz.prog 101 #[vR r, .int .i64 12] w (RetV (.bool (rawC r)) w) := by
  unfold rawC
  by_cases h0 : r.s0.size ≤ 12
  rotate_left 1
  focus
    have e0 : decide ((12 : Int) < (r.s0.size : Int)) = true := decide_eq_true (by omega)
    rw [decide_eq_false h0]
    simp only [Bool.false_and, Bool.and_false]
    exact vm_pure kr Tryz.func101 rfl [.agg #[.bool r.n0, .string r.s0, .bool r.n1, .string r.s1, .bool r.n2, .string r.s2, .bool r.n3, .string r.s3, .bool r.n4, .string r.s4], .int .i64 12] nle [] [.t, (.p _ true e0)] []
  have e0 : decide ((12 : Int) < (r.s0.size : Int)) = false := decide_eq_false (by omega)
  rw [decide_eq_true h0]
  by_cases h1 : r.s1.size ≤ 12
  rotate_left 1
  focus
    have e1 : decide ((12 : Int) < (r.s1.size : Int)) = true := decide_eq_true (by omega)
    rw [decide_eq_false h1]
    simp only [Bool.false_and, Bool.and_false]
    exact vm_pure kr Tryz.func101 rfl [.agg #[.bool r.n0, .string r.s0, .bool r.n1, .string r.s1, .bool r.n2, .string r.s2, .bool r.n3, .string r.s3, .bool r.n4, .string r.s4], .int .i64 12] nle [] [.t, (.p _ false e0), .t, (.p _ true e1)] []
  have e1 : decide ((12 : Int) < (r.s1.size : Int)) = false := decide_eq_false (by omega)
  rw [decide_eq_true h1]
  by_cases h2 : r.s2.size ≤ 12
  rotate_left 1
  focus
    have e2 : decide ((12 : Int) < (r.s2.size : Int)) = true := decide_eq_true (by omega)
    rw [decide_eq_false h2]
    simp only [Bool.false_and, Bool.and_false]
    exact vm_pure kr Tryz.func101 rfl [.agg #[.bool r.n0, .string r.s0, .bool r.n1, .string r.s1, .bool r.n2, .string r.s2, .bool r.n3, .string r.s3, .bool r.n4, .string r.s4], .int .i64 12] nle [] [.t, (.p _ false e0), .t, (.p _ false e1), .t, (.p _ true e2)] []
  have e2 : decide ((12 : Int) < (r.s2.size : Int)) = false := decide_eq_false (by omega)
  rw [decide_eq_true h2]
  by_cases h3 : r.s3.size ≤ 12
  rotate_left 1
  focus
    have e3 : decide ((12 : Int) < (r.s3.size : Int)) = true := decide_eq_true (by omega)
    rw [decide_eq_false h3]
    simp only [Bool.false_and, Bool.and_false]
    exact vm_pure kr Tryz.func101 rfl [.agg #[.bool r.n0, .string r.s0, .bool r.n1, .string r.s1, .bool r.n2, .string r.s2, .bool r.n3, .string r.s3, .bool r.n4, .string r.s4], .int .i64 12] nle [] [.t, (.p _ false e0), .t, (.p _ false e1), .t, (.p _ false e2), .t, (.p _ true e3)] []
  have e3 : decide ((12 : Int) < (r.s3.size : Int)) = false := decide_eq_false (by omega)
  rw [decide_eq_true h3]
  by_cases h4 : r.s4.size ≤ 12
  rotate_left 1
  focus
    have e4 : decide ((r.s4.size : Int) ≤ 12) = false := decide_eq_false (by omega)
    rw [decide_eq_false h4, Bool.and_false]
    exact vm_pure kr Tryz.func101 rfl [.agg #[.bool r.n0, .string r.s0, .bool r.n1, .string r.s1, .bool r.n2, .string r.s2, .bool r.n3, .string r.s3, .bool r.n4, .string r.s4], .int .i64 12] nle [(6, 5)] [.t, (.p _ false e0), .t, (.p _ false e1), .t, (.p _ false e2), .t, (.p _ false e3), .f] [lP (.bool (decide ((r.s4.size : Int) ≤ 12))) (.bool false) (congrArg Value.bool e4)]
  have e4 : decide ((r.s4.size : Int) ≤ 12) = true := decide_eq_true (by omega)
  rw [decide_eq_true h4]
  exact vm_pure kr Tryz.func101 rfl [.agg #[.bool r.n0, .string r.s0, .bool r.n1, .string r.s1, .bool r.n2, .string r.s2, .bool r.n3, .string r.s3, .bool r.n4, .string r.s4], .int .i64 12] nle [(6, 5)] [.t, (.p _ false e0), .t, (.p _ false e1), .t, (.p _ false e2), .t, (.p _ false e3), .f] [lP (.bool (decide ((r.s4.size : Int) ≤ 12))) (.bool true) (congrArg Value.bool e4)]
theorem uValid_any (r : Rv) (w : World) (hr : smallRV 80000000 r) : Calls Tryz.prog 38 #[vRV r] w (RetV (.bool (okRV r)) w) := by
  have V1 := fun w => gValid_any r.x w hr.x
  have V2 := fun w => gValid_any r.y w hr.y
  have V3 := fun w => gValid_any r.z w hr.z
  unfold okRV
  generalize okR r.x = a at *
  generalize okR r.y = b at *
  generalize okR r.z = c at *
  cases a with
  | false =>
    show Calls Tryz.prog 38 #[vRV r] w (RetV (.bool false) w)
    exact vm_pure kr Tryz.func38 rfl [vRV r] nle [] [.f, .f, .f, .f, .f, .f, .f, .f] [cV (V1)]
  | true =>
    cases b with
    | false =>
      show Calls Tryz.prog 38 #[vRV r] w (RetV (.bool false) w)
      exact vm_pure kr Tryz.func38 rfl [vRV r] nle [] [.t, .t, .t, .t, .f, .f, .f, .f] [cV (V1), cV (V2)]
    | true =>
      cases c with
      | false =>
        show Calls Tryz.prog 38 #[vRV r] w (RetV (.bool false) w)
        exact vm_pure kr Tryz.func38 rfl [vRV r] nle [] [.t, .t, .t, .t, .t, .t, .t, .t] [cV (V1), cV (V2), cV (V3)]
      | true =>
        show Calls Tryz.prog 38 #[vRV r] w (RetV (.bool true) w)
        exact vm_pure kr Tryz.func38 rfl [vRV r] nle [] [.t, .t, .t, .t, .t, .t, .t, .t] [cV (V1), cV (V2), cV (V3)]
theorem uValid_yes (u : V3) (w : World) (hu : BNV 80000000 u) (ou : OkV u) : Calls Tryz.prog 38 #[vV u] w (RetV (.bool true) w) := by
  have := uValid_any (rvN u) w (smallRV_V hu)
  rwa [okRV_V ou] at this
theorem uValid_no (r : Rv) (w : World) (hr : smallRV 80000000 r) (h : okRV r = false) : Calls Tryz.prog 38 #[vRV r] w (RetV (.bool false) w) := by
  have := uValid_any r w hr
  rwa [h] at this
def rawV (r : Rv) : Bool := rawC r.x && rawC r.y && rawC r.z
theorem rawV_small {r : Rv} (h : rawV r = true) : smallRV 12 r := by
  unfold rawV at h
  simp only [Bool.and_eq_true] at h
  exact ⟨rawC_small h.1.1, rawC_small h.1.2, rawC_small h.2⟩
theorem uRaw_any (r : Rv) (w : World) : Calls Tryz.prog 89 #[vRV r, .int .i64 12] w (RetV (.bool (rawV r)) w) := by
  have V1 := fun w => gRaw12 r.x w
  have V2 := fun w => gRaw12 r.y w
  have V3 := fun w => gRaw12 r.z w
  unfold rawV
  generalize rawC r.x = a at *
  generalize rawC r.y = b at *
  generalize rawC r.z = c at *
  cases a with
  | false =>
    show Calls Tryz.prog 89 #[vRV r, .int .i64 12] w (RetV (.bool false) w)
    exact vm_pure kr Tryz.func89 rfl [vRV r, .int .i64 12] nle [] [.f, .f, .f, .f, .f, .f, .f, .f, .f, .f] [cV (V1)]
  | true =>
    cases b with
    | false =>
      show Calls Tryz.prog 89 #[vRV r, .int .i64 12] w (RetV (.bool false) w)
      exact vm_pure kr Tryz.func89 rfl [vRV r, .int .i64 12] nle [] [.t, .t, .t, .t, .t, .f, .f, .f, .f, .f] [cV (V1), cV (V2)]
    | true =>
      cases c with
      | false =>
        show Calls Tryz.prog 89 #[vRV r, .int .i64 12] w (RetV (.bool false) w)
        exact vm_pure kr Tryz.func89 rfl [vRV r, .int .i64 12] nle [] [.t, .t, .t, .t, .t, .t, .t, .t, .t, .t] [cV (V1), cV (V2), cV (V3)]
      | true =>
        show Calls Tryz.prog 89 #[vRV r, .int .i64 12] w (RetV (.bool true) w)
        exact vm_pure kr Tryz.func89 rfl [vRV r, .int .i64 12] nle [] [.t, .t, .t, .t, .t, .t, .t, .t, .t, .t] [cV (V1), cV (V2), cV (V3)]
theorem uOf_any (a b c : Int) (w : World) (a0 : -9223372036854775808 ≤ a) (a1 : a ≤ 9223372036854775807) (b0 : -9223372036854775808 ≤ b) (b1 : b ≤ 9223372036854775807) (c0 : -9223372036854775808 ≤ c) (c1 : c ≤ 9223372036854775807) : Calls Tryz.prog 45 #[.int .i64 a, .int .i64 b, .int .i64 c] w (RetV (vV ⟨intN a, intN b, intN c⟩) w) := by
  have H1 := fun w => gOf_any a w a0 a1
  have H2 := fun w => gOf_any b w b0 b1
  have H3 := fun w => gOf_any c w c0 c1
  generalize intN a = x at *
  generalize intN b = y at *
  generalize intN c = z at *
  exact vm_pure kr Tryz.func45 rfl [.int .i64 a, .int .i64 b, .int .i64 c] nle [] [] [cV (H1), cV (H2), cV (H3)]
theorem uOf_zero (w : World) : Calls Tryz.prog 45 #[.int .i64 0, .int .i64 0, .int .i64 0] w (RetV (vV zV) w) := uOf_any 0 0 0 w (by omega) (by omega) (by omega) (by omega) (by omega) (by omega)
theorem uAdd_any (u v : V3) (w : World) (hu : BNV 30000000 u) (hv : BNV 30000000 v) (ou : OkV u) (ov : OkV v) : Calls Tryz.prog 39 #[vV u, vV v] w (RetV (vV (addV u v)) w) := by
  have V1 := fun w => uValid_yes u w (hu.mono (by omega)) ou
  have V2 := fun w => uValid_yes v w (hv.mono (by omega)) ov
  have A1 := fun w => gAdd_any u.x v.x w hu.x hv.x ou.x ov.x
  have A2 := fun w => gAdd_any u.y v.y w hu.y hv.y ou.y ov.y
  have A3 := fun w => gAdd_any u.z v.z w hu.z hv.z ou.z ov.z
  unfold addV
  generalize addN u.x v.x = a at *
  generalize addN u.y v.y = b at *
  generalize addN u.z v.z = c at *
  exact vm_pure kr Tryz.func39 rfl [vV u, vV v] nle [] [.f, .f, .f, .f, .f] [cV (V1), cV (V2), cV (A1), cV (A2), cV (A3)]
theorem uAdd_no1 (r s : Rv) (w : World) (hr : smallRV 80000000 r) (h : okRV r = false) : Calls Tryz.prog 39 #[vRV r, vRV s] w (RetV vZV w) := by
  have V1 := fun w => uValid_no r w hr h
  exact vm_pure kr Tryz.func39 rfl [vRV r, vRV s] nle [] [.t, .t, .t, .t, .t] [cV (V1)]
theorem uAdd_no2 (r s : Rv) (w : World) (hr : smallRV 80000000 r) (hs : smallRV 80000000 s) (h : okRV r = true) (h2 : okRV s = false) : Calls Tryz.prog 39 #[vRV r, vRV s] w (RetV vZV w) := by
  have V1 := fun w => uValid_any r w hr
  rw [h] at V1
  have V2 := fun w => uValid_no s w hs h2
  exact vm_pure kr Tryz.func39 rfl [vRV r, vRV s] nle [] [.f, .f, .f, .f, .t] [cV (V1), cV (V2)]
theorem uDot_no1 (r s : Rv) (w : World) (hr : smallRV 80000000 r) (h : okRV r = false) : Calls Tryz.prog 24 #[vRV r, vRV s] w (RetV vZ w) := by
  have V1 := fun w => uValid_no r w hr h
  exact vm_pure kr Tryz.func24 rfl [vRV r, vRV s] nle [] [.t, .t, .t, .t, .t] [cV (V1)]
theorem uDot_no2 (r s : Rv) (w : World) (hr : smallRV 80000000 r) (hs : smallRV 80000000 s) (h : okRV r = true) (h2 : okRV s = false) : Calls Tryz.prog 24 #[vRV r, vRV s] w (RetV vZ w) := by
  have V1 := fun w => uValid_any r w hr
  rw [h] at V1
  have V2 := fun w => uValid_no s w hs h2
  exact vm_pure kr Tryz.func24 rfl [vRV r, vRV s] nle [] [.f, .f, .f, .f, .t] [cV (V1), cV (V2)]
theorem uCross_no1 (r s : Rv) (w : World) (hr : smallRV 80000000 r) (h : okRV r = false) : Calls Tryz.prog 25 #[vRV r, vRV s] w (RetV vZV w) := by
  have V1 := fun w => uValid_no r w hr h
  exact vm_pure kr Tryz.func25 rfl [vRV r, vRV s] nle [] [.t, .t, .t, .t, .t] [cV (V1)]
theorem uCross_no2 (r s : Rv) (w : World) (hr : smallRV 80000000 r) (hs : smallRV 80000000 s) (h : okRV r = true) (h2 : okRV s = false) : Calls Tryz.prog 25 #[vRV r, vRV s] w (RetV vZV w) := by
  have V1 := fun w => uValid_any r w hr
  rw [h] at V1
  have V2 := fun w => uValid_no s w hs h2
  exact vm_pure kr Tryz.func25 rfl [vRV r, vRV s] nle [] [.f, .f, .f, .f, .t] [cV (V1), cV (V2)]
theorem uNeg_any (u : V3) (w : World) (hu : BNV 80000000 u) (ou : OkV u) : Calls Tryz.prog 41 #[vV u] w (RetV (vV (negV u)) w) := by
  have V1 := fun w => uValid_yes u w hu ou
  have A1 := fun w => gNeg_any u.x w hu.x ou.x
  have A2 := fun w => gNeg_any u.y w hu.y ou.y
  have A3 := fun w => gNeg_any u.z w hu.z ou.z
  unfold negV
  generalize negN u.x = a at *
  generalize negN u.y = b at *
  generalize negN u.z = c at *
  exact vm_pure kr Tryz.func41 rfl [vV u] nle [] [.f] [cV (V1), cV (A1), cV (A2), cV (A3)]
theorem uNeg_no (r : Rv) (w : World) (hr : smallRV 80000000 r) (h : okRV r = false) : Calls Tryz.prog 41 #[vRV r] w (RetV vZV w) := by
  have V1 := fun w => uValid_no r w hr h
  exact vm_pure kr Tryz.func41 rfl [vRV r] nle [] [.t] [cV (V1)]
theorem BNV.neg {k : Nat} {u : V3} (h : BNV k u) : BNV k (negV u) := ⟨h.x.neg, h.y.neg, h.z.neg⟩
theorem uSub_any (u v : V3) (w : World) (hu : BNV 30000000 u) (hv : BNV 30000000 v) (ou : OkV u) (ov : OkV v) : Calls Tryz.prog 40 #[vV u, vV v] w (RetV (vV (subV u v)) w) := by
  have N := fun w => uNeg_any v w (hv.mono (by omega)) ov
  have A := fun w => uAdd_any u (negV v) w hu hv.neg ou (negV_ok ov)
  rw [show addV u (negV v) = subV u v from rfl] at A
  generalize subV u v = l at *
  generalize negV v = m at *
  exact vm_pure kr Tryz.func40 rfl [vV u, vV v] nle [] [] [cV (N), cV (A)]
theorem uSub_bad (r s t : Rv) (w : World) (N : ∀ w, Calls Tryz.prog 41 #[vRV s] w (RetV (vRV t) w)) (A : ∀ w, Calls Tryz.prog 39 #[vRV r, vRV t] w (RetV vZV w)) : Calls Tryz.prog 40 #[vRV r, vRV s] w (RetV vZV w) := by
  exact vm_pure kr Tryz.func40 rfl [vRV r, vRV s] nle [] [] [cV (N), cV (A)]
theorem rvN_of {k : Nat} {r : Rv} (hs : smallRV k r) (h : okRV r = true) : ∃ u, r = rvN u ∧ OkV u ∧ BNV k u := by
  unfold okRV at h
  simp only [Bool.and_eq_true] at h
  obtain ⟨⟨h0, h1⟩, h2⟩ := h
  have t : ∀ {s : Rw}, smallR k s → okR s = true → s = rwN (nmR s) ∧ Ok (nmR s) ∧ BN k (nmR s) := fun {s} g h => ⟨rwN_of (okR_ok h).2, (okR_ok h).1, BN_R g (okR_ok h).2⟩
  obtain ⟨e0, o0, b0⟩ := t hs.x h0
  obtain ⟨e1, o1, b1⟩ := t hs.y h1
  obtain ⟨e2, o2, b2⟩ := t hs.z h2
  refine ⟨⟨nmR r.x, nmR r.y, nmR r.z⟩, ?_, ⟨o0, o1, o2⟩, ⟨b0, b1, b2⟩⟩
  cases r
  unfold rvN
  simp only at *
  rw [← e0, ← e1, ← e2]
theorem uNeg_ex (s : Rv) (hs : smallRV 80000000 s) : ∃ t, ∀ w, Calls Tryz.prog 41 #[vRV s] w (RetV (vRV t) w) := by
  cases h : okRV s with
  | false => exact ⟨rZV, fun w => uNeg_no s w hs h⟩
  | true =>
    obtain ⟨u, rfl, ou, bu⟩ := rvN_of hs h
    exact ⟨rvN (negV u), fun w => uNeg_any u w bu ou⟩
theorem uSub_no1 (r s : Rv) (w : World) (hr : smallRV 80000000 r) (hs : smallRV 80000000 s) (h : okRV r = false) : Calls Tryz.prog 40 #[vRV r, vRV s] w (RetV vZV w) := by
  obtain ⟨t, ht⟩ := uNeg_ex s hs
  exact uSub_bad r s t w ht (fun w => uAdd_no1 r t w hr h)
theorem uSub_no2 (r s : Rv) (w : World) (hr : smallRV 80000000 r) (hs : smallRV 80000000 s) (h : okRV r = true) (h2 : okRV s = false) : Calls Tryz.prog 40 #[vRV r, vRV s] w (RetV vZV w) :=
  uSub_bad r s rZV w (fun w => uNeg_no s w hs h2) (fun w => uAdd_no2 r rZV w hr rZV_small h rZV_no)
theorem uScale_any (u : V3) (k : Nm) (w : World) (hu : BNV 30000000 u) (hk : BN 30000000 k) (ou : OkV u) (ok : Ok k) : Calls Tryz.prog 22 #[vV u, vN k] w (RetV (vV (scaV u k)) w) := by
  have V1 := fun w => uValid_yes u w (hu.mono (by omega)) ou
  have V2 := fun w => gValid_yes k w (hk.mono (by omega)) ok
  have A1 := fun w => gMul_any u.x k w hu.x hk ou.x ok
  have A2 := fun w => gMul_any u.y k w hu.y hk ou.y ok
  have A3 := fun w => gMul_any u.z k w hu.z hk ou.z ok
  unfold scaV
  generalize mulN u.x k = a at *
  generalize mulN u.y k = b at *
  generalize mulN u.z k = c at *
  exact vm_pure kr Tryz.func22 rfl [vV u, .agg #[.bool (sg k.c0), .string (mg k.c0), .bool (sg k.c1), .string (mg k.c1), .bool (sg k.c2), .string (mg k.c2), .bool (sg k.c3), .string (mg k.c3), .bool (sg k.d), .string (mg k.d)]] nle [] [.f, .f, .f, .f, .f] [cV (V1), cV (V2), cV (A1), cV (A2), cV (A3)]
theorem uScale_no1 (r : Rv) (k : Rw) (w : World) (hr : smallRV 80000000 r) (h : okRV r = false) : Calls Tryz.prog 22 #[vRV r, vR k] w (RetV vZV w) := by
  have V1 := fun w => uValid_no r w hr h
  exact vm_pure kr Tryz.func22 rfl [vRV r, vR k] nle [] [.t, .t, .t, .t, .t] [cV (V1)]
theorem uScale_no2 (r : Rv) (k : Rw) (w : World) (hr : smallRV 80000000 r) (hk : smallR 80000000 k) (h : okRV r = true) (h2 : okR k = false) : Calls Tryz.prog 22 #[vRV r, vR k] w (RetV vZV w) := by
  have V1 := fun w => uValid_any r w hr
  rw [h] at V1
  have V2 := fun w => gValid_no k w hk h2
  exact vm_pure kr Tryz.func22 rfl [vRV r, vR k] nle [] [.f, .f, .f, .f, .t] [cV (V1), cV (V2)]
theorem uDot_any (u v : V3) (w : World) (hu : BNV 7000000 u) (hv : BNV 7000000 v) (ou : OkV u) (ov : OkV v) : Calls Tryz.prog 24 #[vV u, vV v] w (RetV (vN (dotV u v)) w) := by
  have V1 := fun w => uValid_yes u w (hu.mono (by omega)) ou
  have V2 := fun w => uValid_yes v w (hv.mono (by omega)) ov
  have bx := hu.x.mulN hv.x ou.x.ne ov.x.ne
  have by' := hu.y.mulN hv.y ou.y.ne ov.y.ne
  have bz := hu.z.mulN hv.z ou.z.ne ov.z.ne
  have oxy := addN_ok (mulN_ok ou.x ov.x) (mulN_ok ou.y ov.y)
  have bxy := bx.addN by' (mulN_ok ou.x ov.x).ne (mulN_ok ou.y ov.y).ne
  have M1 := fun w => gMul_any u.x v.x w (hu.x.mono (by omega)) (hv.x.mono (by omega)) ou.x ov.x
  have M2 := fun w => gMul_any u.y v.y w (hu.y.mono (by omega)) (hv.y.mono (by omega)) ou.y ov.y
  have M3 := fun w => gMul_any u.z v.z w (hu.z.mono (by omega)) (hv.z.mono (by omega)) ou.z ov.z
  have A1 := fun w => gAdd_any _ _ w (bx.mono (by omega)) (by'.mono (by omega)) (mulN_ok ou.x ov.x) (mulN_ok ou.y ov.y)
  have A2 := fun w => gAdd_any _ _ w (bxy.mono (by omega)) (bz.mono (by omega)) oxy (mulN_ok ou.z ov.z)
  unfold dotV
  clear hu hv bx by' bz bxy oxy
  generalize mulN u.x v.x = a at *
  generalize mulN u.y v.y = b at *
  generalize mulN u.z v.z = c at *
  generalize addN a b = d at *
  generalize addN d c = e at *
  exact vm_pure kr Tryz.func24 rfl [vV u, vV v] nle [] [.f, .f, .f, .f, .f] [cV (V1), cV (V2), cV (M1), cV (M2), cV (A1), cV (M3), cV (A2)]
theorem uminor_any (a b c d : Nm) (w : World) (ha : BN 7000000 a) (hb : BN 7000000 b) (hc : BN 7000000 c) (hd : BN 7000000 d) (oa : Ok a) (ob : Ok b) (oc : Ok c) (od : Ok d) : Calls Tryz.prog 91 #[vN a, vN b, vN c, vN d] w (RetV (vN (minN a b c d)) w) := by
  have M1 := fun w => gMul_any a d w (ha.mono (by omega)) (hd.mono (by omega)) oa od
  have M2 := fun w => gMul_any b c w (hb.mono (by omega)) (hc.mono (by omega)) ob oc
  have S := fun w => gSub_any _ _ w ((ha.mulN hd oa.ne od.ne).mono (by omega)) ((hb.mulN hc ob.ne oc.ne).mono (by omega)) (mulN_ok oa od) (mulN_ok ob oc)
  unfold minN
  clear ha hb hc hd
  generalize mulN a d = x at *
  generalize mulN b c = y at *
  generalize subN x y = z at *
  exact vm_pure kr Tryz.func91 rfl [.agg #[.bool (sg a.c0), .string (mg a.c0), .bool (sg a.c1), .string (mg a.c1), .bool (sg a.c2), .string (mg a.c2), .bool (sg a.c3), .string (mg a.c3), .bool (sg a.d), .string (mg a.d)], .agg #[.bool (sg b.c0), .string (mg b.c0), .bool (sg b.c1), .string (mg b.c1), .bool (sg b.c2), .string (mg b.c2), .bool (sg b.c3), .string (mg b.c3), .bool (sg b.d), .string (mg b.d)], .agg #[.bool (sg c.c0), .string (mg c.c0), .bool (sg c.c1), .string (mg c.c1), .bool (sg c.c2), .string (mg c.c2), .bool (sg c.c3), .string (mg c.c3), .bool (sg c.d), .string (mg c.d)], .agg #[.bool (sg d.c0), .string (mg d.c0), .bool (sg d.c1), .string (mg d.c1), .bool (sg d.c2), .string (mg d.c2), .bool (sg d.c3), .string (mg d.c3), .bool (sg d.d), .string (mg d.d)]] nle [] [] [cV (M1), cV (M2), cV (S)]
theorem uCross_any (u v : V3) (w : World) (hu : BNV 7000000 u) (hv : BNV 7000000 v) (ou : OkV u) (ov : OkV v) : Calls Tryz.prog 25 #[vV u, vV v] w (RetV (vV (crsV u v)) w) := by
  have V1 := fun w => uValid_yes u w (hu.mono (by omega)) ou
  have V2 := fun w => uValid_yes v w (hv.mono (by omega)) ov
  have M1 := fun w => uminor_any u.y u.z v.y v.z w hu.y hu.z hv.y hv.z ou.y ou.z ov.y ov.z
  have M2 := fun w => uminor_any u.z u.x v.z v.x w hu.z hu.x hv.z hv.x ou.z ou.x ov.z ov.x
  have M3 := fun w => uminor_any u.x u.y v.x v.y w hu.x hu.y hv.x hv.y ou.x ou.y ov.x ov.y
  unfold crsV
  clear hu hv
  generalize minN u.y u.z v.y v.z = a at *
  generalize minN u.z u.x v.z v.x = b at *
  generalize minN u.x u.y v.x v.y = c at *
  exact vm_pure kr Tryz.func25 rfl [vV u, vV v] nle [] [.f, .f, .f, .f, .f] [cV (V1), cV (V2), cV (M1), cV (M2), cV (M3)]
theorem uDet_any (u v t : V3) (w : World) (hu : BNV 1000000 u) (hv : BNV 1000000 v) (ht : BNV 1000000 t) (ou : OkV u) (ov : OkV v) (ot : OkV t) : Calls Tryz.prog 26 #[vV u, vV v, vV t] w (RetV (vN (detV u v t)) w) := by
  have V1 := fun w => uValid_yes u w (hu.mono (by omega)) ou
  have V2 := fun w => uValid_yes v w (hv.mono (by omega)) ov
  have V3 := fun w => uValid_yes t w (ht.mono (by omega)) ot
  have C := fun w => uCross_any v t w (hv.mono (by omega)) (ht.mono (by omega)) ov ot
  have D := fun w => uDot_any u (crsV v t) w (hu.mono (by omega)) ((hv.crs ht ov ot).mono (by omega)) ou (crsV_ok ov ot)
  unfold detV
  clear hu hv ht
  generalize crsV v t = c at *
  generalize dotV u c = d at *
  exact vm_pure kr Tryz.func26 rfl [vV u, vV v, vV t] nle [] [.f, .f, .f, .f, .f, .f, .f, .f, .f] [cV (V1), cV (V2), cV (V3), cV (C), cV (D)]
theorem uDet_no1 (r s t : Rv) (w : World) (hr : smallRV 80000000 r) (hs : smallRV 80000000 s) (ht : smallRV 80000000 t) (h : okRV r = false) : Calls Tryz.prog 26 #[vRV r, vRV s, vRV t] w (RetV vZ w) := by
  have V1 := fun w => uValid_no r w hr h
  exact vm_pure kr Tryz.func26 rfl [vRV r, vRV s, vRV t] nle [] [.t, .t, .t, .t, .t, .t, .t, .t, .t] [cV (V1)]
theorem uDet_no2 (r s t : Rv) (w : World) (hr : smallRV 80000000 r) (hs : smallRV 80000000 s) (ht : smallRV 80000000 t) (h : okRV r = true) (h2 : okRV s = false) : Calls Tryz.prog 26 #[vRV r, vRV s, vRV t] w (RetV vZ w) := by
  have V1 := fun w => uValid_any r w hr
  rw [h] at V1
  have V2 := fun w => uValid_no s w hs h2
  exact vm_pure kr Tryz.func26 rfl [vRV r, vRV s, vRV t] nle [] [.f, .f, .f, .f, .t, .t, .t, .t, .t] [cV (V1), cV (V2)]
theorem uDet_no3 (r s t : Rv) (w : World) (hr : smallRV 80000000 r) (hs : smallRV 80000000 s) (ht : smallRV 80000000 t) (h : okRV r = true) (h2 : okRV s = true) (h3 : okRV t = false) : Calls Tryz.prog 26 #[vRV r, vRV s, vRV t] w (RetV vZ w) := by
  have V1 := fun w => uValid_any r w hr
  rw [h] at V1
  have V2 := fun w => uValid_any s w hs
  rw [h2] at V2
  have V3 := fun w => uValid_no t w ht h3
  exact vm_pure kr Tryz.func26 rfl [vRV r, vRV s, vRV t] nle [] [.f, .f, .f, .f, .f, .f, .f, .f, .t] [cV (V1), cV (V2), cV (V3)]
theorem uZero_yes (r : Rv) (w : World) (h : r = rvN zV) : Calls Tryz.prog 42 #[vRV r] w (RetV (.bool true) w) := by
  have O := uOf_zero
  rw [vV_rv, ← h] at O
  exact vm_pure kr Tryz.func42 rfl [vRV r] nle [(1, 2)] [] [cV (O), lV _ (.bool true) (fun w hC => eqV_same (r) (.tmp 3) (.tmp 4) w)]
theorem uZero_no (r : Rv) (w : World) (h : r ≠ rvN zV) : Calls Tryz.prog 42 #[vRV r] w (RetV (.bool false) w) := by
  have O := uOf_zero
  rw [vV_rv] at O
  generalize rvN zV = z at *
  exact vm_pure kr Tryz.func42 rfl [vRV r] nle [(1, 2)] [] [cV (O), lV _ (.bool false) (fun w hC => eqV_diff (r) (z) (h) (.tmp 3) (.tmp 4) w)]
end Go.Proofs.YtegnalgjjmpcmaaGreatDoor
