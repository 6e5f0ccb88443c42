import Derived.Test.YtegnalgjjmpcmaaGreatDoorPMI
import Derived.Test.YtegnalgjjmpcmaaGreatDoorPMC2
import Derived.Test.YtegnalgjjmpcmaaGreatDoorPMD
/- The reference's field: numbers of small integers as machine words. -/
namespace Go.Proofs.YtegnalgjjmpcmaaGreatDoor
open Go Go.RowKit
set_option linter.unusedVariables false
set_option linter.unusedSimpArgs false

def nR (r : Rw) (i : Nat) : Bool := match i with
  | 0 => r.n0
  | 1 => r.n1
  | 2 => r.n2
  | 3 => r.n3
  | _ => r.n4
def sR (r : Rw) (i : Nat) : ByteArray := match i with
  | 0 => r.s0
  | 1 => r.s1
  | 2 => r.s2
  | 3 => r.s3
  | _ => r.s4
def zR5 (r : Rw) (i : Nat) : Int := ival (nR r i) (sR r i)
def rwC (r : Rw) : Array Value := #[.bool r.n0, .string r.s0, .bool r.n1, .string r.s1, .bool r.n2, .string r.s2, .bool r.n3, .string r.s3, .bool r.n4, .string r.s4]
def c5 (q : Nat → Int) : Array Value := #[.int .i64 (q 0), .int .i64 (q 1), .int .i64 (q 2), .int .i64 (q 3), .int .i64 (q 4)]
def z5 : Array Value := #[.int .i64 0, .int .i64 0, .int .i64 0, .int .i64 0, .int .i64 0]
/-- the first i values, then zeros -/
def pz (z : Nat → Int) (i : Nat) : Nat → Int := fun t => bif Nat.blt t i then z t else 0
noncomputable def gwN : Nat := Tryz.f92.ntmps
noncomputable def gwC : Code := Tryz.f92.body.getD .skip
noncomputable def gw0 : Code := cB 0 gwC
noncomputable def gw2 : Code := cB 2 gwC
/-- the integer with the number i is small and valid -/
def sm (u : Rw) (i : Nat) : Prop := (sR u i).size ≤ 3 ∧ vld (nR u i) (sR u i) = true
end Go.Proofs.YtegnalgjjmpcmaaGreatDoor


/- The reference's field: the common divisor of five machine integers; validity. -/
namespace Go.Proofs.YtegnalgjjmpcmaaGreatDoor
open Go Go.RowKit
set_option linter.unusedVariables false
set_option linter.unusedSimpArgs false

noncomputable def ggN : Nat := Tryz.f123.ntmps
noncomputable def ggC : Code := Tryz.f123.body.getD .skip
noncomputable def gg0 : Code := cB 0 ggC
noncomputable def gg2 : Code := cB 2 ggC
/-- what the first i integers have in common -/
def gN (l : Nat → Int) : Nat → Nat
  | 0 => 0
  | i + 1 => Nat.gcd (gN l i) (l i).natAbs
def allSm (u : Rw) : Prop := ∀ j, j < 5 → sm u j
theorem RValid_ok (n : Bool) (s : ByteArray) (w : World) (h : vld n s = true) : Calls Tryz.prog 124 #[.agg #[.bool n, .string s]] w (RetB true w) := by
  have := RValid_any n s w
  rwa [h] at this
end Go.Proofs.YtegnalgjjmpcmaaGreatDoor


/- The laws' guards: numbers of few bytes, and valid ones. -/
namespace Go.Proofs.YtegnalgjjmpcmaaGreatDoor
open Go Go.RowKit
set_option linter.unusedVariables false
set_option linter.unusedSimpArgs false

/-- a function over a value that holds a block -/
theorem vm_blk {P : Program} {f : FuncId} {fn : Func} {c : Code} {w : World} {v : Value} (hm : P.follows .mixedOrders = true) (hf : P.funcs[f]? = some fn) (hb : fn.body = some c) (V : Nat → Value) (b : Nat) (t : TypeId) (cs cs' : Array Value) (hB : Hc w b t cs) (args : List Value) (hsz : args.length + 1 ≤ fn.ntmps)
    (lk : List (Nat × Nat)) (ds : List Dec) (ps : List (Item P ⟨w, [b]⟩))
    (h : ∀ r, vmL (vmF' lk fn c ((0, (V (r 0), 1)) :: env0 1 args) [(0, (t, cs))] 1 r ds ps (fun _ => v) (fun _ => [(0, (t, cs'))])) = vmR (vmF' lk fn c ((0, (V (r 0), 1)) :: env0 1 args) [(0, (t, cs))] 1 r ds ps (fun _ => v) (fun _ => [(0, (t, cs'))])))
    (h2 : ∀ r, vmSL (vmF' lk fn c ((0, (V (r 0), 1)) :: env0 1 args) [(0, (t, cs))] 1 r ds ps (fun _ => v) (fun _ => [(0, (t, cs'))])) = vmSR (vmF' lk fn c ((0, (V (r 0), 1)) :: env0 1 args) [(0, (t, cs))] 1 r ds ps (fun _ => v) (fun _ => [(0, (t, cs'))]))) :
    Calls P f ((V b :: args : List Value)).toArray w (fun e w' => e = .returned v ∧ Hc w' b t cs' ∧ Chg [b] w w') := by
  have hE : ∀ r : Nat → Nat, (∀ k, k < 1 → r k = b) → ((0, (V b, 1)) :: env0 1 args : Env) = (0, (V (r 0), 1)) :: env0 1 args := fun r hr => by rw [hr 0 (by omega)]
  have := vm_gen (X := ⟨w, [b]⟩) hm hf hb lk ((0, (V b, 1)) :: env0 1 args) [(0, (t, cs))] 1 (fun _ => b) ((V b :: args : List Value)).toArray (fun k => ?_) (by simpa using hsz) (keysLt_all (by kernel_rfl))
    ⟨Chg.refl _ _, fun k x h => ?_, fun k k' x x' h h' _ => ?_⟩ ds ps (fun _ => v) (fun _ => [(0, (t, cs'))]) (fun r hr => by rw [hE r hr]; exact h r) (fun r hr => by rw [hE r hr]; exact h2 r)
  · refine this.mono ?_
    rintro e w' ⟨r, hr, he, hc, ho⟩
    have h0 := (ho _ List.mem_cons_self).1
    rw [hr 0 (by omega)] at h0
    exact ⟨he, h0, hc⟩
  · rw [env0_start]
    show envV ((0, (V b, 0)) :: env0 1 args) k = _
    by_cases hk : 0 = k
    · subst hk; rfl
    · unfold envV
      rw [look_cons_ne _ _ hk, look_cons_ne _ _ hk]
  · have := look_mem h
    simp only [List.mem_singleton, Prod.mk.injEq] at this
    obtain ⟨rfl, rfl⟩ := this
    exact ⟨hB, .inr (by simp)⟩
  · have h1 := look_mem h
    have h2 := look_mem h'
    simp only [List.mem_singleton, Prod.mk.injEq] at h1 h2
    omega
/-- all five integers have at most 20 bytes -/
def rawB (r : Rw) : Bool := decide (r.s0.size ≤ 20) && decide (r.s1.size ≤ 20) && decide (r.s2.size ≤ 20) && decide (r.s3.size ≤ 20) && decide (r.s4.size ≤ 20)
theorem rawB_small {r : Rw} (h : rawB r = true) : smallR 20 r := by
  unfold rawB at h
  simp only [Bool.and_eq_true, decide_eq_true_eq] at h
  obtain ⟨⟨⟨⟨h0, h1⟩, h2⟩, h3⟩, h4⟩ := h
  exact ⟨h0, h1, h2, h3, h4⟩
theorem smallR.mono {a b : Nat} {r : Rw} (h : smallR a r) (hab : a ≤ b) : smallR b r := by
  obtain ⟨h0, h1, h2, h3, h4⟩ := h
  exact ⟨by omega, by omega, by omega, by omega, by omega⟩
set_option maxRecDepth 100000 in
theorem gRaw_any (r : Rw) (w : World) : Calls Tryz.prog 101 #[vR r, .int .i64 20] w (RetV (.bool (rawB r)) w) := by
  unfold rawB
  by_cases h0 : r.s0.size ≤ 20
  rotate_left 1
  focus
    have e0 : decide ((20 : Int) < (r.s0.size : Int)) = true := decide_eq_true (by omega)
    rw [decide_eq_false h0]
    simp only [Bool.false_and, Bool.and_false]
    exact vm_pure (by kernel_rfl) Tryz.func101 rfl [.agg #[.bool r.n0, .string r.s0, .bool r.n1, .string r.s1, .bool r.n2, .string r.s2, .bool r.n3, .string r.s3, .bool r.n4, .string r.s4], .int .i64 20] (Nat.le_of_ble_eq_true (by kernel_rfl)) [] [.t, (.p _ true e0)] [] (fun r => by kernel_rfl) (fun r => by kernel_rfl)
  have e0 : decide ((20 : Int) < (r.s0.size : Int)) = false := decide_eq_false (by omega)
  rw [decide_eq_true h0]
  by_cases h1 : r.s1.size ≤ 20
  rotate_left 1
  focus
    have e1 : decide ((20 : Int) < (r.s1.size : Int)) = true := decide_eq_true (by omega)
    rw [decide_eq_false h1]
    simp only [Bool.false_and, Bool.and_false]
    exact vm_pure (by kernel_rfl) Tryz.func101 rfl [.agg #[.bool r.n0, .string r.s0, .bool r.n1, .string r.s1, .bool r.n2, .string r.s2, .bool r.n3, .string r.s3, .bool r.n4, .string r.s4], .int .i64 20] (Nat.le_of_ble_eq_true (by kernel_rfl)) [] [.t, (.p _ false e0), .t, (.p _ true e1)] [] (fun r => by kernel_rfl) (fun r => by kernel_rfl)
  have e1 : decide ((20 : Int) < (r.s1.size : Int)) = false := decide_eq_false (by omega)
  rw [decide_eq_true h1]
  by_cases h2 : r.s2.size ≤ 20
  rotate_left 1
  focus
    have e2 : decide ((20 : Int) < (r.s2.size : Int)) = true := decide_eq_true (by omega)
    rw [decide_eq_false h2]
    simp only [Bool.false_and, Bool.and_false]
    exact vm_pure (by kernel_rfl) Tryz.func101 rfl [.agg #[.bool r.n0, .string r.s0, .bool r.n1, .string r.s1, .bool r.n2, .string r.s2, .bool r.n3, .string r.s3, .bool r.n4, .string r.s4], .int .i64 20] (Nat.le_of_ble_eq_true (by kernel_rfl)) [] [.t, (.p _ false e0), .t, (.p _ false e1), .t, (.p _ true e2)] [] (fun r => by kernel_rfl) (fun r => by kernel_rfl)
  have e2 : decide ((20 : Int) < (r.s2.size : Int)) = false := decide_eq_false (by omega)
  rw [decide_eq_true h2]
  by_cases h3 : r.s3.size ≤ 20
  rotate_left 1
  focus
    have e3 : decide ((20 : Int) < (r.s3.size : Int)) = true := decide_eq_true (by omega)
    rw [decide_eq_false h3]
    simp only [Bool.false_and, Bool.and_false]
    exact vm_pure (by kernel_rfl) Tryz.func101 rfl [.agg #[.bool r.n0, .string r.s0, .bool r.n1, .string r.s1, .bool r.n2, .string r.s2, .bool r.n3, .string r.s3, .bool r.n4, .string r.s4], .int .i64 20] (Nat.le_of_ble_eq_true (by kernel_rfl)) [] [.t, (.p _ false e0), .t, (.p _ false e1), .t, (.p _ false e2), .t, (.p _ true e3)] [] (fun r => by kernel_rfl) (fun r => by kernel_rfl)
  have e3 : decide ((20 : Int) < (r.s3.size : Int)) = false := decide_eq_false (by omega)
  rw [decide_eq_true h3]
  by_cases h4 : r.s4.size ≤ 20
  rotate_left 1
  focus
    have e4 : decide ((r.s4.size : Int) ≤ 20) = false := decide_eq_false (by omega)
    rw [decide_eq_false h4, Bool.and_false]
    exact vm_pure (by kernel_rfl) Tryz.func101 rfl [.agg #[.bool r.n0, .string r.s0, .bool r.n1, .string r.s1, .bool r.n2, .string r.s2, .bool r.n3, .string r.s3, .bool r.n4, .string r.s4], .int .i64 20] (Nat.le_of_ble_eq_true (by kernel_rfl)) [(6, 5)] [.t, (.p _ false e0), .t, (.p _ false e1), .t, (.p _ false e2), .t, (.p _ false e3), .f] [lP (.bool (decide ((r.s4.size : Int) ≤ 20))) (.bool false) (congrArg Value.bool e4)] (fun r => by kernel_rfl) (fun r => by kernel_rfl)
  have e4 : decide ((r.s4.size : Int) ≤ 20) = true := decide_eq_true (by omega)
  rw [decide_eq_true h4]
  exact vm_pure (by kernel_rfl) Tryz.func101 rfl [.agg #[.bool r.n0, .string r.s0, .bool r.n1, .string r.s1, .bool r.n2, .string r.s2, .bool r.n3, .string r.s3, .bool r.n4, .string r.s4], .int .i64 20] (Nat.le_of_ble_eq_true (by kernel_rfl)) [(6, 5)] [.t, (.p _ false e0), .t, (.p _ false e1), .t, (.p _ false e2), .t, (.p _ false e3), .f] [lP (.bool (decide ((r.s4.size : Int) ≤ 20))) (.bool true) (congrArg Value.bool e4)] (fun r => by kernel_rfl) (fun r => by kernel_rfl)
def cells1 (u : Rw) : Array Value := #[.bool u.n0, .string u.s0, .bool u.n1, .string u.s1, .bool u.n2, .string u.s2, .bool u.n3, .string u.s3, .bool u.n4, .string u.s4]
set_option maxRecDepth 100000 in
theorem hfew1_0 (u : Rw) (b : Nat) (w : World) (hB : Hc w b 26 (cells1 u))  (h0 : rawB u = false) : Calls Tryz.prog 47 #[.slice (some ⟨b, 0, none⟩) 1 1] w (fun e w' => e = .returned (.bool false) ∧ Hc w' b 26 (cells1 u) ∧ Chg [b] w w') := by
  have R0 := fun w => gRaw_any u w
  rw [h0] at R0
  exact vm_blk (by kernel_rfl) Tryz.func47 rfl (fun b => .slice (some ⟨b, 0, none⟩) 1 1) b 26 (cells1 u) (cells1 u) (hB) [] (Nat.le_of_ble_eq_true (by kernel_rfl)) [] [.t, .t] [cV (R0)] (fun r => by kernel_rfl) (fun r => by kernel_rfl)
set_option maxRecDepth 100000 in
theorem hfew1_1 (u : Rw) (b : Nat) (w : World) (hB : Hc w b 26 (cells1 u)) (h0 : rawB u = true) : Calls Tryz.prog 47 #[.slice (some ⟨b, 0, none⟩) 1 1] w (fun e w' => e = .returned (.bool true) ∧ Hc w' b 26 (cells1 u) ∧ Chg [b] w w') := by
  have R0 := fun w => gRaw_any u w
  rw [h0] at R0
  exact vm_blk (by kernel_rfl) Tryz.func47 rfl (fun b => .slice (some ⟨b, 0, none⟩) 1 1) b 26 (cells1 u) (cells1 u) (hB) [] (Nat.le_of_ble_eq_true (by kernel_rfl)) [] [.t, .f, .f] [cV (R0)] (fun r => by kernel_rfl) (fun r => by kernel_rfl)
theorem hfew1_any (u : Rw) (b : Nat) (w : World) (hB : Hc w b 26 (cells1 u)) : Calls Tryz.prog 47 #[.slice (some ⟨b, 0, none⟩) 1 1] w (fun e w' => e = .returned (.bool (rawB u)) ∧ Hc w' b 26 (cells1 u) ∧ Chg [b] w w') := by
  cases h0 : rawB u with
  | false => (try simp only [Bool.false_and, Bool.and_false, Bool.true_and]); exact hfew1_0 u b w hB h0
  | true =>
    (try simp only [Bool.true_and, Bool.and_true]); exact hfew1_1 u b w hB h0
def cells2 (u v : Rw) : Array Value := #[.bool u.n0, .string u.s0, .bool u.n1, .string u.s1, .bool u.n2, .string u.s2, .bool u.n3, .string u.s3, .bool u.n4, .string u.s4, .bool v.n0, .string v.s0, .bool v.n1, .string v.s1, .bool v.n2, .string v.s2, .bool v.n3, .string v.s3, .bool v.n4, .string v.s4]
def cells3 (u v x : Rw) : Array Value := #[.bool u.n0, .string u.s0, .bool u.n1, .string u.s1, .bool u.n2, .string u.s2, .bool u.n3, .string u.s3, .bool u.n4, .string u.s4, .bool v.n0, .string v.s0, .bool v.n1, .string v.s1, .bool v.n2, .string v.s2, .bool v.n3, .string v.s3, .bool v.n4, .string v.s4, .bool x.n0, .string x.s0, .bool x.n1, .string x.s1, .bool x.n2, .string x.s2, .bool x.n3, .string x.s3, .bool x.n4, .string x.s4]
def rwN (x : Nm) : Rw := ⟨sg x.c0, mg x.c0, sg x.c1, mg x.c1, sg x.c2, mg x.c2, sg x.c3, mg x.c3, sg x.d, mg x.d⟩
theorem rwN_of {r : Rw} (h : vldR r = true) : r = rwN (nmR r) := by
  unfold vldR at h
  simp only [Bool.and_eq_true] at h
  obtain ⟨⟨⟨⟨h0, h1⟩, h2⟩, h3⟩, h4⟩ := h
  obtain ⟨a0, b0⟩ := vld_form h0
  obtain ⟨a1, b1⟩ := vld_form h1
  obtain ⟨a2, b2⟩ := vld_form h2
  obtain ⟨a3, b3⟩ := vld_form h3
  obtain ⟨a4, b4⟩ := vld_form h4
  obtain ⟨n0, s0, n1, s1, n2, s2, n3, s3, n4, s4⟩ := r
  unfold rwN nmR
  simp only at *
  simp only [← a0, ← b0, ← a1, ← b1, ← a2, ← b2, ← a3, ← b3, ← a4, ← b4]
end Go.Proofs.YtegnalgjjmpcmaaGreatDoor

