/- BigintDivision: the given program's quotients, rests and common divisors are those of the reference. -/
import Derived.Test.YtnejlboohjdfiaaGreatDoorQG
import Derived.Test.YtnejlboohjdfiaaGreatDoorQF
import Derived.Test.YtnejlboohjdfiaaGreatDoorQLawB
import Derived.Test.YtnejlboohjdfiaaGreatDoorQB
namespace Go.Proofs.YtnejlboohjdfiaaGreatDoor
open Go Go.RowKit
set_option linter.unusedVariables false
set_option linter.unusedSimpArgs false

theorem Chg.bl {w w' : World} (hc : Chg [] w w') : Below w.heap.size w w' := hc.below (Nat.le_refl _) (fun x h => by cases h)
set_option maxRecDepth 100000 in
theorem Gcd_bad1 (n m : Bool) (s t : ByteArray) (w : World) (h : vld n s = false) : Calls Tryz.prog 17 #[.agg #[.bool n, .string s], .agg #[.bool m, .string t]] w (RetI 0 w) := by
  rw [show RetI 0 w = RetV (.agg #[.bool false, .string ⟨#[]⟩]) w from by unfold RetI RetV; rw [vI_zero]]
  exact vm_pure (by kernel_rfl) Tryz.func17 rfl [.agg #[.bool n, .string s], .agg #[.bool m, .string t]] (Nat.le_of_ble_eq_true (by kernel_rfl)) [] [.t, .t, .t, .t, .t] [cV (fun w => Valid_no n s w h)] (fun r => by kernel_rfl) (fun r => by kernel_rfl)
set_option maxRecDepth 100000 in
theorem Gcd_bad2 (n m : Bool) (s t : ByteArray) (w : World) (h : vld n s = true) (h2 : vld m t = false) : Calls Tryz.prog 17 #[.agg #[.bool n, .string s], .agg #[.bool m, .string t]] w (RetI 0 w) := by
  rw [show RetI 0 w = RetV (.agg #[.bool false, .string ⟨#[]⟩]) w from by unfold RetI RetV; rw [vI_zero]]
  exact vm_pure (by kernel_rfl) Tryz.func17 rfl [.agg #[.bool n, .string s], .agg #[.bool m, .string t]] (Nat.le_of_ble_eq_true (by kernel_rfl)) [] [.f, .f, .f, .f, .t] [cV (fun w => Valid_ok n s w h), cV (fun w => Valid_no m t w h2)] (fun r => by kernel_rfl) (fun r => by kernel_rfl)
theorem Hc.rdi2 {w : World} {t : TypeId} {b : Nat} {a c : Bool} {r s : ByteArray} (h : Hc w b t #[.bool a, .string r, .bool c, .string s]) : RdI w (some ⟨b, 0, none⟩) [(a, r), (c, s)] := fun i hi => by
  have e : ∀ j v, (#[Value.bool a, .string r, .bool c, .string s] : Array Value)[j]? = some v → w.cell? ⟨b, j, none⟩ = some v := fun j v hv => by
    unfold Hc at h
    simp only [World.cell?, h, Option.isSome_none]
    exact hv
  have : i = 0 ∨ i = 1 := by simp at hi; omega
  rcases this with rfl | rfl
  · exact ⟨b, 0, rfl, e 0 _ rfl, e 1 _ rfl⟩
  · exact ⟨b, 0, rfl, e 2 _ rfl, e 3 _ rfl⟩

set_option maxRecDepth 100000 in
theorem Div_no (n m : Bool) (s t : ByteArray) (w : World)
    (HAW : ∀ W, Below w.heap.size w W → Calls Tryz.prog 13 #[] W (RetB true W))
    (HFE : ∀ (A : Option Addr) c W, RdI W A [(n, s), (m, t)] → Calls Tryz.prog 14 #[.slice A 2 c] W (RetB false W)) :
    Calls Tryz.prog 3 #[.agg #[.bool n, .string s], .agg #[.bool m, .string t]] w (RetV (.bool true) w) := by
  exact vm_pure (by kernel_rfl) Tryz.func3 rfl [.agg #[.bool n, .string s], .agg #[.bool m, .string t]] (Nat.le_of_ble_eq_true (by kernel_rfl)) [] [.f, .t] [cW (fun w' hc => HAW w' (Chg.bl hc)), cM 7 23 #[.bool n, .string s, .bool m, .string t] (fun b w' hc hB => HFE (some ⟨b, 0, none⟩) 2 w' hB.rdi2)] (fun r => by kernel_rfl) (fun r => by kernel_rfl)
set_option maxRecDepth 100000 in
theorem Div_yes (n m : Bool) (s t : ByteArray) (q r g : Int) (e : Int) (w : World)
    (HAW : ∀ W, Below w.heap.size w W → Calls Tryz.prog 13 #[] W (RetB true W))
    (HFE : ∀ (A : Option Addr) c W, RdI W A [(n, s), (m, t)] → Calls Tryz.prog 14 #[.slice A 2 c] W (RetB true W))
    (D1 : ∀ W, Calls Tryz.prog 15 #[.agg #[.bool n, .string s], .agg #[.bool m, .string t]] W (RetIIE q r e W))
    (D2 : ∀ W, Calls Tryz.prog 16 #[.agg #[.bool n, .string s], .agg #[.bool m, .string t]] W (RetIIE q r e W))
    (G1 : ∀ W, Calls Tryz.prog 17 #[.agg #[.bool n, .string s], .agg #[.bool m, .string t]] W (RetI g W))
    (G2 : ∀ W, Calls Tryz.prog 18 #[.agg #[.bool n, .string s], .agg #[.bool m, .string t]] W (RetI g W)) :
    Calls Tryz.prog 3 #[.agg #[.bool n, .string s], .agg #[.bool m, .string t]] w (RetV (.bool true) w) := by
  have he : (e == e) = true := by simp
  exact vm_pure (by kernel_rfl) Tryz.func3 rfl [.agg #[.bool n, .string s], .agg #[.bool m, .string t]] (Nat.le_of_ble_eq_true (by kernel_rfl)) [(7, 2), (7, 6), (7, 20)] [.f, .f, .t, .t, .t, .t, .t, .t, .t, .t, (.p _ true he), (.p _ true he), (.p _ true he), (.p _ true he), (.p _ true he), (.p _ true he), (.p _ true he), (.p _ true he)] [cW (fun w' hc => HAW w' (Chg.bl hc)), cM 7 23 #[.bool n, .string s, .bool m, .string t] (fun b w' hc hB => HFE (some ⟨b, 0, none⟩) 2 w' hB.rdi2), cV (D1), cV (D2), lV _ (.bool true) (fun w hC => eqI_same (q) (.tmp 32) (.tmp 33) w), lV _ (.bool true) (fun w hC => eqI_same (r) (.tmp 36) (.tmp 37) w), cV (G1), cV (G2), lV _ (.bool true) (fun w hC => eqI_same (g) (.tmp 48) (.tmp 51) w)] (fun r => by kernel_rfl) (fun r => by kernel_rfl)
theorem Div_all (n m : Bool) (s t : ByteArray) (w : World) (ht : HasTab w) : Calls Tryz.prog 3 #[.agg #[.bool n, .string s], .agg #[.bool m, .string t]] w (RetB true w) := by
  have HAW : ∀ W, Below w.heap.size w W → Calls Tryz.prog 13 #[] W (RetB true W) := fun W h => awake_any W (ht.below h)
  have HFE := fun (A : Option Addr) c W h => few_any A c [(n, s), (m, t)] W h (by simp)
  cases hr : ([(n, s), (m, t)].all fun p => decide (p.2.size ≤ 60)) with
  | false =>
    rw [hr] at HFE
    exact Div_no n m s t w HAW HFE
  | true =>
    rw [hr] at HFE
    simp only [List.all_cons, List.all_nil, Bool.and_true, Bool.and_eq_true, decide_eq_true_eq] at hr
    obtain ⟨f1, f2⟩ := hr
    cases v1 : vld n s with
    | false => exact Div_yes n m s t 0 0 0 1 w HAW HFE (fun W => DivMod_bad1 n m s t W v1) (fun W => RDM_bad1 n m s t W v1) (fun W => Gcd_bad1 n m s t W v1) (fun W => RGcd_bad1 n m s t W v1)
    | true =>
      cases v2 : vld m t with
      | false => exact Div_yes n m s t 0 0 0 1 w HAW HFE (fun W => DivMod_bad2 n m s t W v1 v2) (fun W => RDM_bad2 n m s t W v1 v2) (fun W => Gcd_bad2 n m s t W v1 v2) (fun W => RGcd_bad2 n m s t W v1 v2)
      | true =>
        obtain ⟨e1, e2⟩ := vld_form v1
        obtain ⟨e3, e4⟩ := vld_form v2
        generalize ival n s = x at *
        generalize ival m t = y at *
        subst e1 e2 e3 e4
        have hx : Bd 60 x := (Bd.of_size x).mono f1
        have hy : Bd 60 y := (Bd.of_size y).mono f2
        by_cases hy0 : y = 0
        · subst hy0
          exact Div_yes _ _ _ _ 0 0 _ 10 w HAW HFE (fun W => DivMod_div0 (sg x) (mg x) W (vld_sg x)) (fun W => RDM_zero x W) (fun W => Gcd_any x 0 W (hx.mono (by omega)) (Bd.zero _)) (fun W => RGcd_any x 0 W (hx.mono (by omega)) (Bd.zero _))
        · exact Div_yes _ _ _ _ (x.fdiv y) (x.fmod y) _ 0 w HAW HFE (fun W => DivMod_any x y W (hx.mono (by omega)) (hy.mono (by omega)) hy0) (fun W => RDivMod_any x y W (hx.mono (by omega)) (hy.mono (by omega)) hy0) (fun W => Gcd_any x y W (hx.mono (by omega)) (hy.mono (by omega))) (fun W => RGcd_any x y W (hx.mono (by omega)) (hy.mono (by omega)))
end Go.Proofs.YtnejlboohjdfiaaGreatDoor
