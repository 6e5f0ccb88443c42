import Derived.Test.YtnejlboohjdfiaaGreatDoorQC
namespace Go.Proofs.YtnejlboohjdfiaaGreatDoor
open Go.RowKit
set_option linter.unusedVariables false
set_option linter.unusedSimpArgs false

/-- the slice at A reads as these signs and bytes -/
def RdI (w : World) (A : Option Addr) (xs : List (Bool × ByteArray)) : Prop :=
  ∀ i (h : i < xs.length), ∃ b o, A = some ⟨b, o, none⟩ ∧ w.cell? ⟨b, o + i * 2, none⟩ = some (.bool xs[i].1) ∧ w.cell? ⟨b, o + i * 2 + 1, none⟩ = some (.string xs[i].2)
theorem RdI.below {w w' : World} {A : Option Addr} {xs : List (Bool × ByteArray)} (h : RdI w A xs) (hb : Below w.heap.size w w') : RdI w' A xs := fun i hi => by
  obtain ⟨b, o, hA, h1, h2⟩ := h i hi
  exact ⟨b, o, hA, below_cell hb h1 (lt_of_cell h1), below_cell hb h2 (lt_of_cell h2)⟩

set_option maxHeartbeats 1000000 in
set_option maxRecDepth 100000 in
theorem few_any (A : Option Addr) (c : Nat) (xs : List (Bool × ByteArray)) (w : World) (hx : RdI w A xs) (hl : xs.length ≤ 1000000000) :
    Calls Tryz.prog 14 #[.slice A xs.length c] w (RetB (xs.all fun p => decide (p.2.size ≤ 60)) w) := by
  have HX := Lib.hid hx
  clear hx
  go_enter Tryz.func14, Tryz.ntmps14
  go_wp2_with fail
  go_loopw [7] (fun v7 wr => ∃ i : Nat, i ≤ xs.length ∧ v7 = .int .i64 i ∧ Hid (∀ j (h : j < xs.length), j < i → xs[j].2.size ≤ 60) ∧ Below w.heap.size w wr) (fun v7 _ => xs.length - (intOf v7).toNat)
  case atStart => exact ⟨0, by omega, rfl, Lib.hid (fun j h hj => by omega), Below.refl _ _⟩
  case round =>
    obtain ⟨i, hi, rfl, hall, hbl⟩ := hrel
    by_cases hil : i < xs.length
    · obtain ⟨b, o, rfl, hc1, hc2⟩ := (HX.out.below hbl) i hil
      by_cases hs : xs[i].2.size ≤ 60
      · have hs' : ¬ (60 : Int) < xs[i].2.size := by omega
        go_wp2_with fail
        refine ⟨⟨i + 1, by omega, rfl, Lib.hid (fun j h hj => ?_), hbl.alloc hbl.size _⟩, by simp [intOf]; omega⟩
        by_cases hji : j = i
        · subst hji; exact hs
        · exact hall.out j h (by omega)
      · have hs' : (60 : Int) < xs[i].2.size := by omega
        have hv : Hid ((xs.all fun p => decide (p.2.size ≤ 60)) = false) := Lib.hid (by
          rw [List.all_eq_false]
          exact ⟨xs[i], List.getElem_mem hil, by simpa using hs⟩)
        go_wp2_with fail
        go_ret
        exact ⟨ret_bool hv.out.symm, hbl.alloc hbl.size _⟩
    · have hv : Hid ((xs.all fun p => decide (p.2.size ≤ 60)) = true) := Lib.hid (by
        rw [List.all_eq_true]
        intro p hp
        obtain ⟨j, hj, rfl⟩ := List.getElem_of_mem hp
        simpa using hall.out j hj (by omega))
      go_wp2_with fail
      go_ret
      exact ⟨ret_bool hv.out.symm, hbl⟩

end Go.Proofs.YtnejlboohjdfiaaGreatDoor
