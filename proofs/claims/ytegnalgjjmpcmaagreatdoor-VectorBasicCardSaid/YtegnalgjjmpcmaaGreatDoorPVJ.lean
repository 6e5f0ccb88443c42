import Derived.Test.YtegnalgjjmpcmaaGreatDoorPVB
import Derived.Test.YtegnalgjjmpcmaaGreatDoorPVI
import Derived.Test.YtegnalgjjmpcmaaGreatDoorPVC
namespace Go.Proofs.YtegnalgjjmpcmaaGreatDoor
open Go.RowKit
set_option linter.unusedVariables false
set_option linter.unusedSimpArgs false
def digAt (t : ByteArray) (i : Nat) : Nat := if h : i < t.size then t[i].toNat - 48 else 0
def numAt (t : ByteArray) : Nat → Nat
  | 0 => 0
  | i + 1 => numAt t i * 10 + digAt t i
def shapeB (neg : Bool) (t : ByteArray) : Bool := if h : 0 < t.size then !(decide (t[0].toNat = 48) && (decide (1 < t.size) || neg)) else false
def AllD (t : ByteArray) : Prop := ∀ i (h : i < t.size), 48 ≤ t[i].toNat ∧ t[i].toNat ≤ 57
def parseN (t : ByteArray) (neg : Bool) (e : Int) : Int := if e = 0 then sgnd neg (numAt t t.size) else 0
open Classical in
noncomputable def parseE (t : ByteArray) (neg : Bool) : Int := if shapeB neg t = true ∧ AllD t then (if t.size ≤ 400 then 0 else 3) else 4
end Go.Proofs.YtegnalgjjmpcmaaGreatDoor

namespace Go.Proofs.YtegnalgjjmpcmaaGreatDoor
open Go Go.RowKit
set_option linter.unusedVariables false
set_option linter.unusedSimpArgs false
def rdC (l : List UInt8) (e : Int) : Array Value := #[.string ⟨l.toArray⟩, .int .i64 e]
def RetRd (b : Nat) (v : Value) (l : List UInt8) (e : Int) (w : World) (r : Ending) (w' : World) : Prop := r = .returned v ∧ Hc w' b 95 (rdC l e) ∧ Chg [b] w w'
def e14 : Nm := ⟨1, 0, 0, 0, 4⟩
def e1 : Nm := ⟨0, 1, 0, 0, 4⟩
def e3 : Nm := ⟨0, 0, 0, 1, 4⟩
def e4 : Nm := ⟨0, 1, 0, 1, 4⟩
theorem BN1 (a b c d e : Int) (h : (Nat.blt a.natAbs 256 && Nat.blt b.natAbs 256 && Nat.blt c.natAbs 256 && Nat.blt d.natAbs 256 && Nat.blt e.natAbs 256) = true) : BN 1 ⟨a, b, c, d, e⟩ := by
  simp only [Bool.and_eq_true, Nat.blt_eq] at h
  obtain ⟨⟨⟨⟨h0, h1⟩, h2⟩, h3⟩, h4⟩ := h
  exact ⟨h0, h1, h2, h3, h4⟩
theorem ok_lit (x : Nm) (h : (decide (0 < x.d) && Nat.beq (cof x) 1) = true) : Ok x := by
  simp only [Bool.and_eq_true, decide_eq_true_eq] at h
  exact ⟨h.1, Nat.eq_of_beq_eq_true h.2⟩

theorem Chg.bl0 {w w' : World} (hc : Chg [] w w') : Below w.heap.size w w' := hc.below (Nat.le_refl _) (fun x h => by cases h)
theorem vI_p1 : vI 1 = .agg #[.bool false, .string ⟨#[1]⟩] := by kernel_rfl
theorem it1 : strOf (Lib.itoa 1) = .string ⟨#[49]⟩ := by kernel_rfl
def e5 : Nm := ⟨0, -1, 1, 0, 1⟩
theorem bd1 {z : Int} (k : Nat) (hk : 1 ≤ k) (h : z.natAbs < 256) : Bd k z := (show Bd 1 z by unfold Bd; omega).mono hk
theorem gOf_any (n : Int) (w : World) (h0 : -9223372036854775808 ≤ n) (h1 : n ≤ 9223372036854775807) : Calls Tryz.prog 27 #[.int .i64 n] w (RetV (vN (intN n)) w) := by
  have H1 := fun w => ROf_any n w h0 h1
  have H2 := fun w => ROf_any 1 w (by omega) (by omega)
  unfold intN
  rw [vN_one]
  exact vm_pure kr Tryz.func27 rfl [.int .i64 n] nle [] [] [cV (H1), cV (H2)]
def e6 : Nm := ⟨0, 1, 1, 0, 1⟩
def e7 : Nm := ⟨1, 1, 0, 0, 1⟩
def e8 : Nm := ⟨1, -1, 0, 0, 1⟩
theorem int_bn (k : Int) (h : k.natAbs < 256) : BN 1 (intN k) := BN.int (show Bd 1 k by unfold Bd; omega) (Nat.le_refl 1)
end Go.Proofs.YtegnalgjjmpcmaaGreatDoor
