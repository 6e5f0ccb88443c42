import Derived.Test.YtboolbcckfldaaaGreatDoorWalkV
import Derived.Test.YtboolbcckfldaaaGreatDoorNum
import Derived.Test.YtboolbcckfldaaaGreatDoorOb
namespace Go.Proofs.YtboolbcckfldaaaGreatDoor
open Go.RowKit
set_option linter.unusedVariables false
set_option linter.unusedSimpArgs false

def RetNB (n : Int) (b : Bool) (w : World) (e : Ending) (w' : World) : Prop := e = .returned (.tuple #[.int .i64 n, .bool b]) ∧ Below w.heap.size w w'

theorem ret_nb {a b : Int} {c : Bool} (h : a = b) : Ending.returned (.tuple #[.int .i64 a, .bool c]) = .returned (.tuple #[.int .i64 b, .bool c]) := by rw [h]
theorem or_byte64 (a c : Nat) (ha : a < 72057594037927936) (hc : c < 256) : bits BinOp.or IntKind.u64 ((a : Int) * 256) (c : Int) = ((a * 256 + c : Nat) : Int) := by
  have h1 : a * 256 < 18446744073709551616 := by omega
  have h2 := u64_or_nat (a * 256) c h1 (by omega)
  have h3 := Nat.shiftLeft_add_eq_or_of_lt (a := a) (b := c) (i := 8) (by omega)
  rw [Nat.shiftLeft_eq] at h3
  rw [show ((a : Int) * 256) = ((a * 256 : Nat) : Int) from by omega, h2, ← h3]

/-- what Int64 gives for a valid integer -/
def fits64 (z : Int) : Bool := decide (-9223372036854775808 ≤ z ∧ z < 9223372036854775808)
end Go.Proofs.YtboolbcckfldaaaGreatDoor
