/-
  DERIVED. GIVEN WITH THE SEED: THE CARDS: each row of YtboolbcckfldaaaGreatDoorRows.lean that lists a variable, with what it lists TIED to the program's text (the seventh form; the later family's looks); each row that meets fmt, with fmt's text TOLD by the authors' own Lean function (tested against real Go, not proved from fmt's source: count such statements apart). THE CARD IS WHAT COUNTS. Prove the row's statement (the work); the ties are given (YtboolbcckfldaaaGreatDoorTie.lean); close each card by the builder's one call (the guide's Derived/Test/ToyasCard.lean, 'card_holds'). Laid BY PROGRAM, IN A SANDBOX (cutbox-door.mjs). By AI agents, Wed Nov 11 2026. No macro, syntax, notation, axiom, sorry.
-/
import Derived.Test.YtboolbcckfldaaaGreatDoorRows
import GoSem.ClaimSeven
namespace Go.Proofs.YtboolbcckfldaaaGreatDoor
namespace Rows

/-- THE TIED CARD OF 'culetlaw01.BigintArithmetic'. -/
def bigintArithmeticCard : Claim7 := { stood := { row := bigintArithmeticRow, standIns := [], harness := (true, "1371683cd9e867281d41982ce12c9ad1c6347cbc02f839b69aa055dc36372dde"), looks := false }, kinds := [], alts := [], laidByText := true, laidKinds := [.data, .data, .data, .data, .pinned], laidTests := true, laidLooks := .later }
def BigintArithmeticCardSaid : Prop := Claim7.holds Tryz.pinned (.plain (OpenSpec.ofChange bigintArithmeticSpec)) bigintArithmeticCard

/-- THE TIED CARD OF 'culetlaw01.BigintDivision'. -/
def bigintDivisionCard : Claim7 := { stood := { row := bigintDivisionRow, standIns := [], harness := (true, "1371683cd9e867281d41982ce12c9ad1c6347cbc02f839b69aa055dc36372dde"), looks := false }, kinds := [], alts := [], laidByText := true, laidKinds := [.data, .data, .data, .data, .pinned], laidTests := true, laidLooks := .later }
def BigintDivisionCardSaid : Prop := Claim7.holds Tryz.pinned (.plain (OpenSpec.ofChange bigintDivisionSpec)) bigintDivisionCard

/-- THE SECOND FORM's CARD OF 'culetlaw01.BigintArithmetic'. -/
def bigintArithmeticUptoCard : Claim7 := { stood := { row := bigintArithmeticUptoRow, standIns := [], harness := (true, "1371683cd9e867281d41982ce12c9ad1c6347cbc02f839b69aa055dc36372dde"), looks := false }, kinds := [], alts := [], laidByText := true, laidKinds := [.data, .data, .data, .data, .pinned], laidTests := true, laidLooks := .later }
def BigintArithmeticUptoCardSaid : Prop := Claim7.holds Tryz.pinned (.plain (OpenSpec.upto bigintArithmeticSpec)) bigintArithmeticUptoCard

/-- THE SECOND FORM's CARD OF 'culetlaw01.BigintDivision'. -/
def bigintDivisionUptoCard : Claim7 := { stood := { row := bigintDivisionUptoRow, standIns := [], harness := (true, "1371683cd9e867281d41982ce12c9ad1c6347cbc02f839b69aa055dc36372dde"), looks := false }, kinds := [], alts := [], laidByText := true, laidKinds := [.data, .data, .data, .data, .pinned], laidTests := true, laidLooks := .later }
def BigintDivisionUptoCardSaid : Prop := Claim7.holds Tryz.pinned (.plain (OpenSpec.upto bigintDivisionSpec)) bigintDivisionUptoCard
end Rows
end Go.Proofs.YtboolbcckfldaaaGreatDoor
