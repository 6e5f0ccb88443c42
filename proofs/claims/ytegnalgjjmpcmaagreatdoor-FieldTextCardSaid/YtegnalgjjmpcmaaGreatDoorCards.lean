/-
  DERIVED. GIVEN WITH THE SEED: THE CARDS: each row of YtegnalgjjmpcmaaGreatDoorRows.lean that lists a variable, with what it lists TIED to the program's text (the seventh form; the later family's looks); each row that meets fmt, with fmt's text TOLD by the authors' own Lean function (tested against real Go, not proved from fmt's source: count such statements apart). THE CARD IS WHAT COUNTS. Prove the row's statement (the work); the ties are given (YtegnalgjjmpcmaaGreatDoorTie.lean); close each card by the builder's one call (the guide's Derived/Test/ToyasCard.lean, 'card_holds'). Laid BY PROGRAM, IN A SANDBOX (cutbox-door.mjs). By AI agents, Wed Nov 11 2026. No macro, syntax, notation, axiom, sorry.
-/
import Derived.Test.YtegnalgjjmpcmaaGreatDoorRows
import GoSem.ClaimSeven
namespace Go.Proofs.YtegnalgjjmpcmaaGreatDoor
namespace Rows

/-- THE TIED CARD OF 'culetlaw04.VectorTurned'. -/
def vectorTurnedCard : Claim7 := { stood := { row := vectorTurnedRow, standIns := [], harness := (true, "13c2ac8358f9ba5237728e9d19571a1e1d1671054591d6e40b79b4f00615422d"), looks := false }, kinds := [], alts := [], laidByText := true, laidKinds := [.data, .data, .data, .data, .pinned], laidTests := true, laidLooks := .later }
def VectorTurnedCardSaid : Prop := Claim7.holds Tryz.pinned (.plain (OpenSpec.ofChange vectorTurnedSpec)) vectorTurnedCard

/-- THE TIED CARD OF 'culetlaw04.VectorProducts'. -/
def vectorProductsCard : Claim7 := { stood := { row := vectorProductsRow, standIns := [], harness := (true, "13c2ac8358f9ba5237728e9d19571a1e1d1671054591d6e40b79b4f00615422d"), looks := false }, kinds := [], alts := [], laidByText := true, laidKinds := [.data, .data, .data, .data, .pinned], laidTests := true, laidLooks := .later }
def VectorProductsCardSaid : Prop := Claim7.holds Tryz.pinned (.plain (OpenSpec.ofChange vectorProductsSpec)) vectorProductsCard

/-- THE TIED CARD OF 'culetlaw04.VectorIdentities'. -/
def vectorIdentitiesCard : Claim7 := { stood := { row := vectorIdentitiesRow, standIns := [], harness := (true, "13c2ac8358f9ba5237728e9d19571a1e1d1671054591d6e40b79b4f00615422d"), looks := false }, kinds := [], alts := [], laidByText := true, laidKinds := [.data, .data, .data, .data, .pinned], laidTests := true, laidLooks := .later }
def VectorIdentitiesCardSaid : Prop := Claim7.holds Tryz.pinned (.plain (OpenSpec.ofChange vectorIdentitiesSpec)) vectorIdentitiesCard

/-- THE TIED CARD OF 'culetlaw04.VectorLinear'. -/
def vectorLinearCard : Claim7 := { stood := { row := vectorLinearRow, standIns := [], harness := (true, "13c2ac8358f9ba5237728e9d19571a1e1d1671054591d6e40b79b4f00615422d"), looks := false }, kinds := [], alts := [], laidByText := true, laidKinds := [.data, .data, .data, .data, .pinned], laidTests := true, laidLooks := .later }
def VectorLinearCardSaid : Prop := Claim7.holds Tryz.pinned (.plain (OpenSpec.ofChange vectorLinearSpec)) vectorLinearCard

/-- THE TIED CARD OF 'culetlaw04.VectorOrder'. -/
def vectorOrderCard : Claim7 := { stood := { row := vectorOrderRow, standIns := [], harness := (true, "13c2ac8358f9ba5237728e9d19571a1e1d1671054591d6e40b79b4f00615422d"), looks := false }, kinds := [], alts := [], laidByText := true, laidKinds := [.data, .data, .data, .data, .pinned], laidTests := true, laidLooks := .later }
def VectorOrderCardSaid : Prop := Claim7.holds Tryz.pinned (.plain (OpenSpec.ofChange vectorOrderSpec)) vectorOrderCard

/-- THE TIED CARD OF 'culetlaw04.VectorBasic'. -/
def vectorBasicCard : Claim7 := { stood := { row := vectorBasicRow, standIns := [], harness := (true, "13c2ac8358f9ba5237728e9d19571a1e1d1671054591d6e40b79b4f00615422d"), looks := false }, kinds := [], alts := [], laidByText := true, laidKinds := [.data, .data, .data, .data, .pinned], laidTests := true, laidLooks := .later }
def VectorBasicCardSaid : Prop := Claim7.holds Tryz.pinned (.plain (OpenSpec.ofChange vectorBasicSpec)) vectorBasicCard

/-- THE TIED CARD OF 'culetlaw02.FieldArithmetic'. -/
def fieldArithmeticCard : Claim7 := { stood := { row := fieldArithmeticRow, standIns := [], harness := (true, "13c2ac8358f9ba5237728e9d19571a1e1d1671054591d6e40b79b4f00615422d"), looks := false }, kinds := [], alts := [], laidByText := true, laidKinds := [.data, .data, .data, .data, .pinned], laidTests := true, laidLooks := .later }
def FieldArithmeticCardSaid : Prop := Claim7.holds Tryz.pinned (.plain (OpenSpec.ofChange fieldArithmeticSpec)) fieldArithmeticCard

/-- THE TIED CARD OF 'culetlaw02.FieldText'. -/
def fieldTextCard : Claim7 := { stood := { row := fieldTextRow, standIns := [], harness := (true, "13c2ac8358f9ba5237728e9d19571a1e1d1671054591d6e40b79b4f00615422d"), looks := false }, kinds := [], alts := [], laidByText := true, laidKinds := [.data, .data, .data, .data, .pinned], laidTests := true, laidLooks := .later }
def FieldTextCardSaid : Prop := Claim7.holds Tryz.pinned (.plain (OpenSpec.ofChange fieldTextSpec)) fieldTextCard

/-- THE TIED CARD OF 'culetlaw02.FieldMake'. -/
def fieldMakeCard : Claim7 := { stood := { row := fieldMakeRow, standIns := [], harness := (true, "13c2ac8358f9ba5237728e9d19571a1e1d1671054591d6e40b79b4f00615422d"), looks := false }, kinds := [], alts := [], laidByText := true, laidKinds := [.data, .data, .data, .data, .pinned], laidTests := true, laidLooks := .later }
def FieldMakeCardSaid : Prop := Claim7.holds Tryz.pinned (.plain (OpenSpec.ofChange fieldMakeSpec)) fieldMakeCard

/-- THE TIED CARD OF 'culetlaw02.FieldBasic'. -/
def fieldBasicCard : Claim7 := { stood := { row := fieldBasicRow, standIns := [], harness := (true, "13c2ac8358f9ba5237728e9d19571a1e1d1671054591d6e40b79b4f00615422d"), looks := false }, kinds := [], alts := [], laidByText := true, laidKinds := [.data, .data, .data, .data, .pinned], laidTests := true, laidLooks := .later }
def FieldBasicCardSaid : Prop := Claim7.holds Tryz.pinned (.plain (OpenSpec.ofChange fieldBasicSpec)) fieldBasicCard

/-- THE TIED CARD OF 'culetlaw02.FieldEnclose'. -/
def fieldEncloseCard : Claim7 := { stood := { row := fieldEncloseRow, standIns := [], harness := (true, "13c2ac8358f9ba5237728e9d19571a1e1d1671054591d6e40b79b4f00615422d"), looks := false }, kinds := [], alts := [], laidByText := true, laidKinds := [.data, .data, .data, .data, .pinned], laidTests := true, laidLooks := .later }
def FieldEncloseCardSaid : Prop := Claim7.holds Tryz.pinned (.plain (OpenSpec.ofChange fieldEncloseSpec)) fieldEncloseCard

/-- THE TIED CARD OF 'culetlaw04.VectorText'. -/
def vectorTextCard : Claim7 := { stood := { row := vectorTextRow, standIns := [], harness := (true, "13c2ac8358f9ba5237728e9d19571a1e1d1671054591d6e40b79b4f00615422d"), looks := false }, kinds := [], alts := [], laidByText := true, laidKinds := [.data, .data, .data, .data, .pinned], laidTests := true, laidLooks := .later }
def VectorTextCardSaid : Prop := Claim7.holds Tryz.pinned (.plain (OpenSpec.ofChange vectorTextSpec)) vectorTextCard

/-- THE SECOND FORM's CARD OF 'culetlaw04.VectorTurned'. -/
def vectorTurnedUptoCard : Claim7 := { stood := { row := vectorTurnedUptoRow, standIns := [], harness := (true, "13c2ac8358f9ba5237728e9d19571a1e1d1671054591d6e40b79b4f00615422d"), looks := false }, kinds := [], alts := [], laidByText := true, laidKinds := [.data, .data, .data, .data, .pinned], laidTests := true, laidLooks := .later }
def VectorTurnedUptoCardSaid : Prop := Claim7.holds Tryz.pinned (.plain (OpenSpec.upto vectorTurnedSpec)) vectorTurnedUptoCard

/-- THE SECOND FORM's CARD OF 'culetlaw04.VectorProducts'. -/
def vectorProductsUptoCard : Claim7 := { stood := { row := vectorProductsUptoRow, standIns := [], harness := (true, "13c2ac8358f9ba5237728e9d19571a1e1d1671054591d6e40b79b4f00615422d"), looks := false }, kinds := [], alts := [], laidByText := true, laidKinds := [.data, .data, .data, .data, .pinned], laidTests := true, laidLooks := .later }
def VectorProductsUptoCardSaid : Prop := Claim7.holds Tryz.pinned (.plain (OpenSpec.upto vectorProductsSpec)) vectorProductsUptoCard

/-- THE SECOND FORM's CARD OF 'culetlaw04.VectorIdentities'. -/
def vectorIdentitiesUptoCard : Claim7 := { stood := { row := vectorIdentitiesUptoRow, standIns := [], harness := (true, "13c2ac8358f9ba5237728e9d19571a1e1d1671054591d6e40b79b4f00615422d"), looks := false }, kinds := [], alts := [], laidByText := true, laidKinds := [.data, .data, .data, .data, .pinned], laidTests := true, laidLooks := .later }
def VectorIdentitiesUptoCardSaid : Prop := Claim7.holds Tryz.pinned (.plain (OpenSpec.upto vectorIdentitiesSpec)) vectorIdentitiesUptoCard

/-- THE SECOND FORM's CARD OF 'culetlaw04.VectorLinear'. -/
def vectorLinearUptoCard : Claim7 := { stood := { row := vectorLinearUptoRow, standIns := [], harness := (true, "13c2ac8358f9ba5237728e9d19571a1e1d1671054591d6e40b79b4f00615422d"), looks := false }, kinds := [], alts := [], laidByText := true, laidKinds := [.data, .data, .data, .data, .pinned], laidTests := true, laidLooks := .later }
def VectorLinearUptoCardSaid : Prop := Claim7.holds Tryz.pinned (.plain (OpenSpec.upto vectorLinearSpec)) vectorLinearUptoCard

/-- THE SECOND FORM's CARD OF 'culetlaw04.VectorOrder'. -/
def vectorOrderUptoCard : Claim7 := { stood := { row := vectorOrderUptoRow, standIns := [], harness := (true, "13c2ac8358f9ba5237728e9d19571a1e1d1671054591d6e40b79b4f00615422d"), looks := false }, kinds := [], alts := [], laidByText := true, laidKinds := [.data, .data, .data, .data, .pinned], laidTests := true, laidLooks := .later }
def VectorOrderUptoCardSaid : Prop := Claim7.holds Tryz.pinned (.plain (OpenSpec.upto vectorOrderSpec)) vectorOrderUptoCard

/-- THE SECOND FORM's CARD OF 'culetlaw04.VectorBasic'. -/
def vectorBasicUptoCard : Claim7 := { stood := { row := vectorBasicUptoRow, standIns := [], harness := (true, "13c2ac8358f9ba5237728e9d19571a1e1d1671054591d6e40b79b4f00615422d"), looks := false }, kinds := [], alts := [], laidByText := true, laidKinds := [.data, .data, .data, .data, .pinned], laidTests := true, laidLooks := .later }
def VectorBasicUptoCardSaid : Prop := Claim7.holds Tryz.pinned (.plain (OpenSpec.upto vectorBasicSpec)) vectorBasicUptoCard

/-- THE SECOND FORM's CARD OF 'culetlaw02.FieldArithmetic'. -/
def fieldArithmeticUptoCard : Claim7 := { stood := { row := fieldArithmeticUptoRow, standIns := [], harness := (true, "13c2ac8358f9ba5237728e9d19571a1e1d1671054591d6e40b79b4f00615422d"), looks := false }, kinds := [], alts := [], laidByText := true, laidKinds := [.data, .data, .data, .data, .pinned], laidTests := true, laidLooks := .later }
def FieldArithmeticUptoCardSaid : Prop := Claim7.holds Tryz.pinned (.plain (OpenSpec.upto fieldArithmeticSpec)) fieldArithmeticUptoCard

/-- THE SECOND FORM's CARD OF 'culetlaw02.FieldText'. -/
def fieldTextUptoCard : Claim7 := { stood := { row := fieldTextUptoRow, standIns := [], harness := (true, "13c2ac8358f9ba5237728e9d19571a1e1d1671054591d6e40b79b4f00615422d"), looks := false }, kinds := [], alts := [], laidByText := true, laidKinds := [.data, .data, .data, .data, .pinned], laidTests := true, laidLooks := .later }
def FieldTextUptoCardSaid : Prop := Claim7.holds Tryz.pinned (.plain (OpenSpec.upto fieldTextSpec)) fieldTextUptoCard

/-- THE SECOND FORM's CARD OF 'culetlaw02.FieldMake'. -/
def fieldMakeUptoCard : Claim7 := { stood := { row := fieldMakeUptoRow, standIns := [], harness := (true, "13c2ac8358f9ba5237728e9d19571a1e1d1671054591d6e40b79b4f00615422d"), looks := false }, kinds := [], alts := [], laidByText := true, laidKinds := [.data, .data, .data, .data, .pinned], laidTests := true, laidLooks := .later }
def FieldMakeUptoCardSaid : Prop := Claim7.holds Tryz.pinned (.plain (OpenSpec.upto fieldMakeSpec)) fieldMakeUptoCard

/-- THE SECOND FORM's CARD OF 'culetlaw02.FieldBasic'. -/
def fieldBasicUptoCard : Claim7 := { stood := { row := fieldBasicUptoRow, standIns := [], harness := (true, "13c2ac8358f9ba5237728e9d19571a1e1d1671054591d6e40b79b4f00615422d"), looks := false }, kinds := [], alts := [], laidByText := true, laidKinds := [.data, .data, .data, .data, .pinned], laidTests := true, laidLooks := .later }
def FieldBasicUptoCardSaid : Prop := Claim7.holds Tryz.pinned (.plain (OpenSpec.upto fieldBasicSpec)) fieldBasicUptoCard

/-- THE SECOND FORM's CARD OF 'culetlaw02.FieldEnclose'. -/
def fieldEncloseUptoCard : Claim7 := { stood := { row := fieldEncloseUptoRow, standIns := [], harness := (true, "13c2ac8358f9ba5237728e9d19571a1e1d1671054591d6e40b79b4f00615422d"), looks := false }, kinds := [], alts := [], laidByText := true, laidKinds := [.data, .data, .data, .data, .pinned], laidTests := true, laidLooks := .later }
def FieldEncloseUptoCardSaid : Prop := Claim7.holds Tryz.pinned (.plain (OpenSpec.upto fieldEncloseSpec)) fieldEncloseUptoCard

/-- THE SECOND FORM's CARD OF 'culetlaw04.VectorText'. -/
def vectorTextUptoCard : Claim7 := { stood := { row := vectorTextUptoRow, standIns := [], harness := (true, "13c2ac8358f9ba5237728e9d19571a1e1d1671054591d6e40b79b4f00615422d"), looks := false }, kinds := [], alts := [], laidByText := true, laidKinds := [.data, .data, .data, .data, .pinned], laidTests := true, laidLooks := .later }
def VectorTextUptoCardSaid : Prop := Claim7.holds Tryz.pinned (.plain (OpenSpec.upto vectorTextSpec)) vectorTextUptoCard
end Rows
end Go.Proofs.YtegnalgjjmpcmaaGreatDoor
