/-
  DERIVED. GIVEN WITH THE SEED: THE CARDS: each row of YtnejlboohjdfiaaGreatDoorRows.lean that lists a variable, with what it lists TIED to the program's text (the seventh form; the later family's looks); each row that meets fmt, with fmt's text TOLD by the authors' own Lean function (tested against real Go, not proved from fmt's source: count such statements apart). THE CARD IS WHAT COUNTS. Prove the row's statement (the work); the ties are given (YtnejlboohjdfiaaGreatDoorTie.lean); close each card by the builder's one call (the guide's Derived/Test/ToyasCard.lean, 'card_holds'). Laid BY PROGRAM, IN A SANDBOX (cutbox-door.mjs). By AI agents, Wed Nov 11 2026. No macro, syntax, notation, axiom, sorry.
-/
import Derived.Test.YtnejlboohjdfiaaGreatDoorRows
import GoSem.ClaimSeven
namespace Go.Proofs.YtnejlboohjdfiaaGreatDoor
namespace Rows

/-- THE TIED CARD OF 'culetlaw01.BigintDivision'. -/
def bigintDivisionCard : Claim7 := { stood := { row := bigintDivisionRow, standIns := [], harness := (true, "ce34a489391b731bb019ca0d4481c4ddb90cac5cebfe1050666c7ed75dce5ea8"), looks := false }, kinds := [], alts := [], laidByText := true, laidKinds := [.data, .data, .data, .data, .pinned], laidTests := true, laidLooks := .later }
def BigintDivisionCardSaid : Prop := Claim7.holds Tryz.pinned (.plain (OpenSpec.ofChange bigintDivisionSpec)) bigintDivisionCard

/-- THE TIED CARD OF 'culetlaw02.FieldArithmetic'. -/
def fieldArithmeticCard : Claim7 := { stood := { row := fieldArithmeticRow, standIns := [], harness := (true, "ce34a489391b731bb019ca0d4481c4ddb90cac5cebfe1050666c7ed75dce5ea8"), looks := false }, kinds := [], alts := [], laidByText := true, laidKinds := [.data, .data, .data, .data, .pinned], laidTests := true, laidLooks := .later }
def FieldArithmeticCardSaid : Prop := Claim7.holds Tryz.pinned (.plain (OpenSpec.ofChange fieldArithmeticSpec)) fieldArithmeticCard

/-- THE TIED CARD OF 'culetlaw02.FieldText'. -/
def fieldTextCard : Claim7 := { stood := { row := fieldTextRow, standIns := [], harness := (true, "ce34a489391b731bb019ca0d4481c4ddb90cac5cebfe1050666c7ed75dce5ea8"), looks := false }, kinds := [], alts := [], laidByText := true, laidKinds := [.data, .data, .data, .data, .pinned], laidTests := true, laidLooks := .later }
def FieldTextCardSaid : Prop := Claim7.holds Tryz.pinned (.plain (OpenSpec.ofChange fieldTextSpec)) fieldTextCard

/-- THE TIED CARD OF 'culetlaw02.FieldLaws'. -/
def fieldLawsCard : Claim7 := { stood := { row := fieldLawsRow, standIns := [], harness := (true, "ce34a489391b731bb019ca0d4481c4ddb90cac5cebfe1050666c7ed75dce5ea8"), looks := false }, kinds := [], alts := [], laidByText := true, laidKinds := [.data, .data, .data, .data, .pinned], laidTests := true, laidLooks := .later }
def FieldLawsCardSaid : Prop := Claim7.holds Tryz.pinned (.plain (OpenSpec.ofChange fieldLawsSpec)) fieldLawsCard

/-- THE TIED CARD OF 'culetlaw02.FieldMake'. -/
def fieldMakeCard : Claim7 := { stood := { row := fieldMakeRow, standIns := [], harness := (true, "ce34a489391b731bb019ca0d4481c4ddb90cac5cebfe1050666c7ed75dce5ea8"), looks := false }, kinds := [], alts := [], laidByText := true, laidKinds := [.data, .data, .data, .data, .pinned], laidTests := true, laidLooks := .later }
def FieldMakeCardSaid : Prop := Claim7.holds Tryz.pinned (.plain (OpenSpec.ofChange fieldMakeSpec)) fieldMakeCard

/-- THE TIED CARD OF 'culetlaw02.FieldOrder'. -/
def fieldOrderCard : Claim7 := { stood := { row := fieldOrderRow, standIns := [], harness := (true, "ce34a489391b731bb019ca0d4481c4ddb90cac5cebfe1050666c7ed75dce5ea8"), looks := false }, kinds := [], alts := [], laidByText := true, laidKinds := [.data, .data, .data, .data, .pinned], laidTests := true, laidLooks := .later }
def FieldOrderCardSaid : Prop := Claim7.holds Tryz.pinned (.plain (OpenSpec.ofChange fieldOrderSpec)) fieldOrderCard

/-- THE TIED CARD OF 'culetlaw02.FieldRationals'. -/
def fieldRationalsCard : Claim7 := { stood := { row := fieldRationalsRow, standIns := [], harness := (true, "ce34a489391b731bb019ca0d4481c4ddb90cac5cebfe1050666c7ed75dce5ea8"), looks := false }, kinds := [], alts := [], laidByText := true, laidKinds := [.data, .data, .data, .data, .pinned], laidTests := true, laidLooks := .later }
def FieldRationalsCardSaid : Prop := Claim7.holds Tryz.pinned (.plain (OpenSpec.ofChange fieldRationalsSpec)) fieldRationalsCard

/-- THE TIED CARD OF 'culetlaw02.FieldBasic'. -/
def fieldBasicCard : Claim7 := { stood := { row := fieldBasicRow, standIns := [], harness := (true, "ce34a489391b731bb019ca0d4481c4ddb90cac5cebfe1050666c7ed75dce5ea8"), looks := false }, kinds := [], alts := [], laidByText := true, laidKinds := [.data, .data, .data, .data, .pinned], laidTests := true, laidLooks := .later }
def FieldBasicCardSaid : Prop := Claim7.holds Tryz.pinned (.plain (OpenSpec.ofChange fieldBasicSpec)) fieldBasicCard

/-- THE TIED CARD OF 'culetlaw02.FieldEnclose'. -/
def fieldEncloseCard : Claim7 := { stood := { row := fieldEncloseRow, standIns := [], harness := (true, "ce34a489391b731bb019ca0d4481c4ddb90cac5cebfe1050666c7ed75dce5ea8"), looks := false }, kinds := [], alts := [], laidByText := true, laidKinds := [.data, .data, .data, .data, .pinned], laidTests := true, laidLooks := .later }
def FieldEncloseCardSaid : Prop := Claim7.holds Tryz.pinned (.plain (OpenSpec.ofChange fieldEncloseSpec)) fieldEncloseCard

/-- THE TIED CARD OF 'culetlaw02.FieldFloor'. -/
def fieldFloorCard : Claim7 := { stood := { row := fieldFloorRow, standIns := [], harness := (true, "ce34a489391b731bb019ca0d4481c4ddb90cac5cebfe1050666c7ed75dce5ea8"), looks := false }, kinds := [], alts := [], laidByText := true, laidKinds := [.data, .data, .data, .data, .pinned], laidTests := true, laidLooks := .later }
def FieldFloorCardSaid : Prop := Claim7.holds Tryz.pinned (.plain (OpenSpec.ofChange fieldFloorSpec)) fieldFloorCard

/-- THE SECOND FORM's CARD OF 'culetlaw01.BigintDivision'. -/
def bigintDivisionUptoCard : Claim7 := { stood := { row := bigintDivisionUptoRow, standIns := [], harness := (true, "ce34a489391b731bb019ca0d4481c4ddb90cac5cebfe1050666c7ed75dce5ea8"), looks := false }, kinds := [], alts := [], laidByText := true, laidKinds := [.data, .data, .data, .data, .pinned], laidTests := true, laidLooks := .later }
def BigintDivisionUptoCardSaid : Prop := Claim7.holds Tryz.pinned (.plain (OpenSpec.upto bigintDivisionSpec)) bigintDivisionUptoCard

/-- THE SECOND FORM's CARD OF 'culetlaw02.FieldArithmetic'. -/
def fieldArithmeticUptoCard : Claim7 := { stood := { row := fieldArithmeticUptoRow, standIns := [], harness := (true, "ce34a489391b731bb019ca0d4481c4ddb90cac5cebfe1050666c7ed75dce5ea8"), looks := false }, kinds := [], alts := [], laidByText := true, laidKinds := [.data, .data, .data, .data, .pinned], laidTests := true, laidLooks := .later }
def FieldArithmeticUptoCardSaid : Prop := Claim7.holds Tryz.pinned (.plain (OpenSpec.upto fieldArithmeticSpec)) fieldArithmeticUptoCard

/-- THE SECOND FORM's CARD OF 'culetlaw02.FieldText'. -/
def fieldTextUptoCard : Claim7 := { stood := { row := fieldTextUptoRow, standIns := [], harness := (true, "ce34a489391b731bb019ca0d4481c4ddb90cac5cebfe1050666c7ed75dce5ea8"), looks := false }, kinds := [], alts := [], laidByText := true, laidKinds := [.data, .data, .data, .data, .pinned], laidTests := true, laidLooks := .later }
def FieldTextUptoCardSaid : Prop := Claim7.holds Tryz.pinned (.plain (OpenSpec.upto fieldTextSpec)) fieldTextUptoCard

/-- THE SECOND FORM's CARD OF 'culetlaw02.FieldLaws'. -/
def fieldLawsUptoCard : Claim7 := { stood := { row := fieldLawsUptoRow, standIns := [], harness := (true, "ce34a489391b731bb019ca0d4481c4ddb90cac5cebfe1050666c7ed75dce5ea8"), looks := false }, kinds := [], alts := [], laidByText := true, laidKinds := [.data, .data, .data, .data, .pinned], laidTests := true, laidLooks := .later }
def FieldLawsUptoCardSaid : Prop := Claim7.holds Tryz.pinned (.plain (OpenSpec.upto fieldLawsSpec)) fieldLawsUptoCard

/-- THE SECOND FORM's CARD OF 'culetlaw02.FieldMake'. -/
def fieldMakeUptoCard : Claim7 := { stood := { row := fieldMakeUptoRow, standIns := [], harness := (true, "ce34a489391b731bb019ca0d4481c4ddb90cac5cebfe1050666c7ed75dce5ea8"), looks := false }, kinds := [], alts := [], laidByText := true, laidKinds := [.data, .data, .data, .data, .pinned], laidTests := true, laidLooks := .later }
def FieldMakeUptoCardSaid : Prop := Claim7.holds Tryz.pinned (.plain (OpenSpec.upto fieldMakeSpec)) fieldMakeUptoCard

/-- THE SECOND FORM's CARD OF 'culetlaw02.FieldOrder'. -/
def fieldOrderUptoCard : Claim7 := { stood := { row := fieldOrderUptoRow, standIns := [], harness := (true, "ce34a489391b731bb019ca0d4481c4ddb90cac5cebfe1050666c7ed75dce5ea8"), looks := false }, kinds := [], alts := [], laidByText := true, laidKinds := [.data, .data, .data, .data, .pinned], laidTests := true, laidLooks := .later }
def FieldOrderUptoCardSaid : Prop := Claim7.holds Tryz.pinned (.plain (OpenSpec.upto fieldOrderSpec)) fieldOrderUptoCard

/-- THE SECOND FORM's CARD OF 'culetlaw02.FieldRationals'. -/
def fieldRationalsUptoCard : Claim7 := { stood := { row := fieldRationalsUptoRow, standIns := [], harness := (true, "ce34a489391b731bb019ca0d4481c4ddb90cac5cebfe1050666c7ed75dce5ea8"), looks := false }, kinds := [], alts := [], laidByText := true, laidKinds := [.data, .data, .data, .data, .pinned], laidTests := true, laidLooks := .later }
def FieldRationalsUptoCardSaid : Prop := Claim7.holds Tryz.pinned (.plain (OpenSpec.upto fieldRationalsSpec)) fieldRationalsUptoCard

/-- THE SECOND FORM's CARD OF 'culetlaw02.FieldBasic'. -/
def fieldBasicUptoCard : Claim7 := { stood := { row := fieldBasicUptoRow, standIns := [], harness := (true, "ce34a489391b731bb019ca0d4481c4ddb90cac5cebfe1050666c7ed75dce5ea8"), looks := false }, kinds := [], alts := [], laidByText := true, laidKinds := [.data, .data, .data, .data, .pinned], laidTests := true, laidLooks := .later }
def FieldBasicUptoCardSaid : Prop := Claim7.holds Tryz.pinned (.plain (OpenSpec.upto fieldBasicSpec)) fieldBasicUptoCard

/-- THE SECOND FORM's CARD OF 'culetlaw02.FieldEnclose'. -/
def fieldEncloseUptoCard : Claim7 := { stood := { row := fieldEncloseUptoRow, standIns := [], harness := (true, "ce34a489391b731bb019ca0d4481c4ddb90cac5cebfe1050666c7ed75dce5ea8"), looks := false }, kinds := [], alts := [], laidByText := true, laidKinds := [.data, .data, .data, .data, .pinned], laidTests := true, laidLooks := .later }
def FieldEncloseUptoCardSaid : Prop := Claim7.holds Tryz.pinned (.plain (OpenSpec.upto fieldEncloseSpec)) fieldEncloseUptoCard

/-- THE SECOND FORM's CARD OF 'culetlaw02.FieldFloor'. -/
def fieldFloorUptoCard : Claim7 := { stood := { row := fieldFloorUptoRow, standIns := [], harness := (true, "ce34a489391b731bb019ca0d4481c4ddb90cac5cebfe1050666c7ed75dce5ea8"), looks := false }, kinds := [], alts := [], laidByText := true, laidKinds := [.data, .data, .data, .data, .pinned], laidTests := true, laidLooks := .later }
def FieldFloorUptoCardSaid : Prop := Claim7.holds Tryz.pinned (.plain (OpenSpec.upto fieldFloorSpec)) fieldFloorUptoCard
end Rows
end Go.Proofs.YtnejlboohjdfiaaGreatDoor
