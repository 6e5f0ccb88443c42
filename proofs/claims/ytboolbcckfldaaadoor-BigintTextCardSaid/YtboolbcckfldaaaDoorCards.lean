/-
  DERIVED. GIVEN WITH THE SEED: THE CARDS: each row of YtboolbcckfldaaaDoorRows.lean that lists a variable, with what it lists TIED to the program's text (the seventh form; the later family's looks); each row that meets fmt, with fmt's text TOLD by the authors' own Lean function (tested against real Go, not proved from fmt's source: count such statements apart). THE CARD IS WHAT COUNTS. Prove the row's statement (the work); the ties are given (YtboolbcckfldaaaDoorTie.lean); close each card by the builder's one call (the guide's Derived/Test/ToyasCard.lean, 'card_holds'). Laid BY PROGRAM, IN A SANDBOX (cutbox-door.mjs). By AI agents, Wed Nov 11 2026. No macro, syntax, notation, axiom, sorry.
-/
import Derived.Test.YtboolbcckfldaaaDoorRows
import GoSem.ClaimSeven
namespace Go.Proofs.YtboolbcckfldaaaDoor
namespace Rows

/-- THE TIED CARD OF 'culetlaw01.BigintRing'. -/
def bigintRingCard : Claim7 := { stood := { row := bigintRingRow, standIns := [], harness := (true, "04b30843cc0d828b6a7528eab9ef1deaadcd21f0645f3e5a3f238ebd5a5e92df"), looks := false }, kinds := [], alts := [], laidByText := true, laidKinds := [.data, .data, .data, .data, .pinned], laidTests := true, laidLooks := .later }
def BigintRingCardSaid : Prop := Claim7.holds Tryd.pinned (.plain (OpenSpec.ofChange bigintRingSpec)) bigintRingCard

/-- THE TIED CARD OF 'culetlaw01.BigintRoots'. -/
def bigintRootsCard : Claim7 := { stood := { row := bigintRootsRow, standIns := [], harness := (true, "04b30843cc0d828b6a7528eab9ef1deaadcd21f0645f3e5a3f238ebd5a5e92df"), looks := false }, kinds := [], alts := [], laidByText := true, laidKinds := [.data, .data, .data, .data, .pinned], laidTests := true, laidLooks := .later }
def BigintRootsCardSaid : Prop := Claim7.holds Tryd.pinned (.plain (OpenSpec.ofChange bigintRootsSpec)) bigintRootsCard

/-- THE TIED CARD OF 'culetlaw01.BigintOrder'. -/
def bigintOrderCard : Claim7 := { stood := { row := bigintOrderRow, standIns := [], harness := (true, "04b30843cc0d828b6a7528eab9ef1deaadcd21f0645f3e5a3f238ebd5a5e92df"), looks := false }, kinds := [], alts := [], laidByText := true, laidKinds := [.data, .data, .data, .data, .pinned], laidTests := true, laidLooks := .later }
def BigintOrderCardSaid : Prop := Claim7.holds Tryd.pinned (.plain (OpenSpec.ofChange bigintOrderSpec)) bigintOrderCard

/-- THE TIED CARD OF 'culetlaw01.BigintPowers'. -/
def bigintPowersCard : Claim7 := { stood := { row := bigintPowersRow, standIns := [], harness := (true, "04b30843cc0d828b6a7528eab9ef1deaadcd21f0645f3e5a3f238ebd5a5e92df"), looks := false }, kinds := [], alts := [], laidByText := true, laidKinds := [.data, .data, .data, .data, .pinned], laidTests := true, laidLooks := .later }
def BigintPowersCardSaid : Prop := Claim7.holds Tryd.pinned (.plain (OpenSpec.ofChange bigintPowersSpec)) bigintPowersCard

/-- THE TIED CARD OF 'culetlaw01.BigintWords'. -/
def bigintWordsCard : Claim7 := { stood := { row := bigintWordsRow, standIns := [], harness := (true, "04b30843cc0d828b6a7528eab9ef1deaadcd21f0645f3e5a3f238ebd5a5e92df"), looks := false }, kinds := [], alts := [], laidByText := true, laidKinds := [.data, .data, .data, .data, .pinned], laidTests := true, laidLooks := .later }
def BigintWordsCardSaid : Prop := Claim7.holds Tryd.pinned (.plain (OpenSpec.ofChange bigintWordsSpec)) bigintWordsCard

/-- THE TIED CARD OF 'culetlaw01.BigintText'. -/
def bigintTextCard : Claim7 := { stood := { row := bigintTextRow, standIns := [], harness := (true, "04b30843cc0d828b6a7528eab9ef1deaadcd21f0645f3e5a3f238ebd5a5e92df"), looks := false }, kinds := [], alts := [], laidByText := true, laidKinds := [.data, .data, .data, .data, .pinned], laidTests := true, laidLooks := .later }
def BigintTextCardSaid : Prop := Claim7.holds Tryd.pinned (.plain (OpenSpec.ofChange bigintTextSpec)) bigintTextCard

/-- THE TIED CARD OF 'culetlaw01.BigintQuotient'. -/
def bigintQuotientCard : Claim7 := { stood := { row := bigintQuotientRow, standIns := [], harness := (true, "04b30843cc0d828b6a7528eab9ef1deaadcd21f0645f3e5a3f238ebd5a5e92df"), looks := false }, kinds := [], alts := [], laidByText := true, laidKinds := [.data, .data, .data, .data, .pinned], laidTests := true, laidLooks := .later }
def BigintQuotientCardSaid : Prop := Claim7.holds Tryd.pinned (.plain (OpenSpec.ofChange bigintQuotientSpec)) bigintQuotientCard

/-- THE SECOND FORM's CARD OF 'culetlaw01.BigintRing'. -/
def bigintRingUptoCard : Claim7 := { stood := { row := bigintRingUptoRow, standIns := [], harness := (true, "04b30843cc0d828b6a7528eab9ef1deaadcd21f0645f3e5a3f238ebd5a5e92df"), looks := false }, kinds := [], alts := [], laidByText := true, laidKinds := [.data, .data, .data, .data, .pinned], laidTests := true, laidLooks := .later }
def BigintRingUptoCardSaid : Prop := Claim7.holds Tryd.pinned (.plain (OpenSpec.upto bigintRingSpec)) bigintRingUptoCard

/-- THE SECOND FORM's CARD OF 'culetlaw01.BigintRoots'. -/
def bigintRootsUptoCard : Claim7 := { stood := { row := bigintRootsUptoRow, standIns := [], harness := (true, "04b30843cc0d828b6a7528eab9ef1deaadcd21f0645f3e5a3f238ebd5a5e92df"), looks := false }, kinds := [], alts := [], laidByText := true, laidKinds := [.data, .data, .data, .data, .pinned], laidTests := true, laidLooks := .later }
def BigintRootsUptoCardSaid : Prop := Claim7.holds Tryd.pinned (.plain (OpenSpec.upto bigintRootsSpec)) bigintRootsUptoCard

/-- THE SECOND FORM's CARD OF 'culetlaw01.BigintOrder'. -/
def bigintOrderUptoCard : Claim7 := { stood := { row := bigintOrderUptoRow, standIns := [], harness := (true, "04b30843cc0d828b6a7528eab9ef1deaadcd21f0645f3e5a3f238ebd5a5e92df"), looks := false }, kinds := [], alts := [], laidByText := true, laidKinds := [.data, .data, .data, .data, .pinned], laidTests := true, laidLooks := .later }
def BigintOrderUptoCardSaid : Prop := Claim7.holds Tryd.pinned (.plain (OpenSpec.upto bigintOrderSpec)) bigintOrderUptoCard

/-- THE SECOND FORM's CARD OF 'culetlaw01.BigintPowers'. -/
def bigintPowersUptoCard : Claim7 := { stood := { row := bigintPowersUptoRow, standIns := [], harness := (true, "04b30843cc0d828b6a7528eab9ef1deaadcd21f0645f3e5a3f238ebd5a5e92df"), looks := false }, kinds := [], alts := [], laidByText := true, laidKinds := [.data, .data, .data, .data, .pinned], laidTests := true, laidLooks := .later }
def BigintPowersUptoCardSaid : Prop := Claim7.holds Tryd.pinned (.plain (OpenSpec.upto bigintPowersSpec)) bigintPowersUptoCard

/-- THE SECOND FORM's CARD OF 'culetlaw01.BigintWords'. -/
def bigintWordsUptoCard : Claim7 := { stood := { row := bigintWordsUptoRow, standIns := [], harness := (true, "04b30843cc0d828b6a7528eab9ef1deaadcd21f0645f3e5a3f238ebd5a5e92df"), looks := false }, kinds := [], alts := [], laidByText := true, laidKinds := [.data, .data, .data, .data, .pinned], laidTests := true, laidLooks := .later }
def BigintWordsUptoCardSaid : Prop := Claim7.holds Tryd.pinned (.plain (OpenSpec.upto bigintWordsSpec)) bigintWordsUptoCard

/-- THE SECOND FORM's CARD OF 'culetlaw01.BigintText'. -/
def bigintTextUptoCard : Claim7 := { stood := { row := bigintTextUptoRow, standIns := [], harness := (true, "04b30843cc0d828b6a7528eab9ef1deaadcd21f0645f3e5a3f238ebd5a5e92df"), looks := false }, kinds := [], alts := [], laidByText := true, laidKinds := [.data, .data, .data, .data, .pinned], laidTests := true, laidLooks := .later }
def BigintTextUptoCardSaid : Prop := Claim7.holds Tryd.pinned (.plain (OpenSpec.upto bigintTextSpec)) bigintTextUptoCard

/-- THE SECOND FORM's CARD OF 'culetlaw01.BigintQuotient'. -/
def bigintQuotientUptoCard : Claim7 := { stood := { row := bigintQuotientUptoRow, standIns := [], harness := (true, "04b30843cc0d828b6a7528eab9ef1deaadcd21f0645f3e5a3f238ebd5a5e92df"), looks := false }, kinds := [], alts := [], laidByText := true, laidKinds := [.data, .data, .data, .data, .pinned], laidTests := true, laidLooks := .later }
def BigintQuotientUptoCardSaid : Prop := Claim7.holds Tryd.pinned (.plain (OpenSpec.upto bigintQuotientSpec)) bigintQuotientUptoCard
end Rows
end Go.Proofs.YtboolbcckfldaaaDoor
