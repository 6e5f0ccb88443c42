/-
  DERIVED. GIVEN WITH THE SEED: THE CARDS: each row of YtlhddcingeneaaaGreatDoorRows.lean that lists a variable, with what it lists TIED to the program's text (the seventh form; the later family's looks); each row that meets fmt, with fmt's text TOLD by the authors' own Lean function (tested against real Go, not proved from fmt's source: count such statements apart). THE CARD IS WHAT COUNTS. Prove the row's statement (the work); the ties are given (YtlhddcingeneaaaGreatDoorTie.lean); close each card by the builder's one call (the guide's Derived/Test/ToyasCard.lean, 'card_holds'). Laid BY PROGRAM, IN A SANDBOX (cutbox-door.mjs). By AI agents, Wed Nov 11 2026. No macro, syntax, notation, axiom, sorry.
-/
import Derived.Test.YtlhddcingeneaaaGreatDoorRows
import GoSem.ClaimSeven
namespace Go.Proofs.YtlhddcingeneaaaGreatDoor
namespace Rows

/-- THE TIED CARD OF 'culetlaw40.GemstoneWeight'. -/
def gemstoneWeightCard : Claim7 := { stood := { row := gemstoneWeightRow, standIns := [], harness := (true, "1ba43061b6fa06e3569f521f1f71f524747bbc99b17b2bd8087d15a4686364e8"), looks := true }, kinds := [], alts := [], laidByText := true, laidKinds := [.data, .data, .data, .data, .sentinel, .sentinel, .pinned], laidTests := true, laidLooks := .later }
def GemstoneWeightCardSaid : Prop := Claim7.holds Tryz.pinned (.plain (OpenSpec.ofChange gemstoneWeightSpec)) gemstoneWeightCard

/-- THE TIED CARD OF 'culetlaw40.GemstoneDensity'. -/
def gemstoneDensityCard : Claim7 := { stood := { row := gemstoneDensityRow, standIns := [], harness := (true, "1ba43061b6fa06e3569f521f1f71f524747bbc99b17b2bd8087d15a4686364e8"), looks := true }, kinds := [], alts := [], laidByText := true, laidKinds := [.data, .data, .data, .data, .sentinel, .sentinel, .pinned], laidTests := true, laidLooks := .later }
def GemstoneDensityCardSaid : Prop := Claim7.holds Tryz.pinned (.plain (OpenSpec.ofChange gemstoneDensitySpec)) gemstoneDensityCard

/-- THE TIED CARD OF 'culetlaw40.GemstoneStrings'. -/
def gemstoneStringsCard : Claim7 := { stood := { row := gemstoneStringsRow, standIns := [], harness := (true, "1ba43061b6fa06e3569f521f1f71f524747bbc99b17b2bd8087d15a4686364e8"), looks := true }, kinds := [], alts := [], laidByText := true, laidKinds := [.data, .data, .data, .data, .sentinel, .sentinel, .pinned], laidTests := true, laidLooks := .later }
def GemstoneStringsCardSaid : Prop := Claim7.holds Tryz.pinned (.plain (OpenSpec.ofChange gemstoneStringsSpec)) gemstoneStringsCard

/-- THE TIED CARD OF 'culetlaw40.GemstoneIdentify'. -/
def gemstoneIdentifyCard : Claim7 := { stood := { row := gemstoneIdentifyRow, standIns := [], harness := (true, "1ba43061b6fa06e3569f521f1f71f524747bbc99b17b2bd8087d15a4686364e8"), looks := true }, kinds := [], alts := [], laidByText := true, laidKinds := [.data, .data, .data, .data, .sentinel, .sentinel, .pinned], laidTests := true, laidLooks := .later }
def GemstoneIdentifyCardSaid : Prop := Claim7.holds Tryz.pinned (.plain (OpenSpec.ofChange gemstoneIdentifySpec)) gemstoneIdentifyCard

/-- THE TIED CARD OF 'culetlaw40.GemstoneNumbers'. -/
def gemstoneNumbersCard : Claim7 := { stood := { row := gemstoneNumbersRow, standIns := [], harness := (true, "1ba43061b6fa06e3569f521f1f71f524747bbc99b17b2bd8087d15a4686364e8"), looks := true }, kinds := [], alts := [], laidByText := true, laidKinds := [.data, .data, .data, .data, .sentinel, .sentinel, .pinned], laidTests := true, laidLooks := .later }
def GemstoneNumbersCardSaid : Prop := Claim7.holds Tryz.pinned (.plain (OpenSpec.ofChange gemstoneNumbersSpec)) gemstoneNumbersCard

/-- THE TIED CARD OF 'culetlaw40.GemstoneTable'. -/
def gemstoneTableCard : Claim7 := { stood := { row := gemstoneTableRow, standIns := [], harness := (true, "1ba43061b6fa06e3569f521f1f71f524747bbc99b17b2bd8087d15a4686364e8"), looks := true }, kinds := [], alts := [], laidByText := true, laidKinds := [.data, .data, .data, .data, .sentinel, .sentinel, .pinned], laidTests := true, laidLooks := .later }
def GemstoneTableCardSaid : Prop := Claim7.holds Tryz.pinned (.plain (OpenSpec.ofChange gemstoneTableSpec)) gemstoneTableCard

/-- THE TIED CARD OF 'culetlaw40.GemstonePut'. -/
def gemstonePutCard : Claim7 := { stood := { row := gemstonePutRow, standIns := [], harness := (true, "1ba43061b6fa06e3569f521f1f71f524747bbc99b17b2bd8087d15a4686364e8"), looks := true }, kinds := [], alts := [], laidByText := true, laidKinds := [.data, .data, .data, .data, .sentinel, .sentinel, .pinned], laidTests := true, laidLooks := .later }
def GemstonePutCardSaid : Prop := Claim7.holds Tryz.pinned (.plain (OpenSpec.ofChange gemstonePutSpec)) gemstonePutCard

/-- THE SECOND FORM's CARD OF 'culetlaw40.GemstoneWeight'. -/
def gemstoneWeightUptoCard : Claim7 := { stood := { row := gemstoneWeightUptoRow, standIns := [], harness := (true, "1ba43061b6fa06e3569f521f1f71f524747bbc99b17b2bd8087d15a4686364e8"), looks := true }, kinds := [], alts := [], laidByText := true, laidKinds := [.data, .data, .data, .data, .sentinel, .sentinel, .pinned], laidTests := true, laidLooks := .later }
def GemstoneWeightUptoCardSaid : Prop := Claim7.holds Tryz.pinned (.plain (OpenSpec.upto gemstoneWeightSpec)) gemstoneWeightUptoCard

/-- THE SECOND FORM's CARD OF 'culetlaw40.GemstoneDensity'. -/
def gemstoneDensityUptoCard : Claim7 := { stood := { row := gemstoneDensityUptoRow, standIns := [], harness := (true, "1ba43061b6fa06e3569f521f1f71f524747bbc99b17b2bd8087d15a4686364e8"), looks := true }, kinds := [], alts := [], laidByText := true, laidKinds := [.data, .data, .data, .data, .sentinel, .sentinel, .pinned], laidTests := true, laidLooks := .later }
def GemstoneDensityUptoCardSaid : Prop := Claim7.holds Tryz.pinned (.plain (OpenSpec.upto gemstoneDensitySpec)) gemstoneDensityUptoCard

/-- THE SECOND FORM's CARD OF 'culetlaw40.GemstoneStrings'. -/
def gemstoneStringsUptoCard : Claim7 := { stood := { row := gemstoneStringsUptoRow, standIns := [], harness := (true, "1ba43061b6fa06e3569f521f1f71f524747bbc99b17b2bd8087d15a4686364e8"), looks := true }, kinds := [], alts := [], laidByText := true, laidKinds := [.data, .data, .data, .data, .sentinel, .sentinel, .pinned], laidTests := true, laidLooks := .later }
def GemstoneStringsUptoCardSaid : Prop := Claim7.holds Tryz.pinned (.plain (OpenSpec.upto gemstoneStringsSpec)) gemstoneStringsUptoCard

/-- THE SECOND FORM's CARD OF 'culetlaw40.GemstoneIdentify'. -/
def gemstoneIdentifyUptoCard : Claim7 := { stood := { row := gemstoneIdentifyUptoRow, standIns := [], harness := (true, "1ba43061b6fa06e3569f521f1f71f524747bbc99b17b2bd8087d15a4686364e8"), looks := true }, kinds := [], alts := [], laidByText := true, laidKinds := [.data, .data, .data, .data, .sentinel, .sentinel, .pinned], laidTests := true, laidLooks := .later }
def GemstoneIdentifyUptoCardSaid : Prop := Claim7.holds Tryz.pinned (.plain (OpenSpec.upto gemstoneIdentifySpec)) gemstoneIdentifyUptoCard

/-- THE SECOND FORM's CARD OF 'culetlaw40.GemstoneNumbers'. -/
def gemstoneNumbersUptoCard : Claim7 := { stood := { row := gemstoneNumbersUptoRow, standIns := [], harness := (true, "1ba43061b6fa06e3569f521f1f71f524747bbc99b17b2bd8087d15a4686364e8"), looks := true }, kinds := [], alts := [], laidByText := true, laidKinds := [.data, .data, .data, .data, .sentinel, .sentinel, .pinned], laidTests := true, laidLooks := .later }
def GemstoneNumbersUptoCardSaid : Prop := Claim7.holds Tryz.pinned (.plain (OpenSpec.upto gemstoneNumbersSpec)) gemstoneNumbersUptoCard

/-- THE SECOND FORM's CARD OF 'culetlaw40.GemstoneTable'. -/
def gemstoneTableUptoCard : Claim7 := { stood := { row := gemstoneTableUptoRow, standIns := [], harness := (true, "1ba43061b6fa06e3569f521f1f71f524747bbc99b17b2bd8087d15a4686364e8"), looks := true }, kinds := [], alts := [], laidByText := true, laidKinds := [.data, .data, .data, .data, .sentinel, .sentinel, .pinned], laidTests := true, laidLooks := .later }
def GemstoneTableUptoCardSaid : Prop := Claim7.holds Tryz.pinned (.plain (OpenSpec.upto gemstoneTableSpec)) gemstoneTableUptoCard

/-- THE SECOND FORM's CARD OF 'culetlaw40.GemstonePut'. -/
def gemstonePutUptoCard : Claim7 := { stood := { row := gemstonePutUptoRow, standIns := [], harness := (true, "1ba43061b6fa06e3569f521f1f71f524747bbc99b17b2bd8087d15a4686364e8"), looks := true }, kinds := [], alts := [], laidByText := true, laidKinds := [.data, .data, .data, .data, .sentinel, .sentinel, .pinned], laidTests := true, laidLooks := .later }
def GemstonePutUptoCardSaid : Prop := Claim7.holds Tryz.pinned (.plain (OpenSpec.upto gemstonePutSpec)) gemstonePutUptoCard
end Rows
end Go.Proofs.YtlhddcingeneaaaGreatDoor
