import Derived.Test.YtlhddcingeneaaaGreatDoorPNC
namespace Go.Proofs.YtlhddcingeneaaaGreatDoor
open Go.RowKit
set_option linter.unusedVariables false
set_option linter.unusedSimpArgs false
def RdI (w:World) (A:Option Addr) (xs:List (Bool × ByteArray)):Prop :=
 ∀ i (h:i<xs.length),∃ b o,A=some ⟨b,o,none⟩∧w.cell? ⟨b,o+i * 2,none⟩=some (.bool xs[i].1)∧w.cell? ⟨b,o+i * 2+1,none⟩=some (.string xs[i].2)
theorem RdI.below {w w':World} {A:Option Addr} {xs:List (Bool × ByteArray)} (h:RdI w A xs) (hb:Below w.heap.size w w'):RdI w' A xs:=fun i hi=>by
 obtain ⟨b,o,hA,h1,h2⟩:=h i hi
 exact ⟨b,o,hA,below_cell hb h1 (lt_of_cell h1),below_cell hb h2 (lt_of_cell h2)⟩
end Go.Proofs.YtlhddcingeneaaaGreatDoor
