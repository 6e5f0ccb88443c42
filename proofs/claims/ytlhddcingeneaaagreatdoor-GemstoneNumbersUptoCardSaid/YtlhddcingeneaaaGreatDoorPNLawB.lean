import Derived.Test.YtlhddcingeneaaaGreatDoorPNLawA
import Derived.Test.YtlhddcingeneaaaGreatDoorPNB
namespace Go.Proofs.YtlhddcingeneaaaGreatDoor
open Go.RowKit
set_option linter.unusedVariables false
set_option linter.unusedSimpArgs false
theorem Bd.small {k:Nat} (hk:1≤k) {x:Int} (h:x.natAbs<256):Bd k x:=by
 have h1:Bd 1 x:=by unfold Bd;simpa using h
 exact h1.mono hk
end Go.Proofs.YtlhddcingeneaaaGreatDoor
