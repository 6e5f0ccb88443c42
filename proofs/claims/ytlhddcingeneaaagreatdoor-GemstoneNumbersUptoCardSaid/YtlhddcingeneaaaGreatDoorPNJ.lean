/- Integers as numbers of the reference's field, and small facts. -/
import Derived.Test.YtlhddcingeneaaaGreatDoorPNI
import Derived.Test.YtlhddcingeneaaaGreatDoorPNC
namespace Go.Proofs.YtlhddcingeneaaaGreatDoor
open Go Go.RowKit
set_option linter.unusedVariables false
set_option linter.unusedSimpArgs false
theorem bd1 {z:Int} (k:Nat) (hk:1≤k) (h:z.natAbs<256):Bd k z:=(show Bd 1 z by unfold Bd;omega).mono hk
theorem gOf_any (n:Int) (w:World) (h0:-9223372036854775808≤n) (h1:n≤9223372036854775807):Calls Tryz.prog 40 #[.int .i64 n] w (RetV (vN (intN n)) w):=by
 have H1:=fun w=>ROf_any n w h0 h1
 have H2:=fun w=>ROf_any 1 w (by omega) (by omega)
 unfold intN
 rw [vN_one]
 exact vm_pure kr Tryz.func40 rfl [.int .i64 n] nle [] [] [cV (H1),cV (H2)]
end Go.Proofs.YtlhddcingeneaaaGreatDoor
