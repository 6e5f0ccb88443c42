/- GemstoneWeight: the law. -/
import Derived.Test.YtlhddcingeneaaaGreatDoorPNGwA
import Derived.Test.YtlhddcingeneaaaGreatDoorPNGwB
import Derived.Test.YtlhddcingeneaaaGreatDoorPNY
import Derived.Test.YtlhddcingeneaaaGreatDoorPNFieU
import Derived.Test.YtlhddcingeneaaaGreatDoorPNC2
namespace Go.Proofs.YtlhddcingeneaaaGreatDoor
open Go Go.RowKit
set_option linter.unusedVariables false
set_option linter.unusedSimpArgs false
theorem bn_400 {x:Nm} (h:x.c0.natAbs≤400∧x.c1.natAbs≤400∧x.c2.natAbs≤400∧x.c3.natAbs≤400∧x.d.natAbs≤400):BN 2 x:=by
 obtain ⟨h0,h1,h2,h3,h4⟩:=h
 exact ⟨by unfold Bd;omega,by unfold Bd;omega,by unfold Bd;omega,by unfold Bd;omega,by unfold Bd;omega⟩
theorem gmMilligrams_argN (m:Mt) (x:Nm) (w:World) (hm:rightM m=false) (hl:m.nm.length≤1000000):Calls Tryz.prog 12 #[vMt m,vN x] w (RetV (.tuple #[zI,.int .i64 1]) w) :=
 gmMilligrams_arg1 m ⟨sg x.c0,mg x.c0,sg x.c1,mg x.c1,sg x.c2,mg x.c2,sg x.c3,mg x.c3,sg x.d,mg x.d⟩ w hm hl
section
variable (m:Mt) (u v:Rw) (k:Nat) (w:World)
end
end Go.Proofs.YtlhddcingeneaaaGreatDoor
