/- The reference's field: the coefficients of a product. -/
import Derived.Test.YtlhddcingeneaaaGreatDoorPWFieM
namespace Go.Proofs.YtlhddcingeneaaaGreatDoor
open Go Go.RowKit
set_option linter.unusedVariables false
set_option linter.unusedSimpArgs false
noncomputable def gtN:Nat:=Tryz.f134.ntmps
noncomputable def gtC:Code:=Tryz.f134.body.getD .skip
noncomputable def gt2:Code:=cB 2 gtC
noncomputable def gt0:Code:=cB 0 gtC
def gtMem (nX nY nZ:Array Value) (q:Nat→Int):Mem:=[(0,(26,nX)),(1,(26,nY)),(2,(26,nZ)),(3,(26,cel q))]
end Go.Proofs.YtlhddcingeneaaaGreatDoor
