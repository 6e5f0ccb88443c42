/- The reference's field: the coefficients of a product. -/
import Derived.Test.YtegnalgjjmpcmaaGreatDoorPFFieM
namespace Go.Proofs.YtegnalgjjmpcmaaGreatDoor
open Go Go.RowKit
set_option linter.unusedVariables false
set_option linter.unusedSimpArgs false
noncomputable def gtN:Nat:=Tryz.f95.ntmps
noncomputable def gtC:Code:=Tryz.f95.body.getD .skip
noncomputable def gt2:Code:=cB 2 gtC
noncomputable def gt0:Code:=cB 0 gtC
def gtMem (nX nY nZ:Array Value) (q:Nat→Int):Mem:=[(0,(24,nX)),(1,(24,nY)),(2,(24,nZ)),(3,(24,cel q))]
end Go.Proofs.YtegnalgjjmpcmaaGreatDoor
