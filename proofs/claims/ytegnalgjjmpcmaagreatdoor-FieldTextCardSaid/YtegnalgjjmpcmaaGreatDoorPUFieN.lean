/- Enclosures: the reference's, and both out of range. -/
import Derived.Test.YtegnalgjjmpcmaaGreatDoorPUFieZ
import Derived.Test.YtegnalgjjmpcmaaGreatDoorPUL
namespace Go.Proofs.YtegnalgjjmpcmaaGreatDoor
open Go Go.RowKit
set_option linter.unusedVariables false
set_option linter.unusedSimpArgs false
theorem zoK {x:Nm} (h:Ok x):low x=x:=zcH (zg0 h.ne) h (zgj h.ne)
def scN (x:Nm) (p:Int):Nm:=⟨x.c0 * p,x.c1 * p,x.c2 * p,x.c3 * p,x.d⟩
noncomputable def geN:Nat:=Tryz.f78.ntmps
noncomputable def geC:Code:=Tryz.f78.body.getD .skip
noncomputable def ge1:Code:=cB 1 geC
theorem BN.sc {a b:Nat} {x:Nm} {p:Int} (hx:BN a x) (hp:Bd b p):BN (a+b) (scN x p):=⟨hx.h0.mul hp,hx.h1.mul hp,hx.h2.mul hp,hx.h3.mul hp,hx.h4.mono (by omega)⟩
end Go.Proofs.YtegnalgjjmpcmaaGreatDoor
