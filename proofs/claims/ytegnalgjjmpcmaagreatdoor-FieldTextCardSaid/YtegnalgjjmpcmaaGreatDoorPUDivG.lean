/- The reference's quotient: by the product with the three conjugates. -/
import Derived.Test.YtegnalgjjmpcmaaGreatDoorPUH
namespace Go.Proofs.YtegnalgjjmpcmaaGreatDoor
set_option linter.unusedVariables false
set_option linter.unusedSimpArgs false
def quN (x:Nm):Nm:=⟨x.c0,x.c1,x.c2,x.c3,1⟩
def gC (y:Nm):Nm:=mulR (mulR (mulR ⟨1,0,0,0,1⟩ (cj1 (quN y))) (cj2 (quN y))) (cj1 (cj2 (quN y)))
def gNorm (y:Nm):Nm:=mulR (quN y) (gC y)
def gUp (x y:Nm):Nm:=mulR (quN x) (gC y)
def divR (x y:Nm):Nm:=⟨(gUp x y).c0 * y.d,(gUp x y).c1 * y.d,(gUp x y).c2 * y.d,(gUp x y).c3 * y.d,(gNorm y).c0 * x.d⟩
end Go.Proofs.YtegnalgjjmpcmaaGreatDoor
