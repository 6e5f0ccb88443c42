/- The reference's field: the integer part. -/
import Derived.Test.YtegnalgjjmpcmaaGreatDoorPUFieV
import Derived.Test.YtegnalgjjmpcmaaGreatDoorPUFlrG
import Derived.Test.YtegnalgjjmpcmaaGreatDoorPUL
namespace Go.Proofs.YtegnalgjjmpcmaaGreatDoor
open Go Go.RowKit
set_option linter.unusedVariables false
set_option linter.unusedSimpArgs false
theorem Bd.nat {k:Nat} {x:Int} (h:Bd k x):Bd k (x.natAbs:Int):=h.le (by simp)
theorem Bd.sml {k:Nat} {c x:Int} (hc:c.natAbs<256) (h:Bd k x):Bd (k+1) (c * x):=((show Bd 1 c by unfold Bd;omega).mul h).mono (by omega)
theorem Bd.gS {k:Nat} {x:Nm} (h:BN k x):Bd (k+2) (gS x):=((h.h1.nat.add h.h2.nat).add (h.h3.nat.mono (by omega))).mono (by omega)
theorem Bd.gT {k:Nat} {x:Nm} (h:BN k x):Bd (k+3) (gT x):=(((h.h1.nat.sml (c:=2) (by decide)).add (h.h2.nat.sml (c:=2) (by decide))).add ((h.h3.nat.sml (c:=3) (by decide)).mono (by omega))).mono (by omega)
theorem Bd.gY {k:Nat} {x:Nm} (h:BN k x):Bd (k+4) (gY x):=((((h.h0.nat.mono (show k≤k+1 by omega)).add (h.h1.nat.sml (c:=2) (by decide))).add ((h.h2.nat.sml (c:=2) (by decide)).mono (by omega))).add ((h.h3.nat.sml (c:=3) (by decide)).mono (by omega))).mono (by omega)
theorem BN.gC {k:Nat} {z:Nm} (h:BN k z) (hk:1≤k):BN (8 * k+35) (gC z):=by
 have bY:BN k (quN z):=⟨h.h0,h.h1,h.h2,h.h3,Bd.one (by omega)⟩
 have b1:BN k ⟨1,0,0,0,1⟩:=⟨Bd.one (by omega),Bd.zero _,Bd.zero _,Bd.zero _,Bd.one (by omega)⟩
 exact (((b1.mulR bY.cj1).mulR (bY.cj2.mono (by omega))).mulR (bY.cj2.cj1.mono (by omega))).mono (by omega)
noncomputable def gfN:Nat:=Tryz.f76.ntmps
noncomputable def gfC:Code:=Tryz.f76.body.getD .skip
noncomputable def gf0:Code:=cB 0 gfC
noncomputable def gf1:Code:=cI (cAt 1 (cI (cI gf0)))
noncomputable def gf2:Code:=cB 2 gfC
noncomputable def gf4:Code:=cB 4 gfC
noncomputable def gf24:Code:=(cPost 2 gf1).headD .skip
def mm (i:Nat):Nat:=match i with
 | 1=>2
 | 2=>3
 | _=>6
def pL (Xv R:Nat→Int) (u:Int):Nat→Int
 | 0=>Xv 0 * u
 | j+1=>pL Xv R u j+aL (Xv (j+1)) (R (j+1))
def pH (Xv R:Nat→Int) (u:Int):Nat→Int
 | 0=>Xv 0 * u
 | j+1=>pH Xv R u j+aH (Xv (j+1)) (R (j+1))
def gfMem (Xv:Nat→Int) (xd u lo hi:Int):Mem:=[(0,(26,celN Xv xd)),(1,(23,cZ1)),(107,(23,cI1 u)),(203,(23,cI1 (u * u))),(210,(23,cI1 lo)),(213,(23,cI1 hi))]
end Go.Proofs.YtegnalgjjmpcmaaGreatDoor
