/- The reference's quotient: by the product with the three conjugates. -/
import Derived.Test.YtegnalgjjmpcmaaGreatDoorPFH
namespace Go.Proofs.YtegnalgjjmpcmaaGreatDoor
set_option linter.unusedVariables false
set_option linter.unusedSimpArgs false
theorem znF {x:Nm} (h:Ok x):low x=x:=zdR (zhv h.ne) h (zhs h.ne)
theorem zdg {x:Nm} (h:x.d=1):Ok x:=⟨by omega,by unfold cof;rw [h];simp⟩
theorem zmp {a b:Nm} (ha:a.d=1) (hb:b.d=1):(mulR a b).d=1:=by unfold mulR;simp only;rw [ha,hb];rfl
theorem zeg {a b:Nm} (ha:a.d=1) (hb:b.d=1):mulN a b=mulR a b:=znF (zdg (zmp ha hb))
def quN (x:Nm):Nm:=⟨x.c0,x.c1,x.c2,x.c3,1⟩
def gC (y:Nm):Nm:=mulR (mulR (mulR ⟨1,0,0,0,1⟩ (cj1 (quN y))) (cj2 (quN y))) (cj1 (cj2 (quN y)))
def gNorm (y:Nm):Nm:=mulR (quN y) (gC y)
def gUp (x y:Nm):Nm:=mulR (quN x) (gC y)
def divR (x y:Nm):Nm:=⟨(gUp x y).c0 * y.d,(gUp x y).c1 * y.d,(gUp x y).c2 * y.d,(gUp x y).c3 * y.d,(gNorm y).c0 * x.d⟩
theorem zfg (y:Nm):(gNorm y).c1=0∧(gNorm y).c2=0∧(gNorm y).c3=0:=by
 unfold gNorm gC cj1 cj2 quN mulR
 simp only
 generalize y.c0=a
 generalize y.c1=b
 generalize y.c2=c
 generalize y.c3=d
 refine ⟨?_,?_,?_⟩ <;> grind
theorem zoG {y:Nm} (hy:Ok y) (h:y≠zN):quN y≠zN:=fun e=>by
 obtain ⟨h0,h1,h2,h3⟩:=(zdY (zdg (x:=quN y) rfl)).1 e
 exact h ((zdY hy).2 ⟨h0,h1,h2,h3⟩)
theorem zlX {y:Nm} (hy:Ok y) (h:y≠zN):(gNorm y).c0≠0:=fun e=>by
 have hq:=zoG hy h
 have oq:Ok (quN y):=zdg rfl
 have o1:(⟨1,0,0,0,1⟩:Nm)≠zN:=fun e=>by have:=congrArg Nm.c0 e;exact absurd this (by decide)
 have n1:=zc4 (zdg (x:=⟨1,0,0,0,1⟩) rfl) (zb9 oq) o1 (zj7 oq hq)
 rw [zeg rfl rfl] at n1
 have n2:=zc4 (zdg rfl) (zby oq) n1 (zhV oq hq)
 rw [zeg rfl rfl] at n2
 have n3:=zc4 (zdg rfl) (zb9 (zby oq)) n2 (zj7 (zby oq) (zhV oq hq))
 rw [zeg rfl rfl] at n3
 have n4:=zc4 oq (zdg rfl) hq n3
 rw [zeg rfl rfl] at n4
 exact n4 ((zdY (zdg rfl)).2 ⟨e,zfg y⟩)
end Go.Proofs.YtegnalgjjmpcmaaGreatDoor
