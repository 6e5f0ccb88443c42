/- The reference's quotient: by the product with the three conjugates. -/
import Derived.Test.YtlhddcingeneaaaGreatDoorPNH
namespace Go.Proofs.YtlhddcingeneaaaGreatDoor
set_option linter.unusedVariables false
set_option linter.unusedSimpArgs false
theorem low_id' {x:Nm} (h:Ok x):low x=x:=toK_inj (low_ok h.ne) h (toK_low h.ne)
theorem ok_one {x:Nm} (h:x.d=1):Ok x:=⟨by omega,by unfold cof;rw [h];simp⟩
theorem mulR_one {a b:Nm} (ha:a.d=1) (hb:b.d=1):(mulR a b).d=1:=by unfold mulR;simp only;rw [ha,hb];rfl
theorem mulN_one {a b:Nm} (ha:a.d=1) (hb:b.d=1):mulN a b=mulR a b:=low_id' (ok_one (mulR_one ha hb))
def quN (x:Nm):Nm:=⟨x.c0,x.c1,x.c2,x.c3,1⟩
def gC (y:Nm):Nm:=mulR (mulR (mulR ⟨1,0,0,0,1⟩ (cj1 (quN y))) (cj2 (quN y))) (cj1 (cj2 (quN y)))
def gNorm (y:Nm):Nm:=mulR (quN y) (gC y)
def gUp (x y:Nm):Nm:=mulR (quN x) (gC y)
def divR (x y:Nm):Nm:=⟨(gUp x y).c0 * y.d,(gUp x y).c1 * y.d,(gUp x y).c2 * y.d,(gUp x y).c3 * y.d,(gNorm y).c0 * x.d⟩
theorem gNorm_zero (y:Nm):(gNorm y).c1=0∧(gNorm y).c2=0∧(gNorm y).c3=0:=by
 unfold gNorm gC cj1 cj2 quN mulR
 simp only
 generalize y.c0=a
 generalize y.c1=b
 generalize y.c2=c
 generalize y.c3=d
 refine ⟨?_,?_,?_⟩ <;> grind
theorem quN_ne {y:Nm} (hy:Ok y) (h:y≠zN):quN y≠zN:=fun e=>by
 obtain ⟨h0,h1,h2,h3⟩:=(zN_iff (ok_one (x:=quN y) rfl)).1 e
 exact h ((zN_iff hy).2 ⟨h0,h1,h2,h3⟩)
theorem gNorm_ne {y:Nm} (hy:Ok y) (h:y≠zN):(gNorm y).c0≠0:=fun e=>by
 have hq:=quN_ne hy h
 have oq:Ok (quN y):=ok_one rfl
 have o1:(⟨1,0,0,0,1⟩:Nm)≠zN:=fun e=>by have:=congrArg Nm.c0 e;exact absurd this (by decide)
 have n1:=mulN_ne (ok_one (x:=⟨1,0,0,0,1⟩) rfl) (cj1_ok oq) o1 (cj1_ne oq hq)
 rw [mulN_one rfl rfl] at n1
 have n2:=mulN_ne (ok_one rfl) (cj2_ok oq) n1 (cj2_ne oq hq)
 rw [mulN_one rfl rfl] at n2
 have n3:=mulN_ne (ok_one rfl) (cj1_ok (cj2_ok oq)) n2 (cj1_ne (cj2_ok oq) (cj2_ne oq hq))
 rw [mulN_one rfl rfl] at n3
 have n4:=mulN_ne oq (ok_one rfl) hq n3
 rw [mulN_one rfl rfl] at n4
 exact n4 ((zN_iff (ok_one rfl)).2 ⟨e,gNorm_zero y⟩)
end Go.Proofs.YtlhddcingeneaaaGreatDoor
