import Derived.Test.YtegnalgjjmpcmaaGreatDoorPUI
import Derived.Test.YtegnalgjjmpcmaaGreatDoorPUH
import Derived.Test.YtegnalgjjmpcmaaGreatDoorPUB
/- The given program's field: the integer part. -/
set_option linter.unusedVariables false
set_option linter.unusedSimpArgs false
set_option maxRecDepth 100000
set_option maxHeartbeats 8000000
namespace Go.Proofs.YtegnalgjjmpcmaaGreatDoor
open Go Go.RowKit
noncomputable def isq (n:Nat):Nat:=Classical.choose (zpI n)
theorem zrx (n:Nat):isq n * isq n≤n:=(Classical.choose_spec (zpI n)).1
noncomputable def rootZ (k:Nat) (c:Int):Int:=if c<0 then -((isq (k * (c.natAbs * c.natAbs)):Nat):Int) else ((isq (k * (c.natAbs * c.natAbs)):Nat):Int)
theorem zmV (k c:Nat) (hk:k≤9):isq (k * (c * c))≤3 * c:=by
 have h:=zrx (k * (c * c))
 rcases Nat.lt_or_ge (3 * c) (isq (k * (c * c))) with h1 | h1
 ·exfalso
  have h2:=Nat.mul_le_mul (show 3 * c+1≤isq (k * (c * c)) from h1) (show 3 * c+1≤isq (k * (c * c)) from h1)
  have h3:k * (c * c)≤9 * (c * c):=Nat.mul_le_mul_right _ hk
  have e:(3 * c+1) * (3 * c+1)=9 * (c * c)+6 * c+1:=by grind
  omega
 ·exact h1
theorem Bd.rootZ {k:Nat} {c:Int} (n:Nat) (hn:n≤9) (h:Bd k c):Bd (k+1) (rootZ n c):=by
 have h1:=zmV n c.natAbs hn
 have h2:Bd (k+1) (3 * c):=((show Bd 1 3 by unfold Bd;decide).mul h).mono (by omega)
 refine h2.le ?_
 unfold Go.Proofs.YtegnalgjjmpcmaaGreatDoor.rootZ
 rw [Int.natAbs_mul,show Int.natAbs 3=3 from rfl]
 split <;> omega
theorem Bd.fdiv1 {k:Nat} {x y:Int} (h:Bd k x) (hk:1≤k) (hy:y≠0):Bd (k+1) (x.fdiv y):=by
 by_cases hs:x.tmod y=0∨sg x=sg y
 ·rw [(zbV hy hs).1];exact (h.tdiv).mono (by omega)
 ·have h':x.tmod y≠0∧sg x≠sg y:=⟨fun e=>hs (.inl e),fun e=>hs (.inr e)⟩
  rw [(zc1 hy h'.1 h'.2).1];exact (h.tdiv).sub (Bd.one hk)
theorem Bd.between {k:Nat} {a b m:Int} (ha:Bd k a) (hb:Bd k b) (h1:a≤m) (h2:m≤b):Bd k m:=by
 unfold Bd at *
 omega
noncomputable def flN:Nat:=Tryz.f75.ntmps
noncomputable def flC:Code:=Tryz.f75.body.getD .skip
noncomputable def fl2:Code:=cB 2 flC
noncomputable def fl4:Code:=cB 4 flC
noncomputable def fl24:Code:=(cPost 2 flC).headD .skip
noncomputable def fl0 (x:Nm):Int:=(x.c0+rootZ 2 x.c1+rootZ 3 x.c2+rootZ 6 x.c3).fdiv x.d
def xcN (x:Nm):Array Value:=#[.bool (sg x.c0),.string (mg x.c0),.bool (sg x.c1),.string (mg x.c1),.bool (sg x.c2),.string (mg x.c2),.bool (sg x.c3),.string (mg x.c3),.bool (sg x.d),.string (mg x.d)]
def cI1 (n:Int):Array Value:=#[.bool (sg n),.string (mg n)]
def cZ1:Array Value:=#[.bool false,.string ⟨#[]⟩]
theorem Bd.fl0 {x:Nm} {k:Nat} (h:BN k x) (hd:x.d≠0):Bd (k+5) (fl0 x) :=
 ((((((h.h0.mono (show k≤k+1 by omega)).add (h.h1.rootZ 2 (by omega))).add ((h.h2.rootZ 3 (by omega)).mono (by omega))).add ((h.h3.rootZ 6 (by omega)).mono (by omega))).fdiv1 (by omega) hd)).mono (by omega)

noncomputable def hiN (y:Nm) (lo:Int):Int:=open Classical in if intN lo=y then lo else lo+1
end Go.Proofs.YtegnalgjjmpcmaaGreatDoor
