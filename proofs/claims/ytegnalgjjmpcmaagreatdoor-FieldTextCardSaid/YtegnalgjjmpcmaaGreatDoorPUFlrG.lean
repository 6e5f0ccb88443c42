/- The integer part of a number of the field, told from approximations of the roots. -/
import Derived.Test.YtegnalgjjmpcmaaGreatDoorPUH
import Derived.Test.YtegnalgjjmpcmaaGreatDoorPUDivG
namespace Go.Proofs.YtegnalgjjmpcmaaGreatDoor
set_option linter.unusedVariables false
set_option linter.unusedSimpArgs false
theorem zsz {a b c d:Int} (h:0≤s4 a b c d):NN ⟨⟨a,b⟩,⟨c,d⟩⟩:=by
 rcases ze9 a b c d with h1 | h1 | h1
 ·exact .inr h1.2
 ·exact .inl h1.2
 ·rw [h1.1] at h;exact absurd h (by decide)
theorem NN.mul {x y:H} (hx:NN x) (hy:NN y):NN (x * y):=by
 rcases hx with rfl | hx
 ·exact .inl (by rw [H.comm,hmul0])
 ·rcases hy with rfl | hy
  ·exact .inl (hmul0 _)
  ·exact .inr (hmul hx hy)
theorem NN.int {k:Int} (h:NN ⟨⟨k,0⟩,⟨0,0⟩⟩):0≤k:=by
 rcases Int.lt_or_le k 0 with h1 | h1
 ·have h2:=h.sgn
  have h3:=zmW (-k) 0 0 0
  rw [Int.neg_neg,ziW (m:=-k) (b:=0) (c:=0) (d:=0) (by simp;omega)] at h3
  rw [show (-0:Int)=0 from rfl] at h3
  omega
 ·exact h1
theorem zrA (s k:Int):mix s 0 k=s:=by unfold mix;rw [if_pos (.inr rfl)]
theorem zsm (k:Int):mix 0 1 k=1:=by unfold mix;simp
theorem zsb {r z:Int} (hr:0≤r) (hz:z≤0):0≤mix (-r).sign 1 z.sign:=by
 rcases Int.lt_or_eq_of_le hr with h | h
 ·rw [Int.sign_eq_neg_one_of_neg (show -r<0 by omega)]
  unfold mix
  have:=Int.sign_nonpos_iff.2 hz
  simp
  omega
 ·subst h
  rw [show (-0:Int).sign=0 from rfl,zsm];decide
theorem zsE (a:Int):s2 a 0=a.sign:=by unfold s2;rw [show (0:Int).sign=0 from rfl,zrA]
structure Ap (u r2 r3 r6:Int):Prop where
 u0:0<u
 a0:0≤r2
 b0:0≤r3
 c0:0≤r6
 a1:r2 * r2≤2 * (u * u)
 a2:2 * (u * u)<(r2+1) * (r2+1)
 b1:r3 * r3≤3 * (u * u)
 b2:3 * (u * u)<(r3+1) * (r3+1)
 c1:r6 * r6≤6 * (u * u)
 c2:6 * (u * u)<(r6+1) * (r6+1)
theorem lo2 {u r:Int} (hu:0<u) (hr:0≤r) (h:r * r≤2 * (u * u)):NN ⟨⟨-r,u⟩,⟨0,0⟩⟩:=zsz (by
 unfold s4
 rw [zsE,show (0:Int).sign=0 from rfl,zrA]
 unfold s2
 rw [Int.sign_eq_one_of_pos hu]
 exact zsb hr (by rw [Int.neg_mul_neg];omega))
def aL (c r:Int):Int:=if c<0 then c * (r+1) else c * r
def aH (c r:Int):Int:=if c<0 then c * r else c * (r+1)
def gLo (x:Nm) (u r2 r3 r6:Int):Int:=x.c0 * u+aL x.c1 r2+aL x.c2 r3+aL x.c3 r6
def gHi (x:Nm) (u r2 r3 r6:Int):Int:=x.c0 * u+aH x.c1 r2+aH x.c2 r3+aH x.c3 r6
def gS (x:Nm):Int:=(x.c1.natAbs:Int)+(x.c2.natAbs:Int)+(x.c3.natAbs:Int)
theorem NN.to {a b c d a' b' c' d':Int} (h:NN ⟨⟨a,b⟩,⟨c,d⟩⟩) (h0:a=a') (h1:b=b') (h2:c=c') (h3:d=d'):NN ⟨⟨a',b'⟩,⟨c',d'⟩⟩:=by subst h0 h1 h2 h3;exact h
def gT (x:Nm):Int:=2 * (x.c1.natAbs:Int)+2 * (x.c2.natAbs:Int)+3 * (x.c3.natAbs:Int)
def gY (y:Nm):Int:=(y.c0.natAbs:Int)+2 * (y.c1.natAbs:Int)+2 * (y.c2.natAbs:Int)+3 * (y.c3.natAbs:Int)
end Go.Proofs.YtegnalgjjmpcmaaGreatDoor
