/- Weights: plain laws. No function of the program. -/
import Derived.Test.YtlhddcingeneaaaGreatDoorPNY
namespace Go.Proofs.YtlhddcingeneaaaGreatDoor
open Go Go.RowKit
set_option linter.unusedVariables false
set_option linter.unusedSimpArgs false
theorem ws4_int (z:Int):s4 z 0 0 0=z.sign:=by
 have h:=cmp_ints z 0
 rw [cmp_int (zint_ok 0)] at h
 simpa [zint] using h
theorem add_mul {x y k:Nm} (hx:Ok x) (hy:Ok y) (hk:Ok k):mulN (addN x y) k=addN (mulN x k) (mulN y k):=by
 rw [mulN_comm (addN_ok hx hy) hk,mulN_add hk hx hy,mulN_comm hk hx,mulN_comm hk hy]
theorem dn_pos {m:Mt} (h:rightM m=true):0≤sgnN (dnN m):=by
 obtain ⟨h1,-⟩:=rightM_d h
 unfold dnN
 rw [sgn_low (by show (0:Int)<1000;decide)]
 show 0≤s4 m.d 0 0 0
 rw [ws4_int]
 exact Int.sign_nonneg_iff.2 (by omega)
theorem cmp_zero_sgn {x:Nm} (hx:Ok x):cmpK (zint 0) x = -sgnN x:=by
 rw [cmp_int hx]
 show s4 (0 * x.d - x.c0) (-x.c1) (-x.c2) (-x.c3)=_
 rw [show 0 * x.d - x.c0 = -x.c0 by rw [Int.zero_mul];omega,s4_neg]
 rfl
theorem fl_nonneg {x:Nm} {f:Int} (hx:Ok x) (h0:0≤sgnN x) (hf:Fl x f):0≤f:=by
 rcases Int.lt_or_le f 0 with q | q
 ·have:=(hf.iff hx 0).2 q
  rw [cmp_zero_sgn hx] at this
  omega
 ·exact q
theorem sgn_mul_nn {x k:Nm} (hx:Ok x) (hk:Ok k) (h0:0≤sgnN x) (h1:0≤sgnN k):0≤sgnN (mulN x k):=by
 rw [sgn_mul hx hk]
 exact Int.mul_nonneg h0 h1
end Go.Proofs.YtlhddcingeneaaaGreatDoor
