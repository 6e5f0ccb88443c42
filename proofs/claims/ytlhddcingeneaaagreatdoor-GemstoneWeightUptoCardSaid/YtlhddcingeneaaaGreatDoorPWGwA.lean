/- Weights: plain laws. No function of the program. -/
import Derived.Test.YtlhddcingeneaaaGreatDoorPWY
namespace Go.Proofs.YtlhddcingeneaaaGreatDoor
open Go Go.RowKit
set_option linter.unusedVariables false
set_option linter.unusedSimpArgs false
theorem ws4_int (z:Int):s4 z 0 0 0=z.sign:=by
 have h:=cmp_ints z 0
 rw [cmp_int (zint_ok 0)] at h
 simpa [zint] using h
theorem wrat_ok {n d:Int} (hd:0<d):Ok (low ⟨n,0,0,0,d⟩):=low_ok (by show d≠0;omega)
theorem wtoK_rat {n d:Int} (hd:d≠0):toK (low ⟨n,0,0,0,d⟩)=toK ⟨n,0,0,0,d⟩:=toK_low hd
theorem wcmp_rat {n d m c:Int} (hd:0<d) (hc:0<c):cmpK (low ⟨n,0,0,0,d⟩) (low ⟨m,0,0,0,c⟩)=(n * c - m * d).sign:=by
 have hdc:=Int.mul_pos hd hc
 unfold cmpK
 have e:subN (low ⟨n,0,0,0,d⟩) (low ⟨m,0,0,0,c⟩)=low ⟨n * c - m * d,0,0,0,d * c⟩:=by
  refine toK_inj (subN_ok (wrat_ok hd) (wrat_ok hc)) (wrat_ok hdc) ?_
  rw [toK_sub (wrat_ok hd) (wrat_ok hc),wtoK_rat (by omega),wtoK_rat (by omega),wtoK_rat (by omega),← toK_neg,← toK_addR (x:=⟨n,0,0,0,d⟩) (y:=negN ⟨m,0,0,0,c⟩) (by show d≠0;omega) (by show c≠0;omega)]
  unfold addR negN
  simp [Int.sub_eq_add_neg,Int.neg_mul]
 rw [e,sgn_low hdc]
 unfold sgnN
 exact ws4_int _
theorem wlow_id {x:Nm} (h:Ok x):low x=x:=toK_inj (low_ok h.ne) h (toK_low h.ne)
theorem zint_add (a b:Int):addN (zint a) (zint b)=zint (a+b):=by
 unfold addN
 rw [show addR (zint a) (zint b)=zint (a+b) from by unfold addR zint;simp]
 exact wlow_id (zint_ok _)
theorem cmp_addl {x y z:Nm} (hx:Ok x) (hy:Ok y) (hz:Ok z):cmpK (addN z x) (addN z y)=cmpK x y:=by
 rw [addN_comm hz hx,addN_comm hz hy,cmpK_addN hx hy hz]
theorem le_add {a b c d:Nm} (ha:Ok a) (hb:Ok b) (hc:Ok c) (hd:Ok d) (h1:cmpK a b≤0) (h2:cmpK c d≤0):cmpK (addN a c) (addN b d)≤0 :=
 cmpK_le (addN_ok ha hc) (addN_ok hb hc) (addN_ok hb hd) (by rw [cmpK_addN ha hb hc];exact h1) (by rw [cmp_addl hc hd hb];exact h2)
theorem lt_add {a b c d:Nm} (ha:Ok a) (hb:Ok b) (hc:Ok c) (hd:Ok d) (h1:cmpK a b<0) (h2:cmpK c d≤0):cmpK (addN a c) (addN b d)<0 :=
 cmpK_lt_le (addN_ok ha hc) (addN_ok hb hc) (addN_ok hb hd) (by rw [cmpK_addN ha hb hc];exact h1) (by rw [cmp_addl hc hd hb];exact h2)
theorem add_mul {x y k:Nm} (hx:Ok x) (hy:Ok y) (hk:Ok k):mulN (addN x y) k=addN (mulN x k) (mulN y k):=by
 rw [mulN_comm (addN_ok hx hy) hk,mulN_add hk hx hy,mulN_comm hk hx,mulN_comm hk hy]
theorem wt_sum {x y k:Nm} {f g h:Int} (hx:Ok x) (hy:Ok y) (hk:Ok k) (hf:Fl (mulN x k) f) (hg:Fl (mulN y k) g) (hh:Fl (mulN (addN x y) k) h):f+g≤h∧h≤f+g+1:=by
 have oX:=mulN_ok hx hk
 have oY:=mulN_ok hy hk
 rw [add_mul hx hy hk] at hh
 have oS:=addN_ok oX oY
 constructor
 ·rcases Int.lt_or_le h (f+g) with q | q
  ·have h1:=(hh.iff oS (f+g)).2 q
   have h2:=le_add (zint_ok f) oX (zint_ok g) oY hf.lo hg.lo
   rw [zint_add] at h2
   omega
  ·exact q
 ·have h1:cmpK (mulN x k) (zint (f+1))<0:=by have:=hf.hi;rw [cmpK_neg oX (zint_ok (f+1))] at this;omega
  have h2:cmpK (mulN y k) (zint (g+1))<0:=by have:=hg.hi;rw [cmpK_neg oY (zint_ok (g+1))] at this;omega
  have h3:=lt_add oX (zint_ok (f+1)) oY (zint_ok (g+1)) h1 (by omega)
  rw [zint_add] at h3
  have h4:0<cmpK (zint (f+1+(g+1))) (addN (mulN x k) (mulN y k)):=by rw [cmpK_neg oS (zint_ok _)];omega
  have:=(hh.iff oS _).1 h4
  omega
theorem wt_more {x k k':Nm} {f g:Int} (hx:Ok x) (hk:Ok k) (hk':Ok k') (h0:0≤sgnN x) (hkk:cmpK k k'≤0) (hf:Fl (mulN x k) f) (hg:Fl (mulN x k') g):f≤g:=by
 have oX:=mulN_ok hx hk
 have oY:=mulN_ok hx hk'
 have h1:cmpK (mulN x k) (mulN x k')≤0:=by
  rw [mulN_comm hx hk,mulN_comm hx hk',cmpK_mulN hk hk' hx]
  rcases sgn_vals x with e | e | e <;> rw [e] at h0 ⊢ <;> omega
 rcases Int.lt_or_le g f with q | q
 ·have h2:=(hg.iff oY f).2 q
  have h3:=cmpK_le (zint_ok f) oX oY hf.lo h1
  omega
 ·exact q
theorem dn_le {m m':Mt} (h:m.d≤m'.d):cmpK (dnN m) (dnN m')≤0:=by
 unfold dnN
 rw [wcmp_rat (by decide) (by decide)]
 exact Int.sign_nonpos_iff.2 (by omega)
theorem dn_pos {m:Mt} (h:rightM m=true):0≤sgnN (dnN m):=by
 obtain ⟨h1,-⟩:=rightM_d h
 unfold dnN
 rw [sgn_low (by show (0:Int)<1000;decide)]
 show 0≤s4 m.d 0 0 0
 rw [ws4_int]
 exact Int.sign_nonneg_iff.2 (by omega)
theorem cmp_zero_sgn {x:Nm} (hx:Ok x):cmpK (zint 0) x = -sgnN x:=by
 rw [cmp_int hx]
 show s4 (0 * x.d - x.c0) (-x.c1) (-x.c2) (-x.c3)=_
 rw [show 0 * x.d - x.c0 = -x.c0 by rw [Int.zero_mul];omega,s4_neg]
 rfl
theorem fl_nonneg {x:Nm} {f:Int} (hx:Ok x) (h0:0≤sgnN x) (hf:Fl x f):0≤f:=by
 rcases Int.lt_or_le f 0 with q | q
 ·have:=(hf.iff hx 0).2 q
  rw [cmp_zero_sgn hx] at this
  omega
 ·exact q
theorem sgn_mul_nn {x k:Nm} (hx:Ok x) (hk:Ok k) (h0:0≤sgnN x) (h1:0≤sgnN k):0≤sgnN (mulN x k):=by
 rw [sgn_mul hx hk]
 exact Int.mul_nonneg h0 h1
theorem sgn_add_nn {x y:Nm} (hx:Ok x) (hy:Ok y) (h0:0≤sgnN x) (h1:0≤sgnN y):0≤sgnN (addN x y):=by
 have h2:=le_add (zint_ok 0) hx (zint_ok 0) hy (by rw [cmp_zero_sgn hx];omega) (by rw [cmp_zero_sgn hy];omega)
 rw [zint_add,show (0:Int)+0=0 from rfl,cmp_zero_sgn (addN_ok hx hy)] at h2
 omega
end Go.Proofs.YtlhddcingeneaaaGreatDoor
