/- Vectors of numbers of the field: products, determinants, comparison, rotations, and their laws. No function of the program. -/
import Derived.Test.YtegnalgjjmpcmaaGreatDoorPVPoly
namespace Go.Proofs.YtegnalgjjmpcmaaGreatDoor
set_option linter.unusedVariables false
set_option linter.unusedSimpArgs false
structure V3 where
  x : Nm
  y : Nm
  z : Nm
structure OkV (v : V3) : Prop where
  x : Ok v.x
  y : Ok v.y
  z : Ok v.z
theorem V3.ext {u v : V3} (h0 : u.x = v.x) (h1 : u.y = v.y) (h2 : u.z = v.z) : u = v := by
  cases u; cases v; simp only at h0 h1 h2; rw [h0, h1, h2]
def addV (u v : V3) : V3 := ⟨addN u.x v.x, addN u.y v.y, addN u.z v.z⟩
def subV (u v : V3) : V3 := ⟨subN u.x v.x, subN u.y v.y, subN u.z v.z⟩
def negV (u : V3) : V3 := ⟨negN u.x, negN u.y, negN u.z⟩
def scaV (u : V3) (k : Nm) : V3 := ⟨mulN u.x k, mulN u.y k, mulN u.z k⟩
def mulV (u v : V3) : V3 := ⟨mulN u.x v.x, mulN u.y v.y, mulN u.z v.z⟩
def dotV (u v : V3) : Nm := addN (addN (mulN u.x v.x) (mulN u.y v.y)) (mulN u.z v.z)
def minN (a b c d : Nm) : Nm := subN (mulN a d) (mulN b c)
def crsV (u v : V3) : V3 := ⟨minN u.y u.z v.y v.z, minN u.z u.x v.z v.x, minN u.x u.y v.x v.y⟩
def detV (u v w : V3) : Nm := dotV u (crsV v w)
def trnV (c s : Nm) (v : V3) : V3 := ⟨subN (mulN c v.x) (mulN s v.y), addN (mulN s v.x) (mulN c v.y), v.z⟩
def zV : V3 := ⟨zN, zN, zN⟩
theorem zV_ok : OkV zV := ⟨zN_ok, zN_ok, zN_ok⟩
theorem addV_ok {u v : V3} (hu : OkV u) (hv : OkV v) : OkV (addV u v) := ⟨addN_ok hu.x hv.x, addN_ok hu.y hv.y, addN_ok hu.z hv.z⟩
theorem negV_ok {u : V3} (hu : OkV u) : OkV (negV u) := ⟨negN_ok hu.x, negN_ok hu.y, negN_ok hu.z⟩
theorem scaV_ok {u : V3} {k : Nm} (hu : OkV u) (hk : Ok k) : OkV (scaV u k) := ⟨mulN_ok hu.x hk, mulN_ok hu.y hk, mulN_ok hu.z hk⟩
theorem minN_ok {a b c d : Nm} (ha : Ok a) (hb : Ok b) (hc : Ok c) (hd : Ok d) : Ok (minN a b c d) := subN_ok (mulN_ok ha hd) (mulN_ok hb hc)
theorem crsV_ok {u v : V3} (hu : OkV u) (hv : OkV v) : OkV (crsV u v) := ⟨minN_ok hu.y hu.z hv.y hv.z, minN_ok hu.z hu.x hv.z hv.x, minN_ok hu.x hu.y hv.x hv.y⟩
theorem dotV_ok {u v : V3} (hu : OkV u) (hv : OkV v) : Ok (dotV u v) := addN_ok (addN_ok (mulN_ok hu.x hv.x) (mulN_ok hu.y hv.y)) (mulN_ok hu.z hv.z)
theorem detV_ok {u v w : V3} (hu : OkV u) (hv : OkV v) (hw : OkV w) : Ok (detV u v w) := dotV_ok hu (crsV_ok hv hw)
theorem trnV_ok {c s : Nm} {v : V3} (hc : Ok c) (hs : Ok s) (hv : OkV v) : OkV (trnV c s v) := ⟨subN_ok (mulN_ok hc hv.x) (mulN_ok hs hv.y), addN_ok (mulN_ok hs hv.x) (mulN_ok hc hv.y), hv.z⟩
theorem negN_eq_sub {x : Nm} (hx : Ok x) : subN zN x = negN x :=
  toK_inj (subN_ok zN_ok hx) (negN_ok hx) (by rw [toK_sub zN_ok hx, toK_neg, toK_z, K.zero_add])
theorem negV_eq_sub {v : V3} (hv : OkV v) : subV zV v = negV v := V3.ext (negN_eq_sub hv.x) (negN_eq_sub hv.y) (negN_eq_sub hv.z)
structure Rp (f : Nat → K) (x : Nm) (e : PE) : Prop where
  ok : Ok x
  is : toK x = e.den f
structure PV where
  x : PE
  y : PE
  z : PE
structure RpV (f : Nat → K) (v : V3) (e : PV) : Prop where
  x : Rp f v.x e.x
  y : Rp f v.y e.y
  z : Rp f v.z e.z
section
variable {f : Nat → K}
theorem Rp.add {x y : Nm} {a b : PE} (hx : Rp f x a) (hy : Rp f y b) : Rp f (addN x y) (.add a b) := ⟨addN_ok hx.ok hy.ok, by rw [toK_add hx.ok hy.ok, hx.is, hy.is]; rfl⟩
theorem Rp.mul {x y : Nm} {a b : PE} (hx : Rp f x a) (hy : Rp f y b) : Rp f (mulN x y) (.mul a b) := ⟨mulN_ok hx.ok hy.ok, by rw [toK_mul hx.ok hy.ok, hx.is, hy.is]; rfl⟩
theorem Rp.neg {x : Nm} {a : PE} (hx : Rp f x a) : Rp f (negN x) (.neg a) := ⟨negN_ok hx.ok, by rw [toK_neg, hx.is]; rfl⟩
def subE (a b : PE) : PE := .add a (.neg b)
theorem Rp.sub {x y : Nm} {a b : PE} (hx : Rp f x a) (hy : Rp f y b) : Rp f (subN x y) (subE a b) := hx.add hy.neg
theorem Rp.zero : Rp f zN (.add .one (.neg .one)) := ⟨zN_ok, by rw [toK_z]; exact (K.add_neg 1).symm⟩
theorem Rp.eq {x y : Nm} {a b : PE} (hx : Rp f x a) (hy : Rp f y b) (h : (a.nf.1 ++ b.nf.2).isPerm (b.nf.1 ++ a.nf.2) = true) : x = y :=
  toK_inj hx.ok hy.ok (by rw [hx.is, hy.is, PE.same f a b h])
def addE (a b : PV) : PV := ⟨.add a.x b.x, .add a.y b.y, .add a.z b.z⟩
def negE (a : PV) : PV := ⟨.neg a.x, .neg a.y, .neg a.z⟩
def scaE (a : PV) (k : PE) : PV := ⟨.mul a.x k, .mul a.y k, .mul a.z k⟩
def dotE (a b : PV) : PE := .add (.add (.mul a.x b.x) (.mul a.y b.y)) (.mul a.z b.z)
def minE (a b c d : PE) : PE := subE (.mul a d) (.mul b c)
def crsE (a b : PV) : PV := ⟨minE a.y a.z b.y b.z, minE a.z a.x b.z b.x, minE a.x a.y b.x b.y⟩
def detE (a b c : PV) : PE := dotE a (crsE b c)
def trnE (c s : PE) (v : PV) : PV := ⟨subE (.mul c v.x) (.mul s v.y), .add (.mul s v.x) (.mul c v.y), v.z⟩
theorem RpV.add {u v : V3} {a b : PV} (hu : RpV f u a) (hv : RpV f v b) : RpV f (addV u v) (addE a b) := ⟨hu.x.add hv.x, hu.y.add hv.y, hu.z.add hv.z⟩
theorem RpV.neg {u : V3} {a : PV} (hu : RpV f u a) : RpV f (negV u) (negE a) := ⟨hu.x.neg, hu.y.neg, hu.z.neg⟩
theorem RpV.sca {u : V3} {a : PV} {k : Nm} {c : PE} (hu : RpV f u a) (hk : Rp f k c) : RpV f (scaV u k) (scaE a c) := ⟨hu.x.mul hk, hu.y.mul hk, hu.z.mul hk⟩
theorem RpV.dot {u v : V3} {a b : PV} (hu : RpV f u a) (hv : RpV f v b) : Rp f (dotV u v) (dotE a b) := ((hu.x.mul hv.x).add (hu.y.mul hv.y)).add (hu.z.mul hv.z)
theorem RpV.crs {u v : V3} {a b : PV} (hu : RpV f u a) (hv : RpV f v b) : RpV f (crsV u v) (crsE a b) :=
  ⟨(hu.y.mul hv.z).sub (hu.z.mul hv.y), (hu.z.mul hv.x).sub (hu.x.mul hv.z), (hu.x.mul hv.y).sub (hu.y.mul hv.x)⟩
theorem RpV.det {u v w : V3} {a b c : PV} (hu : RpV f u a) (hv : RpV f v b) (hw : RpV f w c) : Rp f (detV u v w) (detE a b c) := hu.dot (hv.crs hw)
theorem RpV.trn {c s : Nm} {p q : PE} {v : V3} {a : PV} (hc : Rp f c p) (hs : Rp f s q) (hv : RpV f v a) : RpV f (trnV c s v) (trnE p q a) :=
  ⟨(hc.mul hv.x).sub (hs.mul hv.y), (hs.mul hv.x).add (hc.mul hv.y), hv.z⟩
theorem RpV.eq {u v : V3} {a b : PV} (hu : RpV f u a) (hv : RpV f v b) (h0 : (a.x.nf.1 ++ b.x.nf.2).isPerm (b.x.nf.1 ++ a.x.nf.2) = true)
    (h1 : (a.y.nf.1 ++ b.y.nf.2).isPerm (b.y.nf.1 ++ a.y.nf.2) = true) (h2 : (a.z.nf.1 ++ b.z.nf.2).isPerm (b.z.nf.1 ++ a.z.nf.2) = true) : u = v :=
  V3.ext (hu.x.eq hv.x h0) (hu.y.eq hv.y h1) (hu.z.eq hv.z h2)
end
def vr (u v w : V3) (c s : Nm) (n : Nat) : K := toK (([u.x, u.y, u.z, v.x, v.y, v.z, w.x, w.y, w.z, c, s] : List Nm).getD n zN)
section
variable {u v w : V3} {c s : Nm}
def uE' : PV := ⟨.v 0, .v 1, .v 2⟩
def vE' : PV := ⟨.v 3, .v 4, .v 5⟩
def wE' : PV := ⟨.v 6, .v 7, .v 8⟩
theorem RpV.u0 (h : OkV u) : RpV (vr u v w c s) u uE' := ⟨⟨h.x, rfl⟩, ⟨h.y, rfl⟩, ⟨h.z, rfl⟩⟩
theorem RpV.v0 (h : OkV v) : RpV (vr u v w c s) v vE' := ⟨⟨h.x, rfl⟩, ⟨h.y, rfl⟩, ⟨h.z, rfl⟩⟩
theorem RpV.w0 (h : OkV w) : RpV (vr u v w c s) w wE' := ⟨⟨h.x, rfl⟩, ⟨h.y, rfl⟩, ⟨h.z, rfl⟩⟩
theorem Rp.c0 (h : Ok c) : Rp (vr u v w c s) c (.v 9) := ⟨h, rfl⟩
theorem Rp.s0 (h : Ok s) : Rp (vr u v w c s) s (.v 10) := ⟨h, rfl⟩
/-! the laws -/
theorem dot_comm (hu : OkV u) (hv : OkV v) : dotV v u = dotV u v :=
  ((RpV.v0 (u := u) (w := u) (c := zN) (s := zN) hv).dot (RpV.u0 hu)).eq ((RpV.u0 hu).dot (RpV.v0 hv)) (by kernel_rfl)
theorem dot_lin (hu : OkV u) (hv : OkV v) (hw : OkV w) : dotV (addV (scaV u w.y) v) w = addN (mulN w.y (dotV u w)) (dotV v w) := by
  have U := RpV.u0 (v := v) (w := w) (c := zN) (s := zN) hu
  have V := RpV.v0 (u := u) (w := w) (c := zN) (s := zN) hv
  have W := RpV.w0 (u := u) (v := v) (c := zN) (s := zN) hw
  exact (((U.sca W.y).add V).dot W).eq ((W.y.mul (U.dot W)).add (V.dot W)) (by kernel_rfl)
theorem crs_lin (hu : OkV u) (hv : OkV v) (hw : OkV w) : crsV (addV (scaV u w.y) v) w = addV (scaV (crsV u w) w.y) (crsV v w) := by
  have U := RpV.u0 (v := v) (w := w) (c := zN) (s := zN) hu
  have V := RpV.v0 (u := u) (w := w) (c := zN) (s := zN) hv
  have W := RpV.w0 (u := u) (v := v) (c := zN) (s := zN) hw
  exact (((U.sca W.y).add V).crs W).eq (((U.crs W).sca W.y).add (V.crs W)) (by kernel_rfl) (by kernel_rfl) (by kernel_rfl)
theorem crs_neg (hu : OkV u) (hv : OkV v) : negV (crsV v u) = crsV u v := by
  have U := RpV.u0 (v := v) (w := u) (c := zN) (s := zN) hu
  have V := RpV.v0 (u := u) (w := u) (c := zN) (s := zN) hv
  exact ((V.crs U).neg).eq (U.crs V) (by kernel_rfl) (by kernel_rfl) (by kernel_rfl)
theorem perp_u (hu : OkV u) (hv : OkV v) : dotV (crsV u v) u = zN := by
  have U := RpV.u0 (v := v) (w := u) (c := zN) (s := zN) hu
  have V := RpV.v0 (u := u) (w := u) (c := zN) (s := zN) hv
  exact ((U.crs V).dot U).eq Rp.zero (by kernel_rfl)
theorem perp_v (hu : OkV u) (hv : OkV v) : dotV (crsV u v) v = zN := by
  have U := RpV.u0 (v := v) (w := u) (c := zN) (s := zN) hu
  have V := RpV.v0 (u := u) (w := u) (c := zN) (s := zN) hv
  exact ((U.crs V).dot V).eq Rp.zero (by kernel_rfl)
theorem lagrange (hu : OkV u) (hv : OkV v) (hw : OkV w) : dotV (crsV u v) (crsV v w) = subN (mulN (dotV u v) (dotV v w)) (mulN (dotV u w) (dotV v v)) := by
  have U := RpV.u0 (v := v) (w := w) (c := zN) (s := zN) hu
  have V := RpV.v0 (u := u) (w := w) (c := zN) (s := zN) hv
  have W := RpV.w0 (u := u) (v := v) (c := zN) (s := zN) hw
  exact ((U.crs V).dot (V.crs W)).eq (((U.dot V).mul (V.dot W)).sub ((U.dot W).mul (V.dot V))) (by kernel_rfl)
theorem det_swap1 (hu : OkV u) (hv : OkV v) (hw : OkV w) : detV v u w = negN (detV u v w) := by
  have U := RpV.u0 (v := v) (w := w) (c := zN) (s := zN) hu
  have V := RpV.v0 (u := u) (w := w) (c := zN) (s := zN) hv
  have W := RpV.w0 (u := u) (v := v) (c := zN) (s := zN) hw
  exact (V.det U W).eq ((U.det V W).neg) (by kernel_rfl)
theorem det_swap2 (hu : OkV u) (hv : OkV v) (hw : OkV w) : detV u w v = negN (detV u v w) := by
  have U := RpV.u0 (v := v) (w := w) (c := zN) (s := zN) hu
  have V := RpV.v0 (u := u) (w := w) (c := zN) (s := zN) hv
  have W := RpV.w0 (u := u) (v := v) (c := zN) (s := zN) hw
  exact (U.det W V).eq ((U.det V W).neg) (by kernel_rfl)
theorem det_add (hu : OkV u) (hv : OkV v) (hw : OkV w) : detV (addV u w) v w = detV u v w := by
  have U := RpV.u0 (v := v) (w := w) (c := zN) (s := zN) hu
  have V := RpV.v0 (u := u) (w := w) (c := zN) (s := zN) hv
  have W := RpV.w0 (u := u) (v := v) (c := zN) (s := zN) hw
  exact ((U.add W).det V W).eq (U.det V W) (by kernel_rfl)
theorem det_turn (hu : OkV u) (hv : OkV v) (hw : OkV w) : detV v w u = detV u v w := by
  have U := RpV.u0 (v := v) (w := w) (c := zN) (s := zN) hu
  have V := RpV.v0 (u := u) (w := w) (c := zN) (s := zN) hv
  have W := RpV.w0 (u := u) (v := v) (c := zN) (s := zN) hw
  exact (V.det W U).eq (U.det V W) (by kernel_rfl)
theorem det_dot (hu : OkV u) (hv : OkV v) (hw : OkV w) : dotV (crsV u v) w = detV u v w := by
  have U := RpV.u0 (v := v) (w := w) (c := zN) (s := zN) hu
  have V := RpV.v0 (u := u) (w := w) (c := zN) (s := zN) hv
  have W := RpV.w0 (u := u) (v := v) (c := zN) (s := zN) hw
  exact ((U.crs V).dot W).eq (U.det V W) (by kernel_rfl)
theorem sub_self (hu : OkV u) : subV u u = zV :=
  V3.ext ((subN_zero hu.x hu.x).2 rfl) ((subN_zero hu.y hu.y).2 rfl) ((subN_zero hu.z hu.z).2 rfl)
def Circ (c s : Nm) : Prop := toK c * toK c + toK s * toK s = 1
theorem one_of_circ {f : Nat → K} {c s : Nm} {p q : PE} (h : Circ c s) (hc : Rp f c p) (hs : Rp f s q) : (PE.add (.mul p p) (.mul q q)).den f = PE.one.den f := by
  show p.den f * p.den f + q.den f * q.den f = 1
  rw [← hc.is, ← hs.is]
  exact h
theorem trn_crs (hc : Ok c) (hs : Ok s) (hu : OkV u) (hv : OkV v) (h : Circ c s) : crsV (trnV c s u) (trnV c s v) = trnV c s (crsV u v) := by
  have U := RpV.u0 (v := v) (w := u) (c := c) (s := s) hu
  have V := RpV.v0 (u := u) (w := u) (c := c) (s := s) hv
  have C := Rp.c0 (u := u) (v := v) (w := u) (s := s) hc
  have S := Rp.s0 (u := u) (v := v) (w := u) (c := c) hs
  have L := (RpV.trn C S U).crs (RpV.trn C S V)
  have R := RpV.trn C S (U.crs V)
  refine V3.ext (L.x.eq R.x (by kernel_rfl)) (L.y.eq R.y (by kernel_rfl)) (toK_inj L.z.ok R.z.ok ?_)
  rw [L.z.is, R.z.is]
  have e := PE.same (vr u v u c s) (crsE (trnE (.v 9) (.v 10) uE') (trnE (.v 9) (.v 10) vE')).z (.mul (.add (.mul (.v 9) (.v 9)) (.mul (.v 10) (.v 10))) (crsE uE' vE').z) (by kernel_rfl)
  rw [e]
  show (PE.add (.mul (.v 9) (.v 9)) (.mul (.v 10) (.v 10))).den _ * _ = _
  rw [one_of_circ h C S]
  exact K.one_mul _
theorem trn_dot (hc : Ok c) (hs : Ok s) (hu : OkV u) (hv : OkV v) (h : Circ c s) : dotV (trnV c s u) (trnV c s v) = dotV u v := by
  have U := RpV.u0 (v := v) (w := u) (c := c) (s := s) hu
  have V := RpV.v0 (u := u) (w := u) (c := c) (s := s) hv
  have C := Rp.c0 (u := u) (v := v) (w := u) (s := s) hc
  have S := Rp.s0 (u := u) (v := v) (w := u) (c := c) hs
  have L := (RpV.trn C S U).dot (RpV.trn C S V)
  have R := U.dot V
  refine toK_inj L.ok R.ok ?_
  rw [L.is, R.is]
  have e := PE.same (vr u v u c s) (dotE (trnE (.v 9) (.v 10) uE') (trnE (.v 9) (.v 10) vE')) (.add (.mul (.add (.mul (.v 9) (.v 9)) (.mul (.v 10) (.v 10))) (.add (.mul (.v 0) (.v 3)) (.mul (.v 1) (.v 4)))) (.mul (.v 2) (.v 5))) (by kernel_rfl)
  rw [e]
  show (PE.add (.mul (.v 9) (.v 9)) (.mul (.v 10) (.v 10))).den _ * _ + _ = _
  rw [one_of_circ h C S]
  show 1 * _ + _ = _
  rw [K.one_mul]
  rfl
theorem trn_det (hc : Ok c) (hs : Ok s) (hu : OkV u) (hv : OkV v) (hw : OkV w) (h : Circ c s) : detV (trnV c s u) (trnV c s v) (trnV c s w) = detV u v w := by
  unfold detV
  rw [trn_crs hc hs hv hw h, trn_dot hc hs hu (crsV_ok hv hw) h]
end
def cmpV (u v : V3) : Int := if cmpK u.x v.x ≠ 0 then cmpK u.x v.x else if cmpK u.y v.y ≠ 0 then cmpK u.y v.y else cmpK u.z v.z
section
variable {u v w : V3}
theorem cmpV_vals (u v : V3) : cmpV u v = 1 ∨ cmpV u v = 0 ∨ cmpV u v = -1 := by
  unfold cmpV
  split
  · exact cmpK_vals _ _
  · split
    · exact cmpK_vals _ _
    · exact cmpK_vals _ _
theorem cmpV_neg (hu : OkV u) (hv : OkV v) : cmpV v u = -cmpV u v := by
  unfold cmpV
  rw [cmpK_neg hu.x hv.x, cmpK_neg hu.y hv.y, cmpK_neg hu.z hv.z]
  split <;> split <;> first | omega | (split <;> split <;> omega)
theorem cmpV_zero (hu : OkV u) (hv : OkV v) : cmpV u v = 0 ↔ u = v := by
  unfold cmpV
  have hx := cmpK_zero hu.x hv.x
  have hy := cmpK_zero hu.y hv.y
  have hz := cmpK_zero hu.z hv.z
  constructor
  · intro h
    split at h
    · rename_i h1; exact absurd h h1
    · rename_i h1
      split at h
      · rename_i h2; exact absurd h h2
      · rename_i h2
        exact V3.ext (hx.1 (by omega)) (hy.1 (by omega)) (hz.1 h)
  · rintro rfl
    rw [hx.2 rfl, hy.2 rfl, hz.2 rfl]
    simp
theorem cmpV_le (hu : OkV u) (hv : OkV v) (hw : OkV w) (h1 : cmpV u v ≤ 0) (h2 : cmpV v w ≤ 0) : cmpV u w ≤ 0 := by
  have x3 := cmpK_le hu.x hv.x hw.x
  have x4 := cmpK_lt_le hu.x hv.x hw.x
  have x5 := cmpK_le_lt hu.x hv.x hw.x
  have y3 := cmpK_le hu.y hv.y hw.y
  have y4 := cmpK_lt_le hu.y hv.y hw.y
  have y5 := cmpK_le_lt hu.y hv.y hw.y
  have z3 := cmpK_le hu.z hv.z hw.z
  unfold cmpV at *
  split at h1
  · split at h2
    · have := x4 (by omega) (by omega)
      split <;> omega
    · have := x4 (by omega) (by omega)
      split <;> omega
  · split at h2
    · have := x5 (by omega) (by omega)
      split <;> omega
    · have hx := x3 (by omega) (by omega)
      split
      · exact hx
      · split at h1
        · have : cmpK u.y w.y < 0 := y4 (by omega) (by split at h2 <;> omega)
          split <;> omega
        · split at h2
          · have : cmpK u.y w.y < 0 := y5 (by omega) (by omega)
            split <;> omega
          · have hy := y3 (by omega) (by omega)
            have hz := z3 (by omega) (by omega)
            split <;> omega
theorem cmpV_add (hu : OkV u) (hv : OkV v) (hw : OkV w) : cmpV (addV u w) (addV v w) = cmpV u v := by
  unfold cmpV addV
  simp only [cmpK_addN hu.x hv.x hw.x, cmpK_addN hu.y hv.y hw.y, cmpK_addN hu.z hv.z hw.z]
end
end Go.Proofs.YtegnalgjjmpcmaaGreatDoor
