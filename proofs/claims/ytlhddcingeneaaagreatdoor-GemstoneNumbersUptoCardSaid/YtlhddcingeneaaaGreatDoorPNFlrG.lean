/- The integer part of a number of the field, told from approximations of the roots. -/
import Derived.Test.YtlhddcingeneaaaGreatDoorPNH
import Derived.Test.YtlhddcingeneaaaGreatDoorPNDivG
namespace Go.Proofs.YtlhddcingeneaaaGreatDoor
set_option linter.unusedVariables false
set_option linter.unusedSimpArgs false
theorem NN_s4 {a b c d:Int} (h:0≤s4 a b c d):NN ⟨⟨a,b⟩,⟨c,d⟩⟩:=by
 rcases hSg_s4 a b c d with h1 | h1 | h1
 ·exact .inr h1.2
 ·exact .inl h1.2
 ·rw [h1.1] at h;exact absurd h (by decide)
theorem NN.mul {x y:H} (hx:NN x) (hy:NN y):NN (x * y):=by
 rcases hx with rfl | hx
 ·exact .inl (by rw [H.comm,hmul0])
 ·rcases hy with rfl | hy
  ·exact .inl (hmul0 _)
  ·exact .inr (hmul hx hy)
theorem NN.scale {a b c d k:Int} (hk:0≤k) (h:NN ⟨⟨a,b⟩,⟨c,d⟩⟩):NN ⟨⟨k * a,k * b⟩,⟨k * c,k * d⟩⟩:=by
 have h2:=(NN_int hk).mul h
 rwa [show ofZ k * (⟨⟨a,b⟩,⟨c,d⟩⟩:H)=⟨⟨k * a,k * b⟩,⟨k * c,k * d⟩⟩ from by
  unfold ofZ
  apply H_ext <;> simp only [H.mul_a,H.mul_b,E.mul_a,E.mul_b,E.add_a,E.add_b,three] <;> grind] at h2
theorem NN.int {k:Int} (h:NN ⟨⟨k,0⟩,⟨0,0⟩⟩):0≤k:=by
 rcases Int.lt_or_le k 0 with h1 | h1
 ·have h2:=h.sgn
  have h3:=s4_neg (-k) 0 0 0
  rw [Int.neg_neg,s4_pos (m:=-k) (b:=0) (c:=0) (d:=0) (by simp;omega)] at h3
  rw [show (-0:Int)=0 from rfl] at h3
  omega
 ·exact h1
theorem NN.plus {a b c d e f g k:Int} (h1:NN ⟨⟨a,b⟩,⟨c,d⟩⟩) (h2:NN ⟨⟨e,f⟩,⟨g,k⟩⟩):NN ⟨⟨a+e,b+f⟩,⟨c+g,d+k⟩⟩:=h1.add h2
theorem mix_z (s k:Int):mix s 0 k=s:=by unfold mix;rw [if_pos (.inr rfl)]
theorem mix_o (k:Int):mix 0 1 k=1:=by unfold mix;simp
theorem mix_up {r z:Int} (hr:0≤r) (hz:z≤0):0≤mix (-r).sign 1 z.sign:=by
 rcases Int.lt_or_eq_of_le hr with h | h
 ·rw [Int.sign_eq_neg_one_of_neg (show -r<0 by omega)]
  unfold mix
  have:=Int.sign_nonpos_iff.2 hz
  simp
  omega
 ·subst h
  rw [show (-0:Int).sign=0 from rfl,mix_o];decide
theorem mix_dn {r z:Int} (hr:0<r) (hz:0<z):0≤mix r.sign (-1) z.sign:=by
 rw [Int.sign_eq_one_of_pos hr,Int.sign_eq_one_of_pos hz];decide
theorem s2_z (a:Int):s2 a 0=a.sign:=by unfold s2;rw [show (0:Int).sign=0 from rfl,mix_z]
theorem s2_p {u:Int} (h:0<u):s2 0 u=1:=by unfold s2;rw [show (0:Int).sign=0 from rfl,Int.sign_eq_one_of_pos h,mix_o]
theorem s2_n {u:Int} (h:0<u):s2 0 (-u) = -1:=by
 unfold s2
 rw [show (0:Int).sign=0 from rfl,Int.sign_eq_neg_one_of_neg (show -u<0 by omega)]
 unfold mix
 simp
structure Ap (u r2 r3 r6:Int):Prop where
 u0:0<u
 a0:0≤r2
 b0:0≤r3
 c0:0≤r6
 a1:r2 * r2≤2 * (u * u)
 a2:2 * (u * u)<(r2+1) * (r2+1)
 b1:r3 * r3≤3 * (u * u)
 b2:3 * (u * u)<(r3+1) * (r3+1)
 c1:r6 * r6≤6 * (u * u)
 c2:6 * (u * u)<(r6+1) * (r6+1)
theorem lo2 {u r:Int} (hu:0<u) (hr:0≤r) (h:r * r≤2 * (u * u)):NN ⟨⟨-r,u⟩,⟨0,0⟩⟩:=NN_s4 (by
 unfold s4
 rw [s2_z,show (0:Int).sign=0 from rfl,mix_z]
 unfold s2
 rw [Int.sign_eq_one_of_pos hu]
 exact mix_up hr (by rw [Int.neg_mul_neg];omega))
theorem hi2 {u r:Int} (hu:0<u) (hr:0≤r) (h:2 * (u * u)<(r+1) * (r+1)):NN ⟨⟨r+1,-u⟩,⟨0,0⟩⟩:=NN_s4 (by
 unfold s4
 rw [s2_z,show (0:Int).sign=0 from rfl,mix_z]
 unfold s2
 rw [Int.sign_eq_neg_one_of_neg (show -u<0 by omega)]
 exact mix_dn (by omega) (by rw [Int.neg_mul_neg];omega))
theorem lo3 {u r:Int} (hu:0<u) (hr:0≤r) (h:r * r≤3 * (u * u)):NN ⟨⟨-r,0⟩,⟨u,0⟩⟩:=NN_s4 (by
 unfold s4
 rw [s2_z,s2_z,Int.sign_eq_one_of_pos hu,show 2 * (-r * 0) - 6 * (u * 0)=0 from by simp,s2_z]
 exact mix_up hr (by rw [Int.neg_mul_neg];simp;omega))
theorem hi3 {u r:Int} (hu:0<u) (hr:0≤r) (h:3 * (u * u)<(r+1) * (r+1)):NN ⟨⟨r+1,0⟩,⟨-u,0⟩⟩:=NN_s4 (by
 unfold s4
 rw [s2_z,s2_z,Int.sign_eq_neg_one_of_neg (show -u<0 by omega),show 2 * ((r+1) * 0) - 6 * (-u * 0)=0 from by simp,s2_z]
 exact mix_dn (by omega) (by rw [Int.neg_mul_neg];simp;omega))
theorem lo6 {u r:Int} (hu:0<u) (hr:0≤r) (h:r * r≤6 * (u * u)):NN ⟨⟨-r,0⟩,⟨0,u⟩⟩:=NN_s4 (by
 unfold s4
 rw [s2_z,s2_p hu,show 2 * (-r * 0) - 6 * (0 * u)=0 from by simp,s2_z]
 exact mix_up hr (by rw [Int.neg_mul_neg];simp;omega))
theorem hi6 {u r:Int} (hu:0<u) (hr:0≤r) (h:6 * (u * u)<(r+1) * (r+1)):NN ⟨⟨r+1,0⟩,⟨0,-u⟩⟩:=NN_s4 (by
 unfold s4
 rw [s2_z,s2_n hu,show 2 * ((r+1) * 0) - 6 * (0 * -u)=0 from by simp,s2_z]
 exact mix_dn (by omega) (by rw [Int.neg_mul_neg];simp;omega))
def aL (c r:Int):Int:=if c<0 then c * (r+1) else c * r
def aH (c r:Int):Int:=if c<0 then c * r else c * (r+1)
theorem aH_aL (c r:Int):aH c r - aL c r=(c.natAbs:Int):=by
 unfold aH aL
 split
 ·rw [Int.mul_add];omega
 ·rw [Int.mul_add];omega
theorem pl2 {u r:Int} (c:Int) (hu:0<u) (hr:0≤r) (h1:r * r≤2 * (u * u)) (h2:2 * (u * u)<(r+1) * (r+1)):NN ⟨⟨-(aL c r),c * u⟩,⟨0,0⟩⟩:=by
 unfold aL
 split
 ·have h:=(hi2 hu hr h2).scale (k:=-c) (by omega)
  simp only [Int.mul_zero,Int.neg_mul,Int.mul_neg,Int.neg_neg] at h
  exact h
 ·have h:=(lo2 hu hr h1).scale (k:=c) (by omega)
  simp only [Int.mul_zero,Int.mul_neg] at h
  exact h
theorem ph2 {u r:Int} (c:Int) (hu:0<u) (hr:0≤r) (h1:r * r≤2 * (u * u)) (h2:2 * (u * u)<(r+1) * (r+1)):NN ⟨⟨aH c r,-(c * u)⟩,⟨0,0⟩⟩:=by
 unfold aH
 split
 ·have h:=(lo2 hu hr h1).scale (k:=-c) (by omega)
  simp only [Int.mul_zero,Int.neg_mul,Int.mul_neg,Int.neg_neg] at h
  exact h
 ·have h:=(hi2 hu hr h2).scale (k:=c) (by omega)
  simp only [Int.mul_zero,Int.mul_neg] at h
  exact h
theorem pl3 {u r:Int} (c:Int) (hu:0<u) (hr:0≤r) (h1:r * r≤3 * (u * u)) (h2:3 * (u * u)<(r+1) * (r+1)):NN ⟨⟨-(aL c r),0⟩,⟨c * u,0⟩⟩:=by
 unfold aL
 split
 ·have h:=(hi3 hu hr h2).scale (k:=-c) (by omega)
  simp only [Int.mul_zero,Int.neg_mul,Int.mul_neg,Int.neg_neg] at h
  exact h
 ·have h:=(lo3 hu hr h1).scale (k:=c) (by omega)
  simp only [Int.mul_zero,Int.mul_neg] at h
  exact h
theorem ph3 {u r:Int} (c:Int) (hu:0<u) (hr:0≤r) (h1:r * r≤3 * (u * u)) (h2:3 * (u * u)<(r+1) * (r+1)):NN ⟨⟨aH c r,0⟩,⟨-(c * u),0⟩⟩:=by
 unfold aH
 split
 ·have h:=(lo3 hu hr h1).scale (k:=-c) (by omega)
  simp only [Int.mul_zero,Int.neg_mul,Int.mul_neg,Int.neg_neg] at h
  exact h
 ·have h:=(hi3 hu hr h2).scale (k:=c) (by omega)
  simp only [Int.mul_zero,Int.mul_neg] at h
  exact h
theorem pl6 {u r:Int} (c:Int) (hu:0<u) (hr:0≤r) (h1:r * r≤6 * (u * u)) (h2:6 * (u * u)<(r+1) * (r+1)):NN ⟨⟨-(aL c r),0⟩,⟨0,c * u⟩⟩:=by
 unfold aL
 split
 ·have h:=(hi6 hu hr h2).scale (k:=-c) (by omega)
  simp only [Int.mul_zero,Int.neg_mul,Int.mul_neg,Int.neg_neg] at h
  exact h
 ·have h:=(lo6 hu hr h1).scale (k:=c) (by omega)
  simp only [Int.mul_zero,Int.mul_neg] at h
  exact h
theorem ph6 {u r:Int} (c:Int) (hu:0<u) (hr:0≤r) (h1:r * r≤6 * (u * u)) (h2:6 * (u * u)<(r+1) * (r+1)):NN ⟨⟨aH c r,0⟩,⟨0,-(c * u)⟩⟩:=by
 unfold aH
 split
 ·have h:=(lo6 hu hr h1).scale (k:=-c) (by omega)
  simp only [Int.mul_zero,Int.neg_mul,Int.mul_neg,Int.neg_neg] at h
  exact h
 ·have h:=(hi6 hu hr h2).scale (k:=c) (by omega)
  simp only [Int.mul_zero,Int.mul_neg] at h
  exact h
def gLo (x:Nm) (u r2 r3 r6:Int):Int:=x.c0 * u+aL x.c1 r2+aL x.c2 r3+aL x.c3 r6
def gHi (x:Nm) (u r2 r3 r6:Int):Int:=x.c0 * u+aH x.c1 r2+aH x.c2 r3+aH x.c3 r6
def gS (x:Nm):Int:=(x.c1.natAbs:Int)+(x.c2.natAbs:Int)+(x.c3.natAbs:Int)
theorem gHi_gLo (x:Nm) (u r2 r3 r6:Int):gHi x u r2 r3 r6 - gLo x u r2 r3 r6=gS x:=by
 have h1:=aH_aL x.c1 r2
 have h2:=aH_aL x.c2 r3
 have h3:=aH_aL x.c3 r6
 unfold gHi gLo gS
 omega
theorem NN.to {a b c d a' b' c' d':Int} (h:NN ⟨⟨a,b⟩,⟨c,d⟩⟩) (h0:a=a') (h1:b=b') (h2:c=c') (h3:d=d'):NN ⟨⟨a',b'⟩,⟨c',d'⟩⟩:=by subst h0 h1 h2 h3;exact h
theorem gLo_NN {x:Nm} {u r2 r3 r6:Int} (h:Ap u r2 r3 r6):NN ⟨⟨x.c0 * u - gLo x u r2 r3 r6,x.c1 * u⟩,⟨x.c2 * u,x.c3 * u⟩⟩ :=
 (((pl2 x.c1 h.u0 h.a0 h.a1 h.a2).plus (pl3 x.c2 h.u0 h.b0 h.b1 h.b2)).plus (pl6 x.c3 h.u0 h.c0 h.c1 h.c2)).to (by unfold gLo;omega) (by omega) (by omega) (by omega)
theorem gHi_NN {x:Nm} {u r2 r3 r6:Int} (h:Ap u r2 r3 r6):NN ⟨⟨gHi x u r2 r3 r6 - x.c0 * u,-(x.c1 * u)⟩,⟨-(x.c2 * u),-(x.c3 * u)⟩⟩ :=
 (((ph2 x.c1 h.u0 h.a0 h.a1 h.a2).plus (ph3 x.c2 h.u0 h.b0 h.b1 h.b2)).plus (ph6 x.c3 h.u0 h.c0 h.c1 h.c2)).to (by unfold gHi;omega) (by omega) (by omega) (by omega)
theorem s4_unscale {a b c d u:Int} (hu:0<u):s4 (a * u) (b * u) (c * u) (d * u)=s4 a b c d :=
 sgn_scale (x:=⟨a,b,c,d,1⟩) (y:=⟨a * u,b * u,c * u,d * u,1⟩) hu (by
  unfold toH ofZ
  apply H_ext <;> simp only [H.mul_a,H.mul_b,E.mul_a,E.mul_b,E.add_a,E.add_b,three] <;> grind)
theorem gFl {x:Nm} {u r2 r3 r6 n:Int} (hx:Ok x) (h:Ap u r2 r3 r6) (h1:n * (x.d * u)≤gLo x u r2 r3 r6) (h2:gHi x u r2 r3 r6<(n+1) * (x.d * u)):Fl x n:=by
 refine ⟨?_,?_⟩
 ·rw [cmp_int hx,show n * x.d - x.c0 = -(x.c0 - n * x.d) by omega,s4_neg,← s4_unscale h.u0]
  have g:=(gLo_NN (x:=x) h).plus (NN_int (k:=gLo x u r2 r3 r6 - n * (x.d * u)) (by omega))
  have:=(g.to (a':=(x.c0 - n * x.d) * u) (b':=x.c1 * u) (c':=x.c2 * u) (d':=x.c3 * u) (by rw [Int.sub_mul,Int.mul_assoc];omega) (by omega) (by omega) (by omega)).sgn
  omega
 ·rw [cmp_int hx,← s4_unscale h.u0]
  have g:=(gHi_NN (x:=x) h).pos (ofZ_pos (k:=(n+1) * (x.d * u) - gHi x u r2 r3 r6) (by omega))
  have e:(⟨⟨gHi x u r2 r3 r6 - x.c0 * u,-(x.c1 * u)⟩,⟨-(x.c2 * u),-(x.c3 * u)⟩⟩:H)+ofZ ((n+1) * (x.d * u) - gHi x u r2 r3 r6)=⟨⟨((n+1) * x.d - x.c0) * u,-x.c1 * u⟩,⟨-x.c2 * u,-x.c3 * u⟩⟩:=by
   unfold ofZ
   apply H_ext <;> simp only [H.add_a,H.add_b,E.add_a,E.add_b,Int.neg_mul,Int.sub_mul,Int.mul_assoc] <;> omega
  rw [e] at g
  rw [sg_of (hSg_s4 _ _ _ _) g]
  decide
def gT (x:Nm):Int:=2 * (x.c1.natAbs:Int)+2 * (x.c2.natAbs:Int)+3 * (x.c3.natAbs:Int)
def gY (y:Nm):Int:=(y.c0.natAbs:Int)+2 * (y.c1.natAbs:Int)+2 * (y.c2.natAbs:Int)+3 * (y.c3.natAbs:Int)
theorem gBound {z:Nm} {u S:Int} (h0:z.c1≠0∨z.c2≠0∨z.c3≠0) (hd:z.d=1) (hu:0<u) (hm:NN ⟨⟨S - z.c0 * u,-(z.c1 * u)⟩,⟨-(z.c2 * u),-(z.c3 * u)⟩⟩) (hp:NN ⟨⟨S+z.c0 * u,z.c1 * u⟩,⟨z.c2 * u,z.c3 * u⟩⟩):u≤S * gY (gC z):=by
 have hne:z≠zN:=fun e=>by subst e;rcases h0 with h | h | h <;> exact h rfl
 have hN:=gNorm_ne (ok_one hd) hne
 obtain ⟨n1,n2,n3⟩:=gNorm_zero z
 have hq:quN z=z:=by obtain ⟨a,b,c,d,e⟩:=z;simp only at hd;subst hd;rfl
 unfold gNorm at hN n1 n2 n3
 rw [hq] at hN n1 n2 n3
 generalize gC z=y at *
 have hy1:NN ⟨⟨gY y - y.c0,-y.c1⟩,⟨-y.c2,-y.c3⟩⟩:=NN_all (by simp only [Int.natAbs_neg];unfold gY;omega)
 have hy2:NN ⟨⟨gY y+y.c0,y.c1⟩,⟨y.c2,y.c3⟩⟩:=NN_all (by unfold gY;omega)
 obtain ⟨N,eN⟩:∃ N,N=(mulR z y).c0:=⟨_,rfl⟩
 rw [← eN] at hN
 generalize gY y=Y at *
 unfold mulR at eN n1 n2 n3
 simp only at eN n1 n2 n3
 have k1:=((hm.mul hy2).add (hp.mul hy1))
 have k2:=((hm.mul hy1).add (hp.mul hy2))
 obtain ⟨z0,z1,z2,z3,zd⟩:=z
 obtain ⟨y0,y1,y2,y3,yd⟩:=y
 simp only at *
 have e1:(⟨⟨S - z0 * u,-(z1 * u)⟩,⟨-(z2 * u),-(z3 * u)⟩⟩:H) * ⟨⟨Y+y0,y1⟩,⟨y2,y3⟩⟩+⟨⟨S+z0 * u,z1 * u⟩,⟨z2 * u,z3 * u⟩⟩ * ⟨⟨Y - y0,-y1⟩,⟨-y2,-y3⟩⟩=⟨⟨2 * (S * Y - u * N),0⟩,⟨0,0⟩⟩:=by
  have m1:=congrArg (fun t=>t * (2 * u)) n1
  have m2:=congrArg (fun t=>t * (2 * u)) n2
  have m3:=congrArg (fun t=>t * (2 * u)) n3
  simp only [Int.zero_mul] at m1 m2 m3
  clear n1 n2 n3 k1 k2 hm hp hy1 hy2
  apply H_ext <;> simp only [H.mul_a,H.mul_b,H.add_a,H.add_b,E.mul_a,E.mul_b,E.add_a,E.add_b,three] <;> grind
 have e2:(⟨⟨S - z0 * u,-(z1 * u)⟩,⟨-(z2 * u),-(z3 * u)⟩⟩:H) * ⟨⟨Y - y0,-y1⟩,⟨-y2,-y3⟩⟩+⟨⟨S+z0 * u,z1 * u⟩,⟨z2 * u,z3 * u⟩⟩ * ⟨⟨Y+y0,y1⟩,⟨y2,y3⟩⟩=⟨⟨2 * (S * Y+u * N),0⟩,⟨0,0⟩⟩:=by
  have m1:=congrArg (fun t=>t * (2 * u)) n1
  have m2:=congrArg (fun t=>t * (2 * u)) n2
  have m3:=congrArg (fun t=>t * (2 * u)) n3
  simp only [Int.zero_mul] at m1 m2 m3
  clear n1 n2 n3 k1 k2 hm hp hy1 hy2 e1
  apply H_ext <;> simp only [H.mul_a,H.mul_b,H.add_a,H.add_b,E.mul_a,E.mul_b,E.add_a,E.add_b,three] <;> grind
 rw [e1] at k1
 rw [e2] at k2
 have l1:=k1.int
 have l2:=k2.int
 rcases Int.lt_or_gt_of_ne hN with h | h
 ·have:=Int.mul_le_mul_of_nonneg_left (show 1 ≤ -N by omega) (show 0≤u by omega)
  rw [Int.mul_neg] at this
  omega
 ·have:=Int.mul_le_mul_of_nonneg_left (show 1≤N by omega) (show 0≤u by omega)
  omega
theorem gZ0 {z:Nm} {u S:Int} (hu:0<u) (hS:0≤S) (hm:NN ⟨⟨S - z.c0 * u,-(z.c1 * u)⟩,⟨-(z.c2 * u),-(z.c3 * u)⟩⟩) (hp:NN ⟨⟨S+z.c0 * u,z.c1 * u⟩,⟨z.c2 * u,z.c3 * u⟩⟩):(z.c0.natAbs:Int)≤S+gT z:=by
 have hA:NN ⟨⟨gT z,z.c1⟩,⟨z.c2,z.c3⟩⟩:=NN_all (by unfold gT;omega)
 have hB:NN ⟨⟨gT z,-z.c1⟩,⟨-z.c2,-z.c3⟩⟩:=NN_all (by simp only [Int.natAbs_neg];unfold gT;omega)
 have k1:=(hm.plus (hA.scale (k:=u) (by omega))).to (a':=S - z.c0 * u+u * gT z) (b':=0) (c':=0) (d':=0) rfl (by rw [Int.mul_comm];omega) (by rw [Int.mul_comm];omega) (by rw [Int.mul_comm];omega)
 have k2:=(hp.plus (hB.scale (k:=u) (by omega))).to (a':=S+z.c0 * u+u * gT z) (b':=0) (c':=0) (d':=0) rfl (by rw [Int.mul_neg,Int.mul_comm];omega) (by rw [Int.mul_neg,Int.mul_comm];omega) (by rw [Int.mul_neg,Int.mul_comm];omega)
 have l1:=k1.int
 have l2:=k2.int
 have hSu:S * 1≤S * u:=Int.mul_le_mul_of_nonneg_left (by omega) hS
 have m1:z.c0 * u≤(S+gT z) * u:=by rw [Int.add_mul,Int.mul_comm (gT z)];omega
 have m2:-z.c0 * u≤(S+gT z) * u:=by rw [Int.add_mul,Int.mul_comm (gT z),Int.neg_mul];omega
 have n1:=Int.le_of_mul_le_mul_right m1 hu
 have n2:=Int.le_of_mul_le_mul_right m2 hu
 omega
theorem fdiv_ends {a d:Int} (hd:0<d):a.fdiv d * d≤a∧a<(a.fdiv d+1) * d:=by
 have h1:=Int.mul_fdiv_add_fmod a d
 have h2:=Int.fmod_nonneg_of_pos a hd
 have h3:=Int.fmod_lt_of_pos a hd
 rw [Int.mul_comm] at h1
 rw [Int.add_mul]
 omega
theorem gAgree {x:Nm} {u r2 r3 r6:Int} (hx:Ok x) (h:Ap u r2 r3 r6) (e:(gLo x u r2 r3 r6).fdiv (x.d * u)=(gHi x u r2 r3 r6).fdiv (x.d * u)):Fl x ((gLo x u r2 r3 r6).fdiv (x.d * u)):=by
 have hd:0<x.d * u:=Int.mul_pos hx.pos h.u0
 have h1:=(fdiv_ends (a:=gLo x u r2 r3 r6) hd).1
 have h2:=(fdiv_ends (a:=gHi x u r2 r3 r6) hd).2
 rw [← e] at h2
 exact gFl hx h h1 h2
theorem gDiffer {x:Nm} {u r2 r3 r6:Int} (hx:Ok x) (h:Ap u r2 r3 r6) (h0:x.c1≠0∨x.c2≠0∨x.c3≠0) (e:(gLo x u r2 r3 r6).fdiv (x.d * u)≠(gHi x u r2 r3 r6).fdiv (x.d * u)) :
  ∃ z:Nm,z.c1=x.c1∧z.c2=x.c2∧z.c3=x.c3∧z.d=1∧(z.c0.natAbs:Int)≤gS x+gT x∧u≤gS x * gY (gC z):=by
 have hd:0<x.d * u:=Int.mul_pos hx.pos h.u0
 have hdf:=gHi_gLo x u r2 r3 r6
 have hS:0≤gS x:=by unfold gS;omega
 have f1:=fdiv_ends (a:=gLo x u r2 r3 r6) hd
 have f2:=fdiv_ends (a:=gHi x u r2 r3 r6) hd
 obtain ⟨n,hn⟩:∃ n,n=(gHi x u r2 r3 r6).fdiv (x.d * u):=⟨_,rfl⟩
 obtain ⟨m,hm⟩:∃ n,n=(gLo x u r2 r3 r6).fdiv (x.d * u):=⟨_,rfl⟩
 rw [← hn] at f2 e
 rw [← hm] at f1 e
 have hmn:m<n:=by
  rcases Int.lt_or_le m n with h | h
  ·exact h
  ·exfalso
   have:(n+1) * (x.d * u)≤m * (x.d * u):=Int.mul_le_mul_of_nonneg_right (by omega) (by omega)
   omega
 have h1:(m+1) * (x.d * u)≤n * (x.d * u):=Int.mul_le_mul_of_nonneg_right (by omega) (by omega)
 have hm:=((gHi_NN (x:=x) h).plus (NN_int (k:=gS x - gHi x u r2 r3 r6+n * (x.d * u)) (by omega))).to (a':=gS x - (x.c0 - n * x.d) * u) (b':=-(x.c1 * u)) (c':=-(x.c2 * u)) (d':=-(x.c3 * u)) (by rw [Int.sub_mul,Int.mul_assoc];omega) (by omega) (by omega) (by omega)
 have hp:=((gLo_NN (x:=x) h).plus (NN_int (k:=gS x+gLo x u r2 r3 r6 - n * (x.d * u)) (by omega))).to (a':=gS x+(x.c0 - n * x.d) * u) (b':=x.c1 * u) (c':=x.c2 * u) (d':=x.c3 * u) (by rw [Int.sub_mul,Int.mul_assoc];omega) (by omega) (by omega) (by omega)
 exact ⟨⟨x.c0 - n * x.d,x.c1,x.c2,x.c3,1⟩,rfl,rfl,rfl,rfl,gZ0 (z:=⟨x.c0 - n * x.d,x.c1,x.c2,x.c3,1⟩) h.u0 hS hm hp,gBound (z:=⟨x.c0 - n * x.d,x.c1,x.c2,x.c3,1⟩) h0 rfl h.u0 hm hp⟩
theorem gRatFl {x:Nm} (hx:Ok x) (h1:x.c1=0) (h2:x.c2=0) (h3:x.c3=0):Fl x (x.c0.fdiv x.d):=by
 have f:=fdiv_ends (a:=x.c0) hx.pos
 have e0:s4 0 0 0 0=0:=by decide
 refine ⟨?_,?_⟩
 ·rw [cmp_int hx,h1,h2,h3,show x.c0.fdiv x.d * x.d - x.c0 = -(x.c0 - x.c0.fdiv x.d * x.d) by omega,s4_neg]
  have:=(NN_all (m:=x.c0 - x.c0.fdiv x.d * x.d) (b:=0) (c:=0) (d:=0) (by simp;omega)).sgn
  omega
 ·rw [cmp_int hx,h1,h2,h3]
  rw [show (-0:Int)=0 from rfl,s4_pos (by simp;omega)]
  decide
end Go.Proofs.YtlhddcingeneaaaGreatDoor
