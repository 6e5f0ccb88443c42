import Derived.Outline
/- The order of the numbers a+b √2+c √3+d √6 with whole coefficients: positive ones are closed under sums and products,and each number is positive,0,or the opposite of a positive one. -/
set_option linter.unusedVariables false
set_option linter.unusedSimpArgs false
set_option maxRecDepth 100000
set_option maxHeartbeats 8000000
namespace Go.Proofs.YtlhddcingeneaaaGreatDoor
def P0 (x:Int):Prop:=0<x
theorem zadd {x y:Int} (h1:P0 x) (h2:P0 y):P0 (x+y):=by unfold P0 at *;omega
theorem zmul {x y:Int} (h1:P0 x) (h2:P0 y):P0 (x * y):=Int.mul_pos h1 h2
theorem ztri (x:Int):x=0∨P0 x∨P0 (-x):=by unfold P0;omega
theorem zzero (h:P0 (0:Int)):False:=by unfold P0 at h;omega
theorem zm:P0 2:=by unfold P0;decide
theorem sq_mod3 (x:Nat) (h:x * x % 3=0):x % 3=0:=by
 rw [Nat.mul_mod] at h
 have h3:x % 3<3:=Nat.mod_lt _ (by decide)
 generalize x % 3=r at *
 match r,h3 with
 | 0,_=>rfl
 | 1,_=>simp at h
 | 2,_=>simp at h
theorem sq_mod2 (x:Nat) (h:x * x % 2=0):x % 2=0:=by
 rw [Nat.mul_mod] at h
 have h3:x % 2<2:=Nat.mod_lt _ (by decide)
 generalize x % 2=r at *
 match r,h3 with
 | 0,_=>rfl
 | 1,_=>simp at h
theorem irr2n (n:Nat):∀ x y:Nat,y≤n→x * x=2 * (y * y)→y=0:=by
 induction n with
 | zero=>intro x y h _;omega
 | succ n ih =>
  intro x y h e
  have h2:=sq_mod2 x (by omega)
  obtain ⟨z,rfl⟩:∃ z,x=2 * z:=⟨x / 2,by omega⟩
  have e2:y * y=2 * (z * z):=by grind
  by_cases hy:y=0
  ·exact hy
  ·have hz:z<y:=by
    rcases Nat.lt_or_ge z y with h | h
    ·exact h
    ·have:=Nat.mul_le_mul h h
     have:0<y * y:=Nat.mul_pos (by omega) (by omega)
     omega
   have:=ih y z (by omega) e2
   subst this
   exact absurd ((Nat.mul_eq_zero.1 (by simpa using e2)).elim id id) hy
theorem irr3n (n:Nat):∀ x y:Nat,y≤n→x * x=3 * (y * y)→y=0:=by
 induction n with
 | zero=>intro x y h _;omega
 | succ n ih =>
  intro x y h e
  have h2:=sq_mod3 x (by omega)
  obtain ⟨z,rfl⟩:∃ z,x=3 * z:=⟨x / 3,by omega⟩
  have e2:y * y=3 * (z * z):=by grind
  by_cases hy:y=0
  ·exact hy
  ·have hz:z<y:=by
    rcases Nat.lt_or_ge z y with h | h
    ·exact h
    ·have:=Nat.mul_le_mul h h
     have:0<y * y:=Nat.mul_pos (by omega) (by omega)
     omega
   have:=ih y z (by omega) e2
   subst this
   exact absurd ((Nat.mul_eq_zero.1 (by simpa using e2)).elim id id) hy
theorem irr6n (n:Nat):∀ x y:Nat,y≤n→x * x=6 * (y * y)→y=0:=by
 induction n with
 | zero=>intro x y h _;omega
 | succ n ih =>
  intro x y h e
  have h2:=sq_mod3 x (by omega)
  obtain ⟨z,rfl⟩:∃ z,x=3 * z:=⟨x / 3,by omega⟩
  have e2:3 * (z * z)=2 * (y * y):=by grind
  have h3:=sq_mod3 y (by omega)
  obtain ⟨v,rfl⟩:∃ v,y=3 * v:=⟨y / 3,by omega⟩
  have e3:z * z=6 * (v * v):=by grind
  by_cases hy:v=0
  ·rw [hy]
  ·exact absurd (ih z v (by omega) e3) hy
theorem irr2 (x y:Int) (h:x * x=2 * (y * y)):y=0:=by
 have h1:x.natAbs * x.natAbs=2 * (y.natAbs * y.natAbs):=by
  have h2:((x.natAbs * x.natAbs:Nat):Int)=((2 * (y.natAbs * y.natAbs):Nat):Int):=by
   rw [Int.natAbs_mul_self,Int.natCast_mul,Int.natAbs_mul_self];exact h
  exact Int.ofNat.inj h2
 have:=irr2n y.natAbs x.natAbs y.natAbs (Nat.le_refl _) h1
 omega
theorem irr3 (x y:Int) (h:x * x=3 * (y * y)):y=0:=by
 have h1:x.natAbs * x.natAbs=3 * (y.natAbs * y.natAbs):=by
  have h2:((x.natAbs * x.natAbs:Nat):Int)=((3 * (y.natAbs * y.natAbs):Nat):Int):=by
   rw [Int.natAbs_mul_self,Int.natCast_mul,Int.natAbs_mul_self];exact h
  exact Int.ofNat.inj h2
 have:=irr3n y.natAbs x.natAbs y.natAbs (Nat.le_refl _) h1
 omega
theorem irr6 (x y:Int) (h:x * x=6 * (y * y)):y=0:=by
 have h1:x.natAbs * x.natAbs=6 * (y.natAbs * y.natAbs):=by
  have h2:((x.natAbs * x.natAbs:Nat):Int)=((6 * (y.natAbs * y.natAbs):Nat):Int):=by
   rw [Int.natAbs_mul_self,Int.natCast_mul,Int.natAbs_mul_self];exact h
  exact Int.ofNat.inj h2
 have:=irr6n y.natAbs x.natAbs y.natAbs (Nat.le_refl _) h1
 omega
theorem irr_pair (a b c d:Int) (h1:a * a+2 * (b * b)=3 * (c * c+2 * (d * d))) (h2:a * b+b * a=3 * (c * d+d * c)):c=0∧d=0:=by
 have h3:(a * a - 2 * (b * b) - 3 * (c * c - 2 * (d * d))) * (a * a - 2 * (b * b)+3 * (c * c - 2 * (d * d)))=0:=by grind
 rcases Int.mul_eq_zero.1 h3 with h | h
 ·exact ⟨irr3 a c (by omega),irr3 b d (by omega)⟩
 ·have hd:d=0:=irr6 a d (by omega)
  refine ⟨irr6 (2 * b) c ?_,hd⟩
  have e1:a * a=6 * (d * d):=by omega
  have e2:d * d=0:=by rw [hd];rfl
  have e3:2 * b * (2 * b)=4 * (b * b):=by grind
  omega
theorem zirr (x y:Int) (h:x * x=2 * (y * y)):y=0:=irr2 x y h
theorem zsq {x:Int} (h:x≠0):P0 (x * x):=by
 rcases ztri x with h1 | h1 | h1
 ·exact absurd h1 h
 ·exact zmul h1 h1
 ·have:=zmul h1 h1
  rwa [show -x * -x=x * x by grind] at this
theorem zneg {x:Int} (h1:P0 x) (h2:P0 (-x)):False:=by
 have:=zadd h1 h2
 rw [show x + -x=0 by grind] at this
 exact zzero this
theorem zne {x:Int} (h1:P0 x):x≠0:=fun h=>by rw [h] at h1;exact zzero h1
theorem zlt {u v:Int} (hu:P0 u) (h:P0 (u * u - v * v)):P0 (u+v):=by
 have hf:u * u - v * v=(u+v) * (u - v):=by grind
 rcases ztri (u+v) with h1 | h1 | h1
 ·rw [hf,h1,show (0:Int) * (u - v)=0 by grind] at h
  exact (zzero h).elim
 ·exact h1
 ·exfalso
  rcases ztri (u - v) with h2 | h2 | h2
  ·rw [hf,h2,show (u+v) * (0:Int)=0 by grind] at h
   exact zzero h
  ·have:=zmul h1 h2
   exact zneg h (by rwa [show -(u+v) * (u - v) = -(u * u - v * v) by grind] at this)
  ·have:=zadd h1 h2
   exact zneg (zadd hu hu) (by rwa [show -(u+v) + -(u - v) = -(u+u) by grind] at this)
theorem znn {u w:Int} (hu:P0 u) (hw:P0 w) (b:Int):P0 (u+b * b * w):=by
 by_cases hb:b=0
 ·rw [hb,show u+(0:Int) * 0 * w=u by grind];exact hu
 ·exact zadd hu (zmul (zsq hb) hw)
structure E where
 a:Int
 b:Int
theorem E.ext {x y:E} (h1:x.a=y.a) (h2:x.b=y.b):x=y:=by
 cases x;cases y;simp only at h1 h2;rw [h1,h2]
instance:Zero E:=⟨⟨0,0⟩⟩
instance:Add E:=⟨fun x y=>⟨x.a+y.a,x.b+y.b⟩⟩
instance:Neg E:=⟨fun x=>⟨-x.a,-x.b⟩⟩
instance:Sub E:=⟨fun x y=>⟨x.a - y.a,x.b - y.b⟩⟩
instance:Mul E:=⟨fun x y=>⟨x.a * y.a+(2:Int) * (x.b * y.b),x.a * y.b+x.b * y.a⟩⟩
theorem E.zero_a:(0:E).a=0:=rfl
theorem E.zero_b:(0:E).b=0:=rfl
theorem E.add_a (x y:E):(x+y).a=x.a+y.a:=rfl
theorem E.add_b (x y:E):(x+y).b=x.b+y.b:=rfl
theorem E.neg_a (x:E):(-x).a = -x.a:=rfl
theorem E.neg_b (x:E):(-x).b = -x.b:=rfl
theorem E.sub_a (x y:E):(x - y).a=x.a - y.a:=rfl
theorem E.sub_b (x y:E):(x - y).b=x.b - y.b:=rfl
theorem E.mul_a (x y:E):(x * y).a=x.a * y.a+(2:Int) * (x.b * y.b):=rfl
theorem E.mul_b (x y:E):(x * y).b=x.a * y.b+x.b * y.a:=rfl
def eN (x:E):Int:=x.a * x.a - (2:Int) * (x.b * x.b)
def eA (x:E):Prop:=P0 (eN x)∧P0 x.a
def eB (x:E):Prop:=P0 (-eN x)∧P0 x.b
def P1 (x:E):Prop:=eA x∨eB x
theorem eN_neg (x:E):eN (-x)=eN x:=by
 unfold eN
 rw [E.neg_a,E.neg_b]
 grind
theorem eN_mul (x y:E):eN (x * y)=eN x * eN y:=by
 unfold eN
 rw [E.mul_a,E.mul_b]
 grind
theorem ezero (h:P1 (0:E)):False:=by
 rcases h with h | h
 ·exact zzero h.2
 ·exact zzero h.2
theorem eN_zero {x:E} (h:eN x=0):x=0:=by
 have h1:x.a * x.a=(2:Int) * (x.b * x.b):=by
  have h2:x.a * x.a=eN x+(2:Int) * (x.b * x.b):=by unfold eN;grind
  rw [h2,h]
  grind
 have hb:=zirr _ _ h1
 have ha:x.a=0:=by
  by_cases ha:x.a=0
  ·exact ha
  ·have h3:=zsq ha
   rw [h1,hb,show (2:Int) * ((0:Int) * 0)=0 by grind] at h3
   exact (zzero h3).elim
 exact E.ext ha hb
theorem eA_pos {x:E} (h:P0 (eN x)):x.a≠0:=fun ha=>by
 by_cases hb:x.b=0
 ·unfold eN at h
  rw [ha,hb,show (0:Int) * 0 - (2:Int) * (0 * 0)=0 by grind] at h
  exact zzero h
 ·refine zneg (zmul zm (zsq hb)) ?_
  unfold eN at h
  rwa [ha,show (0:Int) * 0 - (2:Int) * (x.b * x.b) = -((2:Int) * (x.b * x.b)) by grind] at h
theorem eB_pos {x:E} (h:P0 (-eN x)):x.b≠0:=fun hb=>by
 by_cases ha:x.a=0
 ·unfold eN at h
  rw [ha,hb,show -((0:Int) * 0 - (2:Int) * (0 * 0))=0 by grind] at h
  exact zzero h
 ·refine zneg (zsq ha) ?_
  unfold eN at h
  rwa [hb,show -(x.a * x.a - (2:Int) * ((0:Int) * 0)) = -(x.a * x.a) by grind] at h
theorem etri (x:E):x=0∨P1 x∨P1 (-x):=by
 rcases ztri (eN x) with h | h | h
 ·exact .inl (eN_zero h)
 ·rcases ztri x.a with h1 | h1 | h1
  ·exact absurd h1 (eA_pos h)
  ·exact .inr (.inl (.inl ⟨h,h1⟩))
  ·exact .inr (.inr (.inl ⟨by rwa [eN_neg],h1⟩))
 ·rcases ztri x.b with h1 | h1 | h1
  ·exact absurd h1 (eB_pos h)
  ·exact .inr (.inl (.inr ⟨h,h1⟩))
  ·exact .inr (.inr (.inr ⟨by rwa [eN_neg],h1⟩))
theorem eA_dot {x y:E} (hx:eA x) (hy:eA y) (s:Int) (hs:s * s=((2:Int) * (x.b * y.b)) * ((2:Int) * (x.b * y.b))):P0 (x.a * y.a+s):=by
 refine zlt (zmul hx.2 hy.2) ?_
 have h:=znn (zmul hx.1 (zsq (zne hy.2))) (zmul zm hy.1) x.b
 rw [hs]
 rwa [show eN x * (y.a * y.a)+x.b * x.b * ((2:Int) * eN y)=x.a * y.a * (x.a * y.a) - (2:Int) * (x.b * y.b) * ((2:Int) * (x.b * y.b)) by unfold eN;grind] at h
theorem eB_dot {x y:E} (hx:eB x) (hy:eB y) (s:Int) (hs:s * s=x.a * y.a * (x.a * y.a)):P0 ((2:Int) * (x.b * y.b)+s):=by
 refine zlt (zmul zm (zmul hx.2 hy.2)) ?_
 have h:=znn (zmul hx.1 (zmul zm (zsq (zne hy.2)))) hy.1 x.a
 rw [hs]
 rwa [show -eN x * ((2:Int) * (y.b * y.b))+x.a * x.a * -eN y=(2:Int) * (x.b * y.b) * ((2:Int) * (x.b * y.b)) - x.a * y.a * (x.a * y.a) by unfold eN;grind] at h
theorem eAB_dot {x y:E} (hx:eA x) (hy:eB y):P0 (x.a * y.b+x.b * y.a):=by
 refine zlt (zmul hx.2 hy.2) ?_
 have h:=znn (zmul (zsq (zne hy.2)) hx.1) hy.1 x.b
 rwa [show y.b * y.b * eN x+x.b * x.b * -eN y=x.a * y.b * (x.a * y.b) - x.b * y.a * (x.b * y.a) by unfold eN;grind] at h
theorem E.comm (x y:E):x * y=y * x:=by
 apply E.ext
 ·rw [E.mul_a,E.mul_a];grind
 ·rw [E.mul_b,E.mul_b];grind
theorem emul {x y:E} (hx:P1 x) (hy:P1 y):P1 (x * y):=by
 have AB:∀ {x y:E},eA x→eB y→eB (x * y):=fun {x y} hx hy=>by
  refine ⟨?_,by rw [E.mul_b];exact eAB_dot hx hy⟩
  rw [eN_mul,show -(eN x * eN y)=eN x * -eN y by grind]
  exact zmul hx.1 hy.1
 rcases hx with hx | hx <;> rcases hy with hy | hy
 ·refine .inl ⟨by rw [eN_mul];exact zmul hx.1 hy.1,?_⟩
  rw [E.mul_a]
  exact eA_dot hx hy _ rfl
 ·exact .inr (AB hx hy)
 ·rw [E.comm]
  exact .inr (AB hy hx)
 ·refine .inl ⟨?_,?_⟩
  ·rw [eN_mul,show eN x * eN y = -eN x * -eN y by grind]
   exact zmul hx.1 hy.1
  ·rw [E.mul_a,show x.a * y.a+(2:Int) * (x.b * y.b)=(2:Int) * (x.b * y.b)+x.a * y.a by grind]
   exact eB_dot hx hy _ rfl
theorem eA_add {x y:E} (hx:eA x) (hy:eA y):eA (x+y):=by
 refine ⟨?_,zadd hx.2 hy.2⟩
 have h:=eA_dot hx hy (-((2:Int) * (x.b * y.b))) (by grind)
 have h2:=zadd (zadd hx.1 hy.1) (zadd h h)
 rwa [show eN x+eN y+(x.a * y.a + -((2:Int) * (x.b * y.b))+(x.a * y.a + -((2:Int) * (x.b * y.b))))=eN (x+y) by
  unfold eN;rw [E.add_a,E.add_b];grind] at h2
theorem eB_add {x y:E} (hx:eB x) (hy:eB y):eB (x+y):=by
 refine ⟨?_,zadd hx.2 hy.2⟩
 have h:=eB_dot hx hy (-(x.a * y.a)) (by grind)
 have h2:=zadd (zadd hx.1 hy.1) (zadd h h)
 rwa [show -eN x + -eN y+((2:Int) * (x.b * y.b) + -(x.a * y.a)+((2:Int) * (x.b * y.b) + -(x.a * y.a))) = -eN (x+y) by
  unfold eN;rw [E.add_a,E.add_b];grind] at h2
theorem eadd {x y:E} (hx:P1 x) (hy:P1 y):P1 (x+y):=by
 have ec:∀ x y:E,x+y=y+x:=fun x y=>by
  apply E.ext
  ·rw [E.add_a,E.add_a];grind
  ·rw [E.add_b,E.add_b];grind
 have AB:∀ {x y:E},eA x→eB y→P1 (x+y):=fun {x y} hx hy=>by
  rcases etri (x+y) with h | h | h
  ·exfalso
   have e:y = -x:=by
    have ha:=congrArg E.a h
    have hb:=congrArg E.b h
    rw [E.add_a,E.zero_a] at ha
    rw [E.add_b,E.zero_b] at hb
    apply E.ext
    ·rw [E.neg_a,show y.a=x.a+y.a + -x.a by grind,ha];grind
    ·rw [E.neg_b,show y.b=x.b+y.b + -x.b by grind,hb];grind
   rw [e,eB,eN_neg] at hy
   exact zneg hx.1 hy.1
  ·exact h
  ·exfalso
   rcases h with h | h
   ·have h3:=eA_add hx h
    rw [show x + -(x+y) = -y by
     apply E.ext
     ·simp only [E.add_a,E.neg_a];grind
     ·simp only [E.add_b,E.neg_b];grind,eA,eN_neg] at h3
    exact zneg h3.1 hy.1
   ·have h3:=eB_add hy h
    rw [show y + -(x+y) = -x by
     apply E.ext
     ·simp only [E.add_a,E.neg_a];grind
     ·simp only [E.add_b,E.neg_b];grind,eB,eN_neg] at h3
    exact zneg hx.1 h3.1
 rcases hx with hx | hx <;> rcases hy with hy | hy
 ·exact .inl (eA_add hx hy)
 ·exact AB hx hy
 ·rw [ec];exact AB hy hx
 ·exact .inr (eB_add hx hy)
def three:E:=⟨3,0⟩
theorem em:P1 three:=by
 left
 constructor <;> (unfold P0;decide)
theorem eirr (x y:E) (h:x * x=three * (y * y)):y=0:=by
 have h1:=congrArg E.a h
 have h2:=congrArg E.b h
 simp only [E.mul_a,E.mul_b,three] at h1 h2
 have h3:=irr_pair x.a x.b y.a y.b (by omega) (by omega)
 exact E.ext h3.1 h3.2
theorem esq {x:E} (h:x≠0):P1 (x * x):=by
 rcases etri x with h1 | h1 | h1
 ·exact absurd h1 h
 ·exact emul h1 h1
 ·have:=emul h1 h1
  rwa [show -x * -x=x * x by (apply E.ext <;> simp only [E.mul_a,E.mul_b,E.add_a,E.add_b,E.neg_a,E.neg_b,E.sub_a,E.sub_b,E.zero_a,E.zero_b,three] <;> grind)] at this
theorem eneg {x:E} (h1:P1 x) (h2:P1 (-x)):False:=by
 have:=eadd h1 h2
 rw [show x + -x=0 by (apply E.ext <;> simp only [E.mul_a,E.mul_b,E.add_a,E.add_b,E.neg_a,E.neg_b,E.sub_a,E.sub_b,E.zero_a,E.zero_b,three] <;> grind)] at this
 exact ezero this
theorem ene {x:E} (h1:P1 x):x≠0:=fun h=>by rw [h] at h1;exact ezero h1
theorem elt {u v:E} (hu:P1 u) (h:P1 (u * u - v * v)):P1 (u+v):=by
 have hf:u * u - v * v=(u+v) * (u - v):=by (apply E.ext <;> simp only [E.mul_a,E.mul_b,E.add_a,E.add_b,E.neg_a,E.neg_b,E.sub_a,E.sub_b,E.zero_a,E.zero_b,three] <;> grind)
 rcases etri (u+v) with h1 | h1 | h1
 ·rw [hf,h1,show (0:E) * (u - v)=0 by (apply E.ext <;> simp only [E.mul_a,E.mul_b,E.add_a,E.add_b,E.neg_a,E.neg_b,E.sub_a,E.sub_b,E.zero_a,E.zero_b,three] <;> grind)] at h
  exact (ezero h).elim
 ·exact h1
 ·exfalso
  rcases etri (u - v) with h2 | h2 | h2
  ·rw [hf,h2,show (u+v) * (0:E)=0 by (apply E.ext <;> simp only [E.mul_a,E.mul_b,E.add_a,E.add_b,E.neg_a,E.neg_b,E.sub_a,E.sub_b,E.zero_a,E.zero_b,three] <;> grind)] at h
   exact ezero h
  ·have:=emul h1 h2
   exact eneg h (by rwa [show -(u+v) * (u - v) = -(u * u - v * v) by (apply E.ext <;> simp only [E.mul_a,E.mul_b,E.add_a,E.add_b,E.neg_a,E.neg_b,E.sub_a,E.sub_b,E.zero_a,E.zero_b,three] <;> grind)] at this)
  ·have:=eadd h1 h2
   exact eneg (eadd hu hu) (by rwa [show -(u+v) + -(u - v) = -(u+u) by (apply E.ext <;> simp only [E.mul_a,E.mul_b,E.add_a,E.add_b,E.neg_a,E.neg_b,E.sub_a,E.sub_b,E.zero_a,E.zero_b,three] <;> grind)] at this)
theorem enn {u w:E} (hu:P1 u) (hw:P1 w) (b:E):P1 (u+b * b * w):=by
 by_cases hb:b=0
 ·rw [hb,show u+(0:E) * 0 * w=u by (apply E.ext <;> simp only [E.mul_a,E.mul_b,E.add_a,E.add_b,E.neg_a,E.neg_b,E.sub_a,E.sub_b,E.zero_a,E.zero_b,three] <;> grind)];exact hu
 ·exact eadd hu (emul (esq hb) hw)
structure H where
 a:E
 b:E
theorem H.ext {x y:H} (h1:x.a=y.a) (h2:x.b=y.b):x=y:=by
 cases x;cases y;simp only at h1 h2;rw [h1,h2]
instance:Zero H:=⟨⟨0,0⟩⟩
instance:Add H:=⟨fun x y=>⟨x.a+y.a,x.b+y.b⟩⟩
instance:Neg H:=⟨fun x=>⟨-x.a,-x.b⟩⟩
instance:Sub H:=⟨fun x y=>⟨x.a - y.a,x.b - y.b⟩⟩
instance:Mul H:=⟨fun x y=>⟨x.a * y.a+three * (x.b * y.b),x.a * y.b+x.b * y.a⟩⟩
theorem H.zero_a:(0:H).a=0:=rfl
theorem H.zero_b:(0:H).b=0:=rfl
theorem H.add_a (x y:H):(x+y).a=x.a+y.a:=rfl
theorem H.add_b (x y:H):(x+y).b=x.b+y.b:=rfl
theorem H.neg_a (x:H):(-x).a = -x.a:=rfl
theorem H.neg_b (x:H):(-x).b = -x.b:=rfl
theorem H.sub_a (x y:H):(x - y).a=x.a - y.a:=rfl
theorem H.sub_b (x y:H):(x - y).b=x.b - y.b:=rfl
theorem H.mul_a (x y:H):(x * y).a=x.a * y.a+three * (x.b * y.b):=rfl
theorem H.mul_b (x y:H):(x * y).b=x.a * y.b+x.b * y.a:=rfl
def hN (x:H):E:=x.a * x.a - three * (x.b * x.b)
def hA (x:H):Prop:=P1 (hN x)∧P1 x.a
def hB (x:H):Prop:=P1 (-hN x)∧P1 x.b
def P2 (x:H):Prop:=hA x∨hB x
theorem hN_neg (x:H):hN (-x)=hN x:=by
 unfold hN
 rw [H.neg_a,H.neg_b]
 (apply E.ext <;> simp only [E.mul_a,E.mul_b,E.add_a,E.add_b,E.neg_a,E.neg_b,E.sub_a,E.sub_b,E.zero_a,E.zero_b,three] <;> grind)
theorem hN_mul (x y:H):hN (x * y)=hN x * hN y:=by
 unfold hN
 rw [H.mul_a,H.mul_b]
 (apply E.ext <;> simp only [E.mul_a,E.mul_b,E.add_a,E.add_b,E.neg_a,E.neg_b,E.sub_a,E.sub_b,E.zero_a,E.zero_b,three] <;> grind)
theorem hzero (h:P2 (0:H)):False:=by
 rcases h with h | h
 ·exact ezero h.2
 ·exact ezero h.2
theorem hN_zero {x:H} (h:hN x=0):x=0:=by
 have h1:x.a * x.a=three * (x.b * x.b):=by
  have h2:x.a * x.a=hN x+three * (x.b * x.b):=by unfold hN;(apply E.ext <;> simp only [E.mul_a,E.mul_b,E.add_a,E.add_b,E.neg_a,E.neg_b,E.sub_a,E.sub_b,E.zero_a,E.zero_b,three] <;> grind)
  rw [h2,h]
  (apply E.ext <;> simp only [E.mul_a,E.mul_b,E.add_a,E.add_b,E.neg_a,E.neg_b,E.sub_a,E.sub_b,E.zero_a,E.zero_b,three] <;> grind)
 have hb:=eirr _ _ h1
 have ha:x.a=0:=by
  by_cases ha:x.a=0
  ·exact ha
  ·have h3:=esq ha
   rw [h1,hb,show three * ((0:E) * 0)=0 by (apply E.ext <;> simp only [E.mul_a,E.mul_b,E.add_a,E.add_b,E.neg_a,E.neg_b,E.sub_a,E.sub_b,E.zero_a,E.zero_b,three] <;> grind)] at h3
   exact (ezero h3).elim
 exact H.ext ha hb
theorem hA_pos {x:H} (h:P1 (hN x)):x.a≠0:=fun ha=>by
 by_cases hb:x.b=0
 ·unfold hN at h
  rw [ha,hb,show (0:E) * 0 - three * (0 * 0)=0 by (apply E.ext <;> simp only [E.mul_a,E.mul_b,E.add_a,E.add_b,E.neg_a,E.neg_b,E.sub_a,E.sub_b,E.zero_a,E.zero_b,three] <;> grind)] at h
  exact ezero h
 ·refine eneg (emul em (esq hb)) ?_
  unfold hN at h
  rwa [ha,show (0:E) * 0 - three * (x.b * x.b) = -(three * (x.b * x.b)) by (apply E.ext <;> simp only [E.mul_a,E.mul_b,E.add_a,E.add_b,E.neg_a,E.neg_b,E.sub_a,E.sub_b,E.zero_a,E.zero_b,three] <;> grind)] at h
theorem hB_pos {x:H} (h:P1 (-hN x)):x.b≠0:=fun hb=>by
 by_cases ha:x.a=0
 ·unfold hN at h
  rw [ha,hb,show -((0:E) * 0 - three * (0 * 0))=0 by (apply E.ext <;> simp only [E.mul_a,E.mul_b,E.add_a,E.add_b,E.neg_a,E.neg_b,E.sub_a,E.sub_b,E.zero_a,E.zero_b,three] <;> grind)] at h
  exact ezero h
 ·refine eneg (esq ha) ?_
  unfold hN at h
  rwa [hb,show -(x.a * x.a - three * ((0:E) * 0)) = -(x.a * x.a) by (apply E.ext <;> simp only [E.mul_a,E.mul_b,E.add_a,E.add_b,E.neg_a,E.neg_b,E.sub_a,E.sub_b,E.zero_a,E.zero_b,three] <;> grind)] at h
theorem htri (x:H):x=0∨P2 x∨P2 (-x):=by
 rcases etri (hN x) with h | h | h
 ·exact .inl (hN_zero h)
 ·rcases etri x.a with h1 | h1 | h1
  ·exact absurd h1 (hA_pos h)
  ·exact .inr (.inl (.inl ⟨h,h1⟩))
  ·exact .inr (.inr (.inl ⟨by rwa [hN_neg],h1⟩))
 ·rcases etri x.b with h1 | h1 | h1
  ·exact absurd h1 (hB_pos h)
  ·exact .inr (.inl (.inr ⟨h,h1⟩))
  ·exact .inr (.inr (.inr ⟨by rwa [hN_neg],h1⟩))
theorem hA_dot {x y:H} (hx:hA x) (hy:hA y) (s:E) (hs:s * s=(three * (x.b * y.b)) * (three * (x.b * y.b))):P1 (x.a * y.a+s):=by
 refine elt (emul hx.2 hy.2) ?_
 have h:=enn (emul hx.1 (esq (ene hy.2))) (emul em hy.1) x.b
 rw [hs]
 rwa [show hN x * (y.a * y.a)+x.b * x.b * (three * hN y)=x.a * y.a * (x.a * y.a) - three * (x.b * y.b) * (three * (x.b * y.b)) by unfold hN;(apply E.ext <;> simp only [E.mul_a,E.mul_b,E.add_a,E.add_b,E.neg_a,E.neg_b,E.sub_a,E.sub_b,E.zero_a,E.zero_b,three] <;> grind)] at h
theorem hB_dot {x y:H} (hx:hB x) (hy:hB y) (s:E) (hs:s * s=x.a * y.a * (x.a * y.a)):P1 (three * (x.b * y.b)+s):=by
 refine elt (emul em (emul hx.2 hy.2)) ?_
 have h:=enn (emul hx.1 (emul em (esq (ene hy.2)))) hy.1 x.a
 rw [hs]
 rwa [show -hN x * (three * (y.b * y.b))+x.a * x.a * -hN y=three * (x.b * y.b) * (three * (x.b * y.b)) - x.a * y.a * (x.a * y.a) by unfold hN;(apply E.ext <;> simp only [E.mul_a,E.mul_b,E.add_a,E.add_b,E.neg_a,E.neg_b,E.sub_a,E.sub_b,E.zero_a,E.zero_b,three] <;> grind)] at h
theorem hAB_dot {x y:H} (hx:hA x) (hy:hB y):P1 (x.a * y.b+x.b * y.a):=by
 refine elt (emul hx.2 hy.2) ?_
 have h:=enn (emul (esq (ene hy.2)) hx.1) hy.1 x.b
 rwa [show y.b * y.b * hN x+x.b * x.b * -hN y=x.a * y.b * (x.a * y.b) - x.b * y.a * (x.b * y.a) by unfold hN;(apply E.ext <;> simp only [E.mul_a,E.mul_b,E.add_a,E.add_b,E.neg_a,E.neg_b,E.sub_a,E.sub_b,E.zero_a,E.zero_b,three] <;> grind)] at h
theorem H.comm (x y:H):x * y=y * x:=by
 apply H.ext
 ·rw [H.mul_a,H.mul_a];(apply E.ext <;> simp only [E.mul_a,E.mul_b,E.add_a,E.add_b,E.neg_a,E.neg_b,E.sub_a,E.sub_b,E.zero_a,E.zero_b,three] <;> grind)
 ·rw [H.mul_b,H.mul_b];(apply E.ext <;> simp only [E.mul_a,E.mul_b,E.add_a,E.add_b,E.neg_a,E.neg_b,E.sub_a,E.sub_b,E.zero_a,E.zero_b,three] <;> grind)
theorem hmul {x y:H} (hx:P2 x) (hy:P2 y):P2 (x * y):=by
 have AB:∀ {x y:H},hA x→hB y→hB (x * y):=fun {x y} hx hy=>by
  refine ⟨?_,by rw [H.mul_b];exact hAB_dot hx hy⟩
  rw [hN_mul,show -(hN x * hN y)=hN x * -hN y by (apply E.ext <;> simp only [E.mul_a,E.mul_b,E.add_a,E.add_b,E.neg_a,E.neg_b,E.sub_a,E.sub_b,E.zero_a,E.zero_b,three] <;> grind)]
  exact emul hx.1 hy.1
 rcases hx with hx | hx <;> rcases hy with hy | hy
 ·refine .inl ⟨by rw [hN_mul];exact emul hx.1 hy.1,?_⟩
  rw [H.mul_a]
  exact hA_dot hx hy _ rfl
 ·exact .inr (AB hx hy)
 ·rw [H.comm]
  exact .inr (AB hy hx)
 ·refine .inl ⟨?_,?_⟩
  ·rw [hN_mul,show hN x * hN y = -hN x * -hN y by (apply E.ext <;> simp only [E.mul_a,E.mul_b,E.add_a,E.add_b,E.neg_a,E.neg_b,E.sub_a,E.sub_b,E.zero_a,E.zero_b,three] <;> grind)]
   exact emul hx.1 hy.1
  ·rw [H.mul_a,show x.a * y.a+three * (x.b * y.b)=three * (x.b * y.b)+x.a * y.a by (apply E.ext <;> simp only [E.mul_a,E.mul_b,E.add_a,E.add_b,E.neg_a,E.neg_b,E.sub_a,E.sub_b,E.zero_a,E.zero_b,three] <;> grind)]
   exact hB_dot hx hy _ rfl
theorem hA_add {x y:H} (hx:hA x) (hy:hA y):hA (x+y):=by
 refine ⟨?_,eadd hx.2 hy.2⟩
 have h:=hA_dot hx hy (-(three * (x.b * y.b))) (by (apply E.ext <;> simp only [E.mul_a,E.mul_b,E.add_a,E.add_b,E.neg_a,E.neg_b,E.sub_a,E.sub_b,E.zero_a,E.zero_b,three] <;> grind))
 have h2:=eadd (eadd hx.1 hy.1) (eadd h h)
 rwa [show hN x+hN y+(x.a * y.a + -(three * (x.b * y.b))+(x.a * y.a + -(three * (x.b * y.b))))=hN (x+y) by
  unfold hN;rw [H.add_a,H.add_b];(apply E.ext <;> simp only [E.mul_a,E.mul_b,E.add_a,E.add_b,E.neg_a,E.neg_b,E.sub_a,E.sub_b,E.zero_a,E.zero_b,three] <;> grind)] at h2
theorem hB_add {x y:H} (hx:hB x) (hy:hB y):hB (x+y):=by
 refine ⟨?_,eadd hx.2 hy.2⟩
 have h:=hB_dot hx hy (-(x.a * y.a)) (by (apply E.ext <;> simp only [E.mul_a,E.mul_b,E.add_a,E.add_b,E.neg_a,E.neg_b,E.sub_a,E.sub_b,E.zero_a,E.zero_b,three] <;> grind))
 have h2:=eadd (eadd hx.1 hy.1) (eadd h h)
 rwa [show -hN x + -hN y+(three * (x.b * y.b) + -(x.a * y.a)+(three * (x.b * y.b) + -(x.a * y.a))) = -hN (x+y) by
  unfold hN;rw [H.add_a,H.add_b];(apply E.ext <;> simp only [E.mul_a,E.mul_b,E.add_a,E.add_b,E.neg_a,E.neg_b,E.sub_a,E.sub_b,E.zero_a,E.zero_b,three] <;> grind)] at h2
theorem hnot {x:H} (h:P2 x) (h2:P2 (-x)):False:=by
 rcases h with h | h <;> rcases h2 with h2 | h2
 ·exact eneg h.2 h2.2
 ·rw [hB,hN_neg] at h2;exact eneg h.1 h2.1
 ·rw [hA,hN_neg] at h2;exact eneg h2.1 h.1
 ·exact eneg h.2 h2.2
theorem hadd {x y:H} (hx:P2 x) (hy:P2 y):P2 (x+y):=by
 have ec:∀ x y:H,x+y=y+x:=fun x y=>by
  apply H.ext
  ·rw [H.add_a,H.add_a];(apply E.ext <;> simp only [E.mul_a,E.mul_b,E.add_a,E.add_b,E.neg_a,E.neg_b,E.sub_a,E.sub_b,E.zero_a,E.zero_b,three] <;> grind)
  ·rw [H.add_b,H.add_b];(apply E.ext <;> simp only [E.mul_a,E.mul_b,E.add_a,E.add_b,E.neg_a,E.neg_b,E.sub_a,E.sub_b,E.zero_a,E.zero_b,three] <;> grind)
 have AB:∀ {x y:H},hA x→hB y→P2 (x+y):=fun {x y} hx hy=>by
  rcases htri (x+y) with h | h | h
  ·exfalso
   have e:y = -x:=by
    have ha:=congrArg H.a h
    have hb:=congrArg H.b h
    rw [H.add_a,H.zero_a] at ha
    rw [H.add_b,H.zero_b] at hb
    apply H.ext
    ·rw [H.neg_a,show y.a=x.a+y.a + -x.a by (apply E.ext <;> simp only [E.mul_a,E.mul_b,E.add_a,E.add_b,E.neg_a,E.neg_b,E.sub_a,E.sub_b,E.zero_a,E.zero_b,three] <;> grind),ha];(apply E.ext <;> simp only [E.mul_a,E.mul_b,E.add_a,E.add_b,E.neg_a,E.neg_b,E.sub_a,E.sub_b,E.zero_a,E.zero_b,three] <;> grind)
    ·rw [H.neg_b,show y.b=x.b+y.b + -x.b by (apply E.ext <;> simp only [E.mul_a,E.mul_b,E.add_a,E.add_b,E.neg_a,E.neg_b,E.sub_a,E.sub_b,E.zero_a,E.zero_b,three] <;> grind),hb];(apply E.ext <;> simp only [E.mul_a,E.mul_b,E.add_a,E.add_b,E.neg_a,E.neg_b,E.sub_a,E.sub_b,E.zero_a,E.zero_b,three] <;> grind)
   rw [e,hB,hN_neg] at hy
   exact eneg hx.1 hy.1
  ·exact h
  ·exfalso
   rcases h with h | h
   ·have h3:=hA_add hx h
    rw [show x + -(x+y) = -y by
     apply H.ext
     ·simp only [H.add_a,H.neg_a];(apply E.ext <;> simp only [E.mul_a,E.mul_b,E.add_a,E.add_b,E.neg_a,E.neg_b,E.sub_a,E.sub_b,E.zero_a,E.zero_b,three] <;> grind)
     ·simp only [H.add_b,H.neg_b];(apply E.ext <;> simp only [E.mul_a,E.mul_b,E.add_a,E.add_b,E.neg_a,E.neg_b,E.sub_a,E.sub_b,E.zero_a,E.zero_b,three] <;> grind),hA,hN_neg] at h3
    exact eneg h3.1 hy.1
   ·have h3:=hB_add hy h
    rw [show y + -(x+y) = -x by
     apply H.ext
     ·simp only [H.add_a,H.neg_a];(apply E.ext <;> simp only [E.mul_a,E.mul_b,E.add_a,E.add_b,E.neg_a,E.neg_b,E.sub_a,E.sub_b,E.zero_a,E.zero_b,three] <;> grind)
     ·simp only [H.add_b,H.neg_b];(apply E.ext <;> simp only [E.mul_a,E.mul_b,E.add_a,E.add_b,E.neg_a,E.neg_b,E.sub_a,E.sub_b,E.zero_a,E.zero_b,three] <;> grind),hB,hN_neg] at h3
    exact eneg hx.1 h3.1
 rcases hx with hx | hx <;> rcases hy with hy | hy
 ·exact .inl (hA_add hx hy)
 ·exact AB hx hy
 ·rw [ec];exact AB hy hx
 ·exact .inr (hB_add hx hy)

structure Nm where
 c0:Int
 c1:Int
 c2:Int
 c3:Int
 d:Int
theorem Nm.ext {x y:Nm} (h0:x.c0=y.c0) (h1:x.c1=y.c1) (h2:x.c2=y.c2) (h3:x.c3=y.c3) (h4:x.d=y.d):x=y:=by
 cases x;cases y;simp only at h0 h1 h2 h3 h4;rw [h0,h1,h2,h3,h4]
def cof (x:Nm):Nat:=(((x.d.natAbs.gcd x.c0.natAbs).gcd x.c1.natAbs).gcd x.c2.natAbs).gcd x.c3.natAbs
structure Ok (x:Nm):Prop where
 pos:0<x.d
 cop:cof x=1
def sgG (x:Nm):Int:=if x.d<0 then -(cof x:Int) else cof x
def low (x:Nm):Nm:=⟨x.c0.fdiv (sgG x),x.c1.fdiv (sgG x),x.c2.fdiv (sgG x),x.c3.fdiv (sgG x),x.d.fdiv (sgG x)⟩
theorem cof_dvd (x:Nm):(cof x:Int)∣x.c0∧(cof x:Int)∣x.c1∧(cof x:Int)∣x.c2∧(cof x:Int)∣x.c3∧(cof x:Int)∣x.d:=by
 unfold cof
 have l:=Nat.gcd_dvd_left
 have r:=Nat.gcd_dvd_right
 have t:∀ {a b c:Nat},a∣b→b∣c→a∣c:=fun h1 h2=>Nat.dvd_trans h1 h2
 refine ⟨Int.ofNat_dvd_left.2 ?_,Int.ofNat_dvd_left.2 ?_,Int.ofNat_dvd_left.2 ?_,Int.ofNat_dvd_left.2 ?_,Int.ofNat_dvd_left.2 ?_⟩
 ·exact t (t (t (l _ _) (l _ _)) (l _ _)) (r _ _)
 ·exact t (t (l _ _) (l _ _)) (r _ _)
 ·exact t (l _ _) (r _ _)
 ·exact r _ _
 ·exact t (t (t (l _ _) (l _ _)) (l _ _)) (l _ _)
theorem cof_pos {x:Nm} (h:x.d≠0):0<cof x:=by
 rcases Nat.eq_zero_or_pos (cof x) with h0 | h0
 ·have:=(cof_dvd x).2.2.2.2
  rw [h0] at this
  obtain ⟨k,hk⟩:=this
  simp at hk
  exact absurd hk h
 ·exact h0
theorem dvd_cof {k:Nat} {x:Nm} (h0:(k:Int)∣x.c0) (h1:(k:Int)∣x.c1) (h2:(k:Int)∣x.c2) (h3:(k:Int)∣x.c3) (h4:(k:Int)∣x.d):k∣cof x:=by
 unfold cof
 exact Nat.dvd_gcd (Nat.dvd_gcd (Nat.dvd_gcd (Nat.dvd_gcd (Int.ofNat_dvd_left.1 h4) (Int.ofNat_dvd_left.1 h0)) (Int.ofNat_dvd_left.1 h1)) (Int.ofNat_dvd_left.1 h2)) (Int.ofNat_dvd_left.1 h3)
theorem sgG_ne {x:Nm} (h:x.d≠0):sgG x≠0:=by
 have:=cof_pos h
 unfold sgG
 split <;> omega
theorem sgG_dvd (x:Nm):sgG x∣x.c0∧sgG x∣x.c1∧sgG x∣x.c2∧sgG x∣x.c3∧sgG x∣x.d:=by
 have h:=cof_dvd x
 unfold sgG
 split
 ·exact ⟨Int.neg_dvd.2 h.1,Int.neg_dvd.2 h.2.1,Int.neg_dvd.2 h.2.2.1,Int.neg_dvd.2 h.2.2.2.1,Int.neg_dvd.2 h.2.2.2.2⟩
 ·exact h
theorem fdiv_mul_of_dvd {a g:Int} (hg:g≠0) (h:g∣a):a.fdiv g * g=a:=by
 obtain ⟨k,rfl⟩:=h
 rw [Int.mul_fdiv_cancel_left _ hg,Int.mul_comm]
theorem low_eq {x:Nm} (h:x.d≠0):(low x).c0 * sgG x=x.c0∧(low x).c1 * sgG x=x.c1∧(low x).c2 * sgG x=x.c2∧(low x).c3 * sgG x=x.c3∧(low x).d * sgG x=x.d:=by
 have hg:=sgG_ne h
 obtain ⟨h0,h1,h2,h3,h4⟩:=sgG_dvd x
 exact ⟨fdiv_mul_of_dvd hg h0,fdiv_mul_of_dvd hg h1,fdiv_mul_of_dvd hg h2,fdiv_mul_of_dvd hg h3,fdiv_mul_of_dvd hg h4⟩
theorem low_pos {x:Nm} (h:x.d≠0):0<(low x).d:=by
 have h4:=(low_eq h).2.2.2.2
 have hg:=cof_pos h
 unfold sgG at h4
 split at h4 <;> rename_i hd
 ·rcases Int.lt_or_le 0 (low x).d with h | h
  ·exact h
  ·exfalso
   have:0≤(low x).d * -(cof x:Int):=Int.mul_nonneg_of_nonpos_of_nonpos h (by omega)
   omega
 ·rcases Int.lt_or_le 0 (low x).d with h | h
  ·exact h
  ·exfalso
   have:(low x).d * (cof x:Int)≤0:=Int.mul_nonpos_of_nonpos_of_nonneg h (by omega)
   omega
theorem low_ok {x:Nm} (h:x.d≠0):Ok (low x):=by
 refine ⟨low_pos h,?_⟩
 obtain ⟨e0,e1,e2,e3,e4⟩:=low_eq h
 obtain ⟨d0,d1,d2,d3,d4⟩:=cof_dvd (low x)
 have hg:=cof_pos h
 have key:((cof (low x) * cof x:Nat):Int)∣x.c0∧((cof (low x) * cof x:Nat):Int)∣x.c1∧((cof (low x) * cof x:Nat):Int)∣x.c2∧((cof (low x) * cof x:Nat):Int)∣x.c3∧((cof (low x) * cof x:Nat):Int)∣x.d:=by
  have hs:(cof x:Int)∣sgG x:=by unfold sgG;split;exact Int.dvd_neg.2 (Int.dvd_refl _);exact Int.dvd_refl _
  rw [Int.natCast_mul]
  exact ⟨e0 ▸ Int.mul_dvd_mul d0 hs,e1 ▸ Int.mul_dvd_mul d1 hs,e2 ▸ Int.mul_dvd_mul d2 hs,e3 ▸ Int.mul_dvd_mul d3 hs,e4 ▸ Int.mul_dvd_mul d4 hs⟩
 have h2:=dvd_cof key.1 key.2.1 key.2.2.1 key.2.2.2.1 key.2.2.2.2
 have h3:=Nat.le_of_dvd hg h2
 have h4:=cof_pos (x:=low x) (by have:=low_pos h;omega)
 rcases Nat.lt_or_ge 1 (cof (low x)) with h5 | h5
 ·exfalso
  have:2 * cof x≤cof (low x) * cof x:=Nat.mul_le_mul_right _ h5
  omega
 ·omega
theorem ok_eq {x y:Nm} (hx:Ok x) (hy:Ok y) (h0:x.c0 * y.d=y.c0 * x.d) (h1:x.c1 * y.d=y.c1 * x.d) (h2:x.c2 * y.d=y.c2 * x.d) (h3:x.c3 * y.d=y.c3 * x.d):x=y:=by
 have main:∀ {x y:Nm},Ok x→x.c0 * y.d=y.c0 * x.d→x.c1 * y.d=y.c1 * x.d→x.c2 * y.d=y.c2 * x.d→x.c3 * y.d=y.c3 * x.d→x.d.natAbs∣y.d.natAbs:=fun {x y} hx h0 h1 h2 h3=>by
  have t:∀ {a b:Int},a * y.d=b * x.d→x.d.natAbs∣a.natAbs * y.d.natAbs:=fun {a b} h=>by
   rw [← Int.natAbs_mul,h,Int.natAbs_mul]
   exact Nat.dvd_mul_left _ _
  have h:=Nat.dvd_gcd (Nat.dvd_gcd (Nat.dvd_gcd (Nat.dvd_gcd (Nat.dvd_mul_right x.d.natAbs y.d.natAbs) (t h0)) (t h1)) (t h2)) (t h3)
  rw [Nat.gcd_mul_right,Nat.gcd_mul_right,Nat.gcd_mul_right,Nat.gcd_mul_right] at h
  have hc:cof x=1:=hx.cop
  unfold cof at hc
  rwa [hc,Nat.one_mul] at h
 have a:=main hx h0 h1 h2 h3
 have b:=main hy h0.symm h1.symm h2.symm h3.symm
 have e:=Nat.dvd_antisymm a b
 have px:=hx.pos
 have py:=hy.pos
 have ed:x.d=y.d:=by omega
 have hne:x.d≠0:=by omega
 refine Nm.ext ?_ ?_ ?_ ?_ ed
 ·rw [← ed] at h0;exact Int.eq_of_mul_eq_mul_right hne h0
 ·rw [← ed] at h1;exact Int.eq_of_mul_eq_mul_right hne h1
 ·rw [← ed] at h2;exact Int.eq_of_mul_eq_mul_right hne h2
 ·rw [← ed] at h3;exact Int.eq_of_mul_eq_mul_right hne h3
structure K where
 a:Rat
 b:Rat
 c:Rat
 d:Rat
theorem K.ext {x y:K} (h0:x.a=y.a) (h1:x.b=y.b) (h2:x.c=y.c) (h3:x.d=y.d):x=y:=by
 cases x;cases y;simp only at h0 h1 h2 h3;rw [h0,h1,h2,h3]
instance:Add K:=⟨fun x y=>⟨x.a+y.a,x.b+y.b,x.c+y.c,x.d+y.d⟩⟩
instance:Neg K:=⟨fun x=>⟨-x.a,-x.b,-x.c,-x.d⟩⟩
instance:Mul K:=⟨fun x y=>⟨x.a * y.a+2 * (x.b * y.b)+3 * (x.c * y.c)+6 * (x.d * y.d),x.a * y.b+x.b * y.a+3 * (x.c * y.d)+3 * (x.d * y.c),x.a * y.c+x.c * y.a+2 * (x.b * y.d)+2 * (x.d * y.b),x.a * y.d+x.d * y.a+x.b * y.c+x.c * y.b⟩⟩
instance:Zero K:=⟨⟨0,0,0,0⟩⟩
instance:One K:=⟨⟨1,0,0,0⟩⟩
theorem K.add_def (x y:K):x+y=⟨x.a+y.a,x.b+y.b,x.c+y.c,x.d+y.d⟩:=rfl
theorem K.neg_def (x:K):-x=⟨-x.a,-x.b,-x.c,-x.d⟩:=rfl
theorem K.mul_def (x y:K):x * y=⟨x.a * y.a+2 * (x.b * y.b)+3 * (x.c * y.c)+6 * (x.d * y.d),x.a * y.b+x.b * y.a+3 * (x.c * y.d)+3 * (x.d * y.c),x.a * y.c+x.c * y.a+2 * (x.b * y.d)+2 * (x.d * y.b),x.a * y.d+x.d * y.a+x.b * y.c+x.c * y.b⟩:=rfl
theorem K.zero_def:(0:K)=⟨0,0,0,0⟩:=rfl
theorem K.one_def:(1:K)=⟨1,0,0,0⟩:=rfl
theorem K.add_comm (x y:K):x+y=y+x:=by
 apply K.ext <;> simp only [K.add_def,K.neg_def,K.mul_def,K.zero_def,K.one_def] <;> grind
theorem K.add_assoc (x y z:K):x+y+z=x+(y+z):=by
 apply K.ext <;> simp only [K.add_def,K.neg_def,K.mul_def,K.zero_def,K.one_def] <;> grind
theorem K.mul_comm (x y:K):x * y=y * x:=by
 apply K.ext <;> simp only [K.add_def,K.neg_def,K.mul_def,K.zero_def,K.one_def] <;> grind
theorem K.mul_assoc (x y z:K):x * y * z=x * (y * z):=by
 apply K.ext <;> simp only [K.add_def,K.neg_def,K.mul_def,K.zero_def,K.one_def] <;> grind
theorem K.mul_add (x y z:K):x * (y+z)=x * y+x * z:=by
 apply K.ext <;> simp only [K.add_def,K.neg_def,K.mul_def,K.zero_def,K.one_def] <;> grind
theorem K.add_zero (x:K):x+0=x:=by
 apply K.ext <;> simp only [K.add_def,K.neg_def,K.mul_def,K.zero_def,K.one_def] <;> grind
theorem K.mul_one (x:K):x * 1=x:=by
 apply K.ext <;> simp only [K.add_def,K.neg_def,K.mul_def,K.zero_def,K.one_def] <;> grind
theorem K.add_neg (x:K):x + -x=0:=by
 apply K.ext <;> simp only [K.add_def,K.neg_def,K.mul_def,K.zero_def,K.one_def] <;> grind
theorem K.neg_add (x y:K):-(x+y) = -x + -y:=by
 apply K.ext <;> simp only [K.add_def,K.neg_def,K.mul_def,K.zero_def,K.one_def] <;> grind
theorem K.neg_mul (x y:K):-x * y = -(x * y):=by
 apply K.ext <;> simp only [K.add_def,K.neg_def,K.mul_def,K.zero_def,K.one_def] <;> grind
theorem K.neg_neg (x:K):-(-x)=x:=by
 apply K.ext <;> simp only [K.add_def,K.neg_def,K.mul_def,K.zero_def,K.one_def] <;> grind
theorem K.zero_mul (x:K):0 * x=0:=by
 apply K.ext <;> simp only [K.add_def,K.neg_def,K.mul_def,K.zero_def,K.one_def] <;> grind
def toK (x:Nm):K:=⟨(x.c0:Rat) / x.d,(x.c1:Rat) / x.d,(x.c2:Rat) / x.d,(x.c3:Rat) / x.d⟩
theorem rne {d:Int} (h:d≠0):(d:Rat)≠0:=by
 intro h2
 exact h (by exact_mod_cast h2)
theorem rdiv_eq {a b c d:Int} (hb:b≠0) (hd:d≠0):(a:Rat) / b=(c:Rat) / d↔a * d=c * b:=by
 have hb':=rne hb
 have hd':=rne hd
 constructor
 ·intro h
  have h2:(a:Rat) * d=c * b:=by grind
  exact_mod_cast h2
 ·intro h
  have h2:(a:Rat) * d=c * b:=by exact_mod_cast h
  grind
theorem toK_inj {x y:Nm} (hx:Ok x) (hy:Ok y) (h:toK x=toK y):x=y:=by
 have px:=hx.pos
 have py:=hy.pos
 have nx:x.d≠0:=by omega
 have ny:y.d≠0:=by omega
 exact ok_eq hx hy ((rdiv_eq nx ny).1 (congrArg K.a h)) ((rdiv_eq nx ny).1 (congrArg K.b h)) ((rdiv_eq nx ny).1 (congrArg K.c h)) ((rdiv_eq nx ny).1 (congrArg K.d h))
theorem toK_low {x:Nm} (h:x.d≠0):toK (low x)=toK x:=by
 obtain ⟨e0,e1,e2,e3,e4⟩:=low_eq h
 have hp:=low_pos h
 have hn:(low x).d≠0:=by omega
 have t:∀ {a b:Int},a * sgG x=b→a * x.d=b * (low x).d:=fun {a b} h=>by rw [← h,← e4];grind
 exact K.ext ((rdiv_eq hn h).2 (t e0)) ((rdiv_eq hn h).2 (t e1)) ((rdiv_eq hn h).2 (t e2)) ((rdiv_eq hn h).2 (t e3))
def addR (x y:Nm):Nm:=⟨x.c0 * y.d+y.c0 * x.d,x.c1 * y.d+y.c1 * x.d,x.c2 * y.d+y.c2 * x.d,x.c3 * y.d+y.c3 * x.d,x.d * y.d⟩
def mulR (x y:Nm):Nm:=⟨x.c0 * y.c0+2 * (x.c1 * y.c1)+3 * (x.c2 * y.c2)+6 * (x.c3 * y.c3),x.c0 * y.c1+x.c1 * y.c0+3 * (x.c2 * y.c3)+3 * (x.c3 * y.c2),x.c0 * y.c2+x.c2 * y.c0+2 * (x.c1 * y.c3)+2 * (x.c3 * y.c1),x.c0 * y.c3+x.c3 * y.c0+x.c1 * y.c2+x.c2 * y.c1,x.d * y.d⟩
def negN (x:Nm):Nm:=⟨-x.c0,-x.c1,-x.c2,-x.c3,x.d⟩
theorem toK_addR {x y:Nm} (hx:x.d≠0) (hy:y.d≠0):toK (addR x y)=toK x+toK y:=by
 have hx':=rne hx
 have hy':=rne hy
 apply K.ext <;> simp only [K.add_def,toK,addR] <;> push_cast <;> grind
theorem toK_mulR {x y:Nm} (hx:x.d≠0) (hy:y.d≠0):toK (mulR x y)=toK x * toK y:=by
 have hx':=rne hx
 have hy':=rne hy
 apply K.ext <;> simp only [K.mul_def,toK,mulR] <;> push_cast <;> grind
theorem toK_neg (x:Nm):toK (negN x) = -toK x:=by
 apply K.ext <;> simp only [K.neg_def,toK,negN] <;> push_cast <;> grind
def addN (x y:Nm):Nm:=low (addR x y)
def mulN (x y:Nm):Nm:=low (mulR x y)
def subN (x y:Nm):Nm:=addN x (negN y)
theorem addN_ok {x y:Nm} (hx:Ok x) (hy:Ok y):Ok (addN x y):=low_ok (Int.mul_ne_zero (by have:=hx.pos;omega) (by have:=hy.pos;omega))
theorem mulN_ok {x y:Nm} (hx:Ok x) (hy:Ok y):Ok (mulN x y):=low_ok (Int.mul_ne_zero (by have:=hx.pos;omega) (by have:=hy.pos;omega))
theorem negN_ok {x:Nm} (hx:Ok x):Ok (negN x):=⟨hx.pos,by have:=hx.cop;unfold cof at *;unfold negN;simpa using this⟩
theorem subN_ok {x y:Nm} (hx:Ok x) (hy:Ok y):Ok (subN x y):=addN_ok hx (negN_ok hy)
theorem Ok.ne {x:Nm} (h:Ok x):x.d≠0:=by have:=h.pos;omega
theorem toK_add {x y:Nm} (hx:Ok x) (hy:Ok y):toK (addN x y)=toK x+toK y:=by
 unfold addN
 rw [toK_low (Int.mul_ne_zero hx.ne hy.ne),toK_addR hx.ne hy.ne]
theorem toK_mul {x y:Nm} (hx:Ok x) (hy:Ok y):toK (mulN x y)=toK x * toK y:=by
 unfold mulN
 rw [toK_low (Int.mul_ne_zero hx.ne hy.ne),toK_mulR hx.ne hy.ne]
theorem toK_sub {x y:Nm} (hx:Ok x) (hy:Ok y):toK (subN x y)=toK x + -toK y:=by
 unfold subN
 rw [toK_add hx (negN_ok hy),toK_neg]

def mix (s t k:Int):Int:=if s=t∨t=0 then s else if s=0 then t else s * k
def zSg (x:Int) (s:Int):Prop:=(s=1∧P0 x)∨(s=0∧x=0)∨(s = -1∧P0 (-x))
def eSg (x:E) (s:Int):Prop:=(s=1∧P1 x)∨(s=0∧x=0)∨(s = -1∧P1 (-x))
def hSg (x:H) (s:Int):Prop:=(s=1∧P2 x)∨(s=0∧x=0)∨(s = -1∧P2 (-x))
theorem zneg0:-(0:Int)=0:=rfl
theorem eneg0:-(0:E)=0:=rfl
theorem hneg0:-(0:H)=0:=rfl
theorem eSg_mk (x:E) {s t k:Int} (ha:zSg x.a s) (hb:zSg x.b t) (hk:zSg (eN x) k):eSg x (mix s t k):=by
 have nA:P0 (eN x)→P0 x.a→eSg x 1:=fun h1 h2=>.inl ⟨rfl,.inl ⟨h1,h2⟩⟩
 have nA':P0 (eN x)→P0 (-x.a)→eSg x (-1):=fun h1 h2=>.inr (.inr ⟨rfl,.inl ⟨by rwa [eN_neg],h2⟩⟩)
 have nB:P0 (-eN x)→P0 x.b→eSg x 1:=fun h1 h2=>.inl ⟨rfl,.inr ⟨h1,h2⟩⟩
 have nB':P0 (-eN x)→P0 (-x.b)→eSg x (-1):=fun h1 h2=>.inr (.inr ⟨rfl,.inr ⟨by rwa [eN_neg],h2⟩⟩)
 have hA:P0 (eN x)→x.a≠0:=eA_pos
 have hB:P0 (-eN x)→x.b≠0:=eB_pos
 have hZ:eN x=0→x.a=0∧x.b=0:=fun h=>by have:=eN_zero h;rw [this];exact ⟨rfl,rfl⟩
 have a0:∀ {y:Int},P0 y→y≠0:=fun h=>zne h
 have a1:∀ {y:Int},P0 (-y)→y≠0:=fun h e=>by rw [e,zneg0] at h;exact zzero h
 rcases hk with ⟨rfl,hk⟩ | ⟨rfl,hk⟩ | ⟨rfl,hk⟩
 ·rcases ha with ⟨rfl,ha⟩ | ⟨rfl,ha⟩ | ⟨rfl,ha⟩
  ·rw [show mix 1 t 1=1 from by unfold mix;split <;> first | rfl | (split <;> first | omega | rfl)]
   exact nA hk ha
  ·exact absurd ha (hA hk)
  ·have:mix (-1) t 1 = -1:=by
    rcases hb with ⟨rfl,_⟩ | ⟨rfl,_⟩ | ⟨rfl,_⟩ <;> decide
   rw [this]
   exact nA' hk ha
 ·obtain ⟨e1,e2⟩:=hZ hk
  have:mix s t 0=0:=by
   rcases ha with ⟨rfl,ha⟩ | ⟨rfl,ha⟩ | ⟨rfl,ha⟩
   ·exact absurd e1 (a0 ha)
   ·rcases hb with ⟨rfl,hb⟩ | ⟨rfl,hb⟩ | ⟨rfl,hb⟩
    ·exact absurd e2 (a0 hb)
    ·rfl
    ·exact absurd e2 (a1 hb)
   ·exact absurd e1 (a1 ha)
  rw [this]
  exact .inr (.inl ⟨rfl,eN_zero hk⟩)
 ·rcases hb with ⟨rfl,hb⟩ | ⟨rfl,hb⟩ | ⟨rfl,hb⟩
  ·have:mix s 1 (-1)=1:=by
    rcases ha with ⟨rfl,_⟩ | ⟨rfl,_⟩ | ⟨rfl,_⟩ <;> decide
   rw [this]
   exact nB hk hb
  ·exact absurd hb (hB hk)
  ·have:mix s (-1) (-1) = -1:=by
    rcases ha with ⟨rfl,_⟩ | ⟨rfl,_⟩ | ⟨rfl,_⟩ <;> decide
   rw [this]
   exact nB' hk hb
theorem enn0 (x:E):- -x=x:=by (apply E.ext <;> simp only [E.mul_a,E.mul_b,E.add_a,E.add_b,E.neg_a,E.neg_b,E.sub_a,E.sub_b,E.zero_a,E.zero_b,three] <;> grind)
theorem hSg_mk (x:H) {s t k:Int} (ha:eSg x.a s) (hb:eSg x.b t) (hk:eSg (hN x) k):hSg x (mix s t k):=by
 have nA:P1 (hN x)→P1 x.a→hSg x 1:=fun h1 h2=>.inl ⟨rfl,.inl ⟨h1,h2⟩⟩
 have nA':P1 (hN x)→P1 (-x.a)→hSg x (-1):=fun h1 h2=>.inr (.inr ⟨rfl,.inl ⟨by rwa [hN_neg],h2⟩⟩)
 have nB:P1 (-hN x)→P1 x.b→hSg x 1:=fun h1 h2=>.inl ⟨rfl,.inr ⟨h1,h2⟩⟩
 have nB':P1 (-hN x)→P1 (-x.b)→hSg x (-1):=fun h1 h2=>.inr (.inr ⟨rfl,.inr ⟨by rwa [hN_neg],h2⟩⟩)
 have hA:P1 (hN x)→x.a≠0:=hA_pos
 have hB:P1 (-hN x)→x.b≠0:=hB_pos
 have hZ:hN x=0→x.a=0∧x.b=0:=fun h=>by have:=hN_zero h;rw [this];exact ⟨rfl,rfl⟩
 have a0:∀ {y:E},P1 y→y≠0:=fun h=>ene h
 have a1:∀ {y:E},P1 (-y)→y≠0:=fun h e=>by rw [e,eneg0] at h;exact ezero h
 rcases hk with ⟨rfl,hk⟩ | ⟨rfl,hk⟩ | ⟨rfl,hk⟩
 ·rcases ha with ⟨rfl,ha⟩ | ⟨rfl,ha⟩ | ⟨rfl,ha⟩
  ·rw [show mix 1 t 1=1 from by unfold mix;split <;> first | rfl | (split <;> first | omega | rfl)]
   exact nA hk ha
  ·exact absurd ha (hA hk)
  ·have:mix (-1) t 1 = -1:=by
    rcases hb with ⟨rfl,_⟩ | ⟨rfl,_⟩ | ⟨rfl,_⟩ <;> decide
   rw [this]
   exact nA' hk ha
 ·obtain ⟨e1,e2⟩:=hZ hk
  have:mix s t 0=0:=by
   rcases ha with ⟨rfl,ha⟩ | ⟨rfl,ha⟩ | ⟨rfl,ha⟩
   ·exact absurd e1 (a0 ha)
   ·rcases hb with ⟨rfl,hb⟩ | ⟨rfl,hb⟩ | ⟨rfl,hb⟩
    ·exact absurd e2 (a0 hb)
    ·rfl
    ·exact absurd e2 (a1 hb)
   ·exact absurd e1 (a1 ha)
  rw [this]
  exact .inr (.inl ⟨rfl,hN_zero hk⟩)
 ·rcases hb with ⟨rfl,hb⟩ | ⟨rfl,hb⟩ | ⟨rfl,hb⟩
  ·have:mix s 1 (-1)=1:=by
    rcases ha with ⟨rfl,_⟩ | ⟨rfl,_⟩ | ⟨rfl,_⟩ <;> decide
   rw [this]
   exact nB hk hb
  ·exact absurd hb (hB hk)
  ·have:mix s (-1) (-1) = -1:=by
    rcases ha with ⟨rfl,_⟩ | ⟨rfl,_⟩ | ⟨rfl,_⟩ <;> decide
   rw [this]
   exact nB' hk hb
theorem hnn0 (x:H):- -x=x:=H.ext (enn0 _) (enn0 _)
theorem hSg_neg {x:H} {s:Int} (h:hSg x s):hSg (-x) (-s):=by
 rcases h with ⟨rfl,h⟩ | ⟨rfl,h⟩ | ⟨rfl,h⟩
 ·exact .inr (.inr ⟨rfl,by rwa [hnn0]⟩)
 ·exact .inr (.inl ⟨rfl,by rw [h,hneg0]⟩)
 ·exact .inl ⟨rfl,h⟩
theorem hSg_eq {x:H} {s t:Int} (h1:hSg x s) (h2:hSg x t):s=t:=by
 rcases h1 with ⟨rfl,h1⟩ | ⟨rfl,h1⟩ | ⟨rfl,h1⟩ <;> rcases h2 with ⟨rfl,h2⟩ | ⟨rfl,h2⟩ | ⟨rfl,h2⟩
 ·rfl
 ·rw [h2] at h1;exact (hzero h1).elim
 ·exact (hnot h1 h2).elim
 ·rw [h1] at h2;exact (hzero h2).elim
 ·rfl
 ·rw [h1,hneg0] at h2;exact (hzero h2).elim
 ·exact (hnot h2 h1).elim
 ·rw [h2,hneg0] at h1;exact (hzero h1).elim
 ·rfl
theorem zSg_sign (x:Int):zSg x x.sign:=by
 unfold zSg P0
 rcases Int.lt_trichotomy x 0 with h | h | h
 ·exact .inr (.inr ⟨Int.sign_eq_neg_one_of_neg h,by omega⟩)
 ·exact .inr (.inl ⟨by rw [h];rfl,h⟩)
 ·exact .inl ⟨Int.sign_eq_one_of_pos h,h⟩
def s2 (a b:Int):Int:=mix a.sign b.sign (a * a - 2 * (b * b)).sign
def s4 (a b c d:Int):Int:=mix (s2 a b) (s2 c d) (s2 (a * a+2 * (b * b) - (3 * (c * c)+6 * (d * d))) (2 * (a * b) - 6 * (c * d)))
theorem eSg_s2 (a b:Int):eSg ⟨a,b⟩ (s2 a b):=eSg_mk ⟨a,b⟩ (zSg_sign a) (zSg_sign b) (zSg_sign _)
theorem hSg_s4 (a b c d:Int):hSg ⟨⟨a,b⟩,⟨c,d⟩⟩ (s4 a b c d):=by
 refine hSg_mk ⟨⟨a,b⟩,⟨c,d⟩⟩ (eSg_s2 a b) (eSg_s2 c d) ?_
 have:=eSg_s2 (a * a+2 * (b * b) - (3 * (c * c)+6 * (d * d))) (2 * (a * b) - 6 * (c * d))
 rwa [show (⟨a * a+2 * (b * b) - (3 * (c * c)+6 * (d * d)),2 * (a * b) - 6 * (c * d)⟩:E)=hN ⟨⟨a,b⟩,⟨c,d⟩⟩ from by
  unfold hN
  apply E.ext <;> simp only [E.mul_a,E.mul_b,E.sub_a,E.sub_b,three] <;> grind] at this
def toH (x:Nm):H:=⟨⟨x.c0,x.c1⟩,⟨x.c2,x.c3⟩⟩
def ofZ (k:Int):H:=⟨⟨k,0⟩,⟨0,0⟩⟩
theorem H_ext {x y:H} (h0:x.a.a=y.a.a) (h1:x.a.b=y.a.b) (h2:x.b.a=y.b.a) (h3:x.b.b=y.b.b):x=y:=H.ext (E.ext h0 h1) (E.ext h2 h3)
theorem ofZ_pos {k:Int} (h:0<k):P2 (ofZ k):=by
 have h1:P1 ⟨k,0⟩:=.inl ⟨by unfold eN P0;have:=Int.mul_pos h h;simp only;omega,h⟩
 refine .inl ⟨?_,h1⟩
 have h2:=emul h1 h1
 rwa [show hN (ofZ k)=(⟨k,0⟩:E) * ⟨k,0⟩ from by
  unfold hN ofZ
  apply E.ext <;> simp only [E.mul_a,E.mul_b,E.sub_a,E.sub_b,three] <;> grind]
def sgnN (x:Nm):Int:=s4 x.c0 x.c1 x.c2 x.c3
theorem hSg_sgn (x:Nm):hSg (toH x) (sgnN x):=hSg_s4 _ _ _ _
theorem sgn_vals (x:Nm):sgnN x=1∨sgnN x=0∨sgnN x = -1:=by
 rcases hSg_sgn x with h | h | h
 ·exact .inl h.1
 ·exact .inr (.inl h.1)
 ·exact .inr (.inr h.1)
theorem hmul0 (x:H):x * 0=0:=by
 apply H_ext <;> simp only [H.mul_a,H.mul_b,E.mul_a,E.mul_b,E.add_a,E.add_b,H.zero_a,H.zero_b,E.zero_a,E.zero_b,three] <;> grind
theorem hmuln (x y:H):x * -y = -(x * y):=by
 apply H_ext <;> simp only [H.mul_a,H.mul_b,H.neg_a,H.neg_b,E.neg_a,E.neg_b,E.mul_a,E.mul_b,E.add_a,E.add_b,three] <;> grind
theorem hSg_mul {x y:H} {s t:Int} (hx:hSg x s) (hy:hSg y t):hSg (x * y) (s * t):=by
 rcases hx with ⟨rfl,hx⟩ | ⟨rfl,hx⟩ | ⟨rfl,hx⟩ <;> rcases hy with ⟨rfl,hy⟩ | ⟨rfl,hy⟩ | ⟨rfl,hy⟩
 ·exact .inl ⟨rfl,hmul hx hy⟩
 ·exact .inr (.inl ⟨rfl,by rw [hy,hmul0]⟩)
 ·exact .inr (.inr ⟨rfl,by rw [← hmuln];exact hmul hx hy⟩)
 ·exact .inr (.inl ⟨rfl,by rw [hx,H.comm,hmul0]⟩)
 ·exact .inr (.inl ⟨rfl,by rw [hx,H.comm,hmul0]⟩)
 ·exact .inr (.inl ⟨rfl,by rw [hx,H.comm,hmul0]⟩)
 ·exact .inr (.inr ⟨rfl,by rw [H.comm,← hmuln,H.comm];exact hmul hx hy⟩)
 ·exact .inr (.inl ⟨rfl,by rw [hy,hmul0]⟩)
 ·refine .inl ⟨rfl,?_⟩
  have:=hmul hx hy
  rwa [hmuln,H.comm,hmuln,hnn0,H.comm] at this
theorem sgn_scale {x y:Nm} {k:Int} (hk:0<k) (h:toH y=toH x * ofZ k):sgnN y=sgnN x:=by
 have h1:=hSg_mul (hSg_sgn x) (.inl ⟨rfl,ofZ_pos hk⟩)
 rw [← h,Int.mul_one] at h1
 exact hSg_eq (hSg_sgn y) h1
theorem sgG_pos {x:Nm} (h:0<x.d):0<sgG x:=by
 have:=cof_pos (x:=x) (by omega)
 unfold sgG
 rw [if_neg (by omega)]
 omega
theorem sgn_low {x:Nm} (h:0<x.d):sgnN (low x)=sgnN x:=by
 obtain ⟨e0,e1,e2,e3,e4⟩:=low_eq (x:=x) (by omega)
 refine (sgn_scale (sgG_pos h) ?_).symm
 unfold toH ofZ
 apply H_ext <;> simp only [H.mul_a,H.mul_b,E.mul_a,E.mul_b,E.add_a,E.add_b,three] <;> grind
theorem sgn_mul {x y:Nm} (hx:Ok x) (hy:Ok y):sgnN (mulN x y)=sgnN x * sgnN y:=by
 have hp:=Int.mul_pos hx.pos hy.pos
 unfold mulN
 rw [sgn_low (x:=mulR x y) hp]
 have h1:=hSg_mul (hSg_sgn x) (hSg_sgn y)
 rw [show toH x * toH y=toH (mulR x y) from by
  unfold toH mulR
  apply H_ext <;> simp only [H.mul_a,H.mul_b,E.mul_a,E.mul_b,E.add_a,E.add_b,three] <;> grind] at h1
 exact hSg_eq (hSg_sgn _) h1
theorem sgn_neg (x:Nm):sgnN (negN x) = -sgnN x:=by
 have h1:=hSg_neg (hSg_sgn x)
 have e:-toH x=toH (negN x):=rfl
 rw [e] at h1
 exact hSg_eq (hSg_sgn _) h1
theorem sgn_add {x y:Nm} (hx:Ok x) (hy:Ok y) (h1:sgnN x=1) (h2:sgnN y=1):sgnN (addN x y)=1:=by
 have hp:=Int.mul_pos hx.pos hy.pos
 unfold addN
 rw [sgn_low (x:=addR x y) hp]
 have g1:P2 (toH x):=by rcases hSg_sgn x with h | h | h;exact h.2;omega;omega
 have g2:P2 (toH y):=by rcases hSg_sgn y with h | h | h;exact h.2;omega;omega
 have h:=hadd (hmul g1 (ofZ_pos hy.pos)) (hmul g2 (ofZ_pos hx.pos))
 rw [show toH x * ofZ y.d+toH y * ofZ x.d=toH (addR x y) from by
  unfold toH addR ofZ
  apply H_ext <;> simp only [H.mul_a,H.mul_b,H.add_a,H.add_b,E.mul_a,E.mul_b,E.add_a,E.add_b,three] <;> grind] at h
 exact hSg_eq (hSg_sgn _) (.inl ⟨rfl,h⟩)
def zN:Nm:=⟨0,0,0,0,1⟩
def oneN:Nm:=⟨1,0,0,0,1⟩
theorem zN_ok:Ok zN:=⟨by decide,by decide⟩
theorem sgn_zero {x:Nm} (hx:Ok x):sgnN x=0↔x=zN:=by
 constructor
 ·intro h
  have h1:toH x=0:=by rcases hSg_sgn x with g | g | g;omega;exact g.2;omega
  have e0:x.c0=0:=congrArg (fun z:H=>z.a.a) h1
  have e1:x.c1=0:=congrArg (fun z:H=>z.a.b) h1
  have e2:x.c2=0:=congrArg (fun z:H=>z.b.a) h1
  have e3:x.c3=0:=congrArg (fun z:H=>z.b.b) h1
  have hc:=hx.cop
  unfold cof at hc
  rw [e0,e1,e2,e3] at hc
  simp at hc
  have:=hx.pos
  exact Nm.ext e0 e1 e2 e3 (by show x.d=1;omega)
 ·rintro rfl
  decide

theorem K.mul_left_comm (x y z:K):x * (y * z)=y * (x * z):=by
 rw [← K.mul_assoc,← K.mul_assoc,K.mul_comm x y]
theorem K.add_left_comm (x y z:K):x+(y+z)=y+(x+z):=by
 rw [← K.add_assoc,← K.add_assoc,K.add_comm x y]
theorem K.add_mul (x y z:K):(x+y) * z=x * z+y * z:=by
 rw [K.mul_comm,K.mul_add,K.mul_comm z x,K.mul_comm z y]
theorem K.mul_neg (x y:K):x * -y = -(x * y):=by rw [K.mul_comm,K.neg_mul,K.mul_comm]
theorem mulN_comm {x y:Nm} (hx:Ok x) (hy:Ok y):mulN x y=mulN y x :=
 toK_inj (mulN_ok hx hy) (mulN_ok hy hx) (by rw [toK_mul hx hy,toK_mul hy hx,K.mul_comm])
theorem mulN_add {x y z:Nm} (hx:Ok x) (hy:Ok y) (hz:Ok z):mulN x (addN y z)=addN (mulN x y) (mulN x z) :=
 toK_inj (mulN_ok hx (addN_ok hy hz)) (addN_ok (mulN_ok hx hy) (mulN_ok hx hz)) (by rw [toK_mul hx (addN_ok hy hz),toK_add hy hz,toK_add (mulN_ok hx hy) (mulN_ok hx hz),toK_mul hx hy,toK_mul hx hz,K.mul_add])
def cmpK (x y:Nm):Int:=sgnN (subN x y)
theorem subN_neg {x y:Nm} (hx:Ok x) (hy:Ok y):subN y x=negN (subN x y) :=
 toK_inj (subN_ok hy hx) (negN_ok (subN_ok hx hy)) (by rw [toK_sub hy hx,toK_neg,toK_sub hx hy,K.neg_add,K.neg_neg,K.add_comm])
theorem cmpK_neg {x y:Nm} (hx:Ok x) (hy:Ok y):cmpK y x = -cmpK x y:=by
 unfold cmpK
 rw [subN_neg hx hy,sgn_neg]
theorem toK_z:toK zN=0:=by
 apply K.ext <;> simp only [toK,zN,K.zero_def] <;> simp <;> grind
theorem subN_zero {x y:Nm} (hx:Ok x) (hy:Ok y):subN x y=zN↔x=y:=by
 constructor
 ·intro h
  have h1:=congrArg toK h
  rw [toK_sub hx hy,toK_z] at h1
  refine toK_inj hx hy ?_
  have h2:toK x + -toK y+toK y=toK y:=by rw [h1,K.add_comm,K.add_zero]
  rwa [K.add_assoc,K.add_comm (-toK y),K.add_neg,K.add_zero] at h2
 ·rintro rfl
  exact toK_inj (subN_ok hx hx) zN_ok (by rw [toK_sub hx hx,K.add_neg,toK_z])
theorem cmpK_zero {x y:Nm} (hx:Ok x) (hy:Ok y):cmpK x y=0↔x=y:=by
 unfold cmpK
 rw [sgn_zero (subN_ok hx hy),subN_zero hx hy]
theorem cmpK_vals (x y:Nm):cmpK x y=1∨cmpK x y=0∨cmpK x y = -1:=sgn_vals _
theorem subN_add {x y z:Nm} (hx:Ok x) (hy:Ok y) (hz:Ok z):subN x z=addN (subN x y) (subN y z) :=
 toK_inj (subN_ok hx hz) (addN_ok (subN_ok hx hy) (subN_ok hy hz)) (by
  rw [toK_sub hx hz,toK_add (subN_ok hx hy) (subN_ok hy hz),toK_sub hx hy,toK_sub hy hz,K.add_assoc,K.add_left_comm (-toK y),K.add_comm (-toK y),K.add_left_comm (toK y),K.add_neg,K.add_zero])
theorem cmpK_pos {x y z:Nm} (hx:Ok x) (hy:Ok y) (hz:Ok z) (h1:cmpK x y=1) (h2:cmpK y z=1):cmpK x z=1:=by
 unfold cmpK at *
 rw [subN_add hx hy hz]
 exact sgn_add (subN_ok hx hy) (subN_ok hy hz) h1 h2
theorem cmpK_le {x y z:Nm} (hx:Ok x) (hy:Ok y) (hz:Ok z) (h1:cmpK x y≤0) (h2:cmpK y z≤0):cmpK x z≤0:=by
 have e1:=cmpK_neg hx hy
 have e2:=cmpK_neg hy hz
 have e3:=cmpK_neg hx hz
 have v1:=cmpK_vals x y
 have v2:=cmpK_vals y z
 have v3:=cmpK_vals x z
 by_cases g1:cmpK x y=0
 ·rw [cmpK_zero hx hy] at g1;subst g1;exact h2
 ·by_cases g2:cmpK y z=0
  ·rw [cmpK_zero hy hz] at g2;subst g2;exact h1
  ·have:=cmpK_pos hz hy hx (by omega) (by omega)
   omega
theorem cmpK_lt_le {x y z:Nm} (hx:Ok x) (hy:Ok y) (hz:Ok z) (h1:cmpK x y<0) (h2:cmpK y z≤0):cmpK x z<0:=by
 have h:=cmpK_le hx hy hz (by omega) h2
 rcases Int.lt_or_eq_of_le h with h | h
 ·exact h
 ·rw [cmpK_zero hx hz] at h
  subst h
  have:=cmpK_neg hx hy
  omega
def absN (x:Nm):Nm:=if sgnN x<0 then negN x else x
def cj2 (x:Nm):Nm:=⟨x.c0,x.c1,-x.c2,-x.c3,x.d⟩
def cj1 (x:Nm):Nm:=⟨x.c0,-x.c1,x.c2,-x.c3,x.d⟩
theorem cj2_ok {x:Nm} (hx:Ok x):Ok (cj2 x):=⟨hx.pos,by have:=hx.cop;unfold cof at *;unfold cj2;simpa using this⟩
theorem cj1_ok {x:Nm} (hx:Ok x):Ok (cj1 x):=⟨hx.pos,by have:=hx.cop;unfold cof at *;unfold cj1;simpa using this⟩
theorem ne_zN {x:Nm} (hx:Ok x) (h:x≠zN):sgnN x≠0:=fun e=>h ((sgn_zero hx).1 e)
theorem mulN_ne {x y:Nm} (hx:Ok x) (hy:Ok y) (h1:x≠zN) (h2:y≠zN):mulN x y≠zN:=fun e=>by
 have h:=(sgn_zero (mulN_ok hx hy)).2 e
 rw [sgn_mul hx hy] at h
 rcases Int.mul_eq_zero.1 h with h | h
 ·exact ne_zN hx h1 h
 ·exact ne_zN hy h2 h
theorem zN_iff {x:Nm} (hx:Ok x):x=zN↔x.c0=0∧x.c1=0∧x.c2=0∧x.c3=0:=by
 constructor
 ·rintro rfl;exact ⟨rfl,rfl,rfl,rfl⟩
 ·rintro ⟨h0,h1,h2,h3⟩
  refine (sgn_zero hx).1 ?_
  unfold sgnN
  rw [h0,h1,h2,h3]
  decide
theorem cj2_ne {x:Nm} (hx:Ok x) (h:x≠zN):cj2 x≠zN:=fun e=>h (by
 rw [zN_iff (cj2_ok hx)] at e
 rw [zN_iff hx]
 unfold cj2 at e
 simp only at e
 omega)
theorem cj1_ne {x:Nm} (hx:Ok x) (h:x≠zN):cj1 x≠zN:=fun e=>h (by
 rw [zN_iff (cj1_ok hx)] at e
 rw [zN_iff hx]
 unfold cj1 at e
 simp only at e
 omega)
def twoN (y:Nm):Nm:=mulN y (cj2 y)
def uniN (y:Nm):Nm:=mulN (twoN y) (cj1 (twoN y))
def invN (y:Nm):Nm:=low ⟨(uniN y).d,0,0,0,(uniN y).c0⟩
def divN (x y:Nm):Nm:=mulN (mulN x (cj2 y)) (mulN (cj1 (twoN y)) (invN y))
theorem twoN_ok {y:Nm} (hy:Ok y):Ok (twoN y):=mulN_ok hy (cj2_ok hy)
theorem uniN_ok {y:Nm} (hy:Ok y):Ok (uniN y):=mulN_ok (twoN_ok hy) (cj1_ok (twoN_ok hy))
theorem c_zero {a d:Int} (hd:d≠0) (h:(a:Rat) / d=0):a=0:=by
 have h1:(a:Rat) / d=((0:Int):Rat) / ((1:Int):Rat):=by rw [h];simp;grind
 have h2:=(rdiv_eq hd (by decide)).1 h1
 omega
theorem twoN_zero {y:Nm} (hy:Ok y):(twoN y).c2=0∧(twoN y).c3=0:=by
 have h:toK (twoN y)=toK y * toK (cj2 y):=toK_mul hy (cj2_ok hy)
 have hn:=(twoN_ok hy).ne
 have hc:=congrArg K.c h
 have hd:=congrArg K.d h
 simp only [K.mul_def,toK,cj2] at hc hd
 have hy':=rne hy.ne
 exact ⟨c_zero hn (by rw [hc];push_cast;grind),c_zero hn (by rw [hd];push_cast;grind)⟩
theorem uniN_zero {y:Nm} (hy:Ok y):(uniN y).c1=0∧(uniN y).c2=0∧(uniN y).c3=0:=by
 have ht:=twoN_ok hy
 have h:toK (uniN y)=toK (twoN y) * toK (cj1 (twoN y)):=toK_mul ht (cj1_ok ht)
 obtain ⟨z2,z3⟩:=twoN_zero hy
 have hn:=(uniN_ok hy).ne
 have hb:=congrArg K.b h
 have hc:=congrArg K.c h
 have hd:=congrArg K.d h
 simp only [K.mul_def,toK,cj1,z2,z3] at hb hc hd
 refine ⟨c_zero hn (by rw [hb];push_cast;grind),c_zero hn (by rw [hc];push_cast;grind),c_zero hn (by rw [hd];push_cast;grind)⟩
theorem uniN_c0 {y:Nm} (hy:Ok y) (h:y≠zN):(uniN y).c0≠0:=fun e=>by
 have ht:=twoN_ok hy
 refine mulN_ne ht (cj1_ok ht) ?_ ?_ ((zN_iff (uniN_ok hy)).2 ⟨e,uniN_zero hy⟩)
 ·exact mulN_ne hy (cj2_ok hy) h (cj2_ne hy h)
 ·exact cj1_ne ht (mulN_ne hy (cj2_ok hy) h (cj2_ne hy h))
theorem invN_ok {y:Nm} (hy:Ok y) (h:y≠zN):Ok (invN y):=low_ok (uniN_c0 hy h)

def zint (n:Int):Nm:=⟨n,0,0,0,1⟩
theorem zint_ok (n:Int):Ok (zint n):=⟨by show (0:Int)<1;decide,by unfold cof zint;simp⟩
theorem sg_of {x:H} {s:Int} (h:hSg x s) (hp:P2 x):s=1:=hSg_eq h (.inl ⟨rfl,hp⟩)
def NN (x:H):Prop:=x=0∨P2 x
theorem NN.add {x y:H} (hx:NN x) (hy:NN y):NN (x+y):=by
 have e0:∀ z:H,0+z=z:=fun z=>by apply H_ext <;> simp only [H.add_a,H.add_b,E.add_a,E.add_b,H.zero_a,H.zero_b,E.zero_a,E.zero_b] <;> omega
 have e1:∀ z:H,z+0=z:=fun z=>by apply H_ext <;> simp only [H.add_a,H.add_b,E.add_a,E.add_b,H.zero_a,H.zero_b,E.zero_a,E.zero_b] <;> omega
 rcases hx with rfl | hx
 ·rw [e0];exact hy
 ·rcases hy with rfl | hy
  ·rw [e1];exact .inr hx
  ·exact .inr (hadd hx hy)
theorem NN.pos {x y:H} (hx:NN x) (hy:P2 y):P2 (x+y):=by
 have e0:∀ z:H,0+z=z:=fun z=>by apply H_ext <;> simp only [H.add_a,H.add_b,E.add_a,E.add_b,H.zero_a,H.zero_b,E.zero_a,E.zero_b] <;> omega
 rcases hx with rfl | hx
 ·rw [e0];exact hy
 ·exact hadd hx hy
theorem NN.sgn {a b c d:Int} (h:NN ⟨⟨a,b⟩,⟨c,d⟩⟩):0≤s4 a b c d:=by
 rcases h with h | h
 ·rw [hSg_eq (hSg_s4 a b c d) (.inr (.inl ⟨rfl,h⟩))];decide
 ·rw [sg_of (hSg_s4 a b c d) h];decide
theorem NN_int {k:Int} (h:0≤k):NN (ofZ k):=by
 rcases Int.lt_or_eq_of_le h with h | h
 ·exact .inr (ofZ_pos h)
 ·subst h;exact .inl rfl
theorem sq_le_mm {m c k:Int} (h1:k * c≤m) (h2:-(k * c)≤m):k * c * (k * c)≤m * m:=by
 rcases Int.le_total 0 (k * c) with h | h
 ·exact Int.mul_le_mul h1 h1 h (by omega)
 ·have:=Int.mul_le_mul h2 h2 (by omega) (by omega)
  rwa [Int.neg_mul_neg] at this
theorem sq_pos0 {c:Int} (h:c≠0):0<c * c:=by
 rcases Int.lt_or_gt_of_ne h with h | h
 ·exact Int.mul_pos_of_neg_of_neg h h
 ·exact Int.mul_pos h h
theorem P1_two {m c:Int} (h1:2 * c≤m) (h2:-(2 * c)≤m) (hc:c≠0):P1 ⟨m,c⟩:=by
 have h:=sq_le_mm h1 h2
 have h3:=sq_pos0 hc
 have e:2 * c * (2 * c)=4 * (c * c):=by grind
 exact .inl ⟨by unfold eN P0;simp only;omega,by unfold P0;show 0<m;omega⟩
theorem P1_int {m:Int} (h:0<m):P1 ⟨m,0⟩:=.inl ⟨by unfold eN P0;have:=Int.mul_pos h h;simp only;omega,h⟩
theorem NN_two {m c:Int} (h1:2 * c≤m) (h2:-(2 * c)≤m):NN ⟨⟨m,c⟩,⟨0,0⟩⟩:=by
 by_cases hc:c=0
 ·subst hc;exact NN_int (by omega)
 ·have h:=P1_two h1 h2 hc
  refine .inr (.inl ⟨?_,h⟩)
  have h3:=emul h h
  rwa [show (⟨m,c⟩:E) * ⟨m,c⟩=hN ⟨⟨m,c⟩,⟨0,0⟩⟩ from by
   unfold hN
   apply E.ext <;> simp only [E.mul_a,E.mul_b,E.sub_a,E.sub_b,three] <;> grind] at h3
theorem NN_three {m c:Int} (h1:2 * c≤m) (h2:-(2 * c)≤m):NN ⟨⟨m,0⟩,⟨c,0⟩⟩:=by
 by_cases hc:c=0
 ·subst hc;exact NN_int (by omega)
 ·have h:=sq_le_mm h1 h2
  have h3:=sq_pos0 hc
  have e:2 * c * (2 * c)=4 * (c * c):=by grind
  refine .inr (.inl ⟨?_,P1_int (by omega)⟩)
  have h4:P1 ⟨m * m - 3 * (c * c),0⟩:=P1_int (by omega)
  rwa [show (⟨m * m - 3 * (c * c),0⟩:E)=hN ⟨⟨m,0⟩,⟨c,0⟩⟩ from by
   unfold hN
   apply E.ext <;> simp only [E.mul_a,E.mul_b,E.sub_a,E.sub_b,three] <;> grind] at h4
theorem NN_six {m c:Int} (h1:3 * c≤m) (h2:-(3 * c)≤m):NN ⟨⟨m,0⟩,⟨0,c⟩⟩:=by
 by_cases hc:c=0
 ·subst hc;exact NN_int (by omega)
 ·have h:=sq_le_mm h1 h2
  have h3:=sq_pos0 hc
  have e:3 * c * (3 * c)=9 * (c * c):=by grind
  refine .inr (.inl ⟨?_,P1_int (by omega)⟩)
  have h4:P1 ⟨m * m - 6 * (c * c),0⟩:=P1_int (by omega)
  rwa [show (⟨m * m - 6 * (c * c),0⟩:E)=hN ⟨⟨m,0⟩,⟨0,c⟩⟩ from by
   unfold hN
   apply E.ext <;> simp only [E.mul_a,E.mul_b,E.sub_a,E.sub_b,three] <;> grind] at h4
theorem NN_all {m b c d:Int} (h:2 * (b.natAbs:Int)+2 * (c.natAbs:Int)+3 * (d.natAbs:Int)≤m):NN ⟨⟨m,b⟩,⟨c,d⟩⟩:=by
 have h1:NN ⟨⟨2 * (b.natAbs:Int),b⟩,⟨0,0⟩⟩:=NN_two (by omega) (by omega)
 have h2:NN ⟨⟨2 * (c.natAbs:Int),0⟩,⟨c,0⟩⟩:=NN_three (by omega) (by omega)
 have h3:NN ⟨⟨3 * (d.natAbs:Int),0⟩,⟨0,d⟩⟩:=NN_six (by omega) (by omega)
 have h4:NN (ofZ (m - (2 * (b.natAbs:Int)+2 * (c.natAbs:Int)+3 * (d.natAbs:Int)))):=NN_int (by omega)
 have h5:=((h1.add h2).add h3).add h4
 rwa [show (⟨⟨2 * (b.natAbs:Int),b⟩,⟨0,0⟩⟩:H)+⟨⟨2 * (c.natAbs:Int),0⟩,⟨c,0⟩⟩+⟨⟨3 * (d.natAbs:Int),0⟩,⟨0,d⟩⟩+ofZ (m - (2 * (b.natAbs:Int)+2 * (c.natAbs:Int)+3 * (d.natAbs:Int)))=⟨⟨m,b⟩,⟨c,d⟩⟩ from by
  unfold ofZ
  apply H_ext <;> simp only [H.add_a,H.add_b,E.add_a,E.add_b] <;> omega] at h5
theorem s4_pos {m b c d:Int} (h:2 * (b.natAbs:Int)+2 * (c.natAbs:Int)+3 * (d.natAbs:Int)<m):s4 m b c d=1:=by
 have h1:NN ⟨⟨m - 1,b⟩,⟨c,d⟩⟩:=NN_all (by omega)
 have h2:=h1.pos (ofZ_pos (k:=1) (by decide))
 rw [show (⟨⟨m - 1,b⟩,⟨c,d⟩⟩:H)+ofZ 1=⟨⟨m,b⟩,⟨c,d⟩⟩ from by
  unfold ofZ
  apply H_ext <;> simp only [H.add_a,H.add_b,E.add_a,E.add_b] <;> omega] at h2
 exact sg_of (hSg_s4 m b c d) h2
theorem s4_neg (a b c d:Int):s4 (-a) (-b) (-c) (-d) = -s4 a b c d:=by
 have h:=hSg_neg (hSg_s4 a b c d)
 exact hSg_eq (hSg_s4 _ _ _ _) h
theorem cmp_int {x:Nm} (hx:Ok x) (n:Int):cmpK (zint n) x=s4 (n * x.d - x.c0) (-x.c1) (-x.c2) (-x.c3):=by
 unfold cmpK subN addN
 rw [sgn_low (x:=addR (zint n) (negN x)) (by unfold addR zint negN;simp only;have:=hx.pos;omega)]
 unfold sgnN addR zint negN
 simp only
 congr 1 <;> omega
def bigN (x:Nm):Int:=(x.c0.natAbs:Int)+2 * (x.c1.natAbs:Int)+2 * (x.c2.natAbs:Int)+3 * (x.c3.natAbs:Int)
theorem low_bound {x:Nm} (hx:Ok x):cmpK (zint (-bigN x)) x≤0:=by
 rw [cmp_int hx,show -bigN x * x.d - x.c0 = -(bigN x * x.d+x.c0) by rw [Int.neg_mul];omega,s4_neg]
 have h0:0≤bigN x:=by unfold bigN;omega
 have h1:bigN x * 1≤bigN x * x.d:=Int.mul_le_mul_of_nonneg_left (by have:=hx.pos;omega) h0
 have h2:NN ⟨⟨bigN x * x.d+x.c0,x.c1⟩,⟨x.c2,x.c3⟩⟩:=NN_all (by unfold bigN at *;omega)
 have:=h2.sgn
 omega
theorem high_bound {x:Nm} (hx:Ok x):0<cmpK (zint (bigN x+1)) x:=by
 rw [cmp_int hx]
 have h0:0≤bigN x:=by unfold bigN;omega
 have h1:(bigN x+1) * 1≤(bigN x+1) * x.d:=Int.mul_le_mul_of_nonneg_left (by have:=hx.pos;omega) (by omega)
 rw [s4_pos (by simp only [Int.natAbs_neg];unfold bigN at *;omega)]
 decide
theorem cmp_ints (n m:Int):cmpK (zint n) (zint m)=(n - m).sign:=by
 rw [cmp_int (zint_ok m)]
 show s4 (n * 1 - m) (-0) (-0) (-0)=_
 rw [Int.mul_one]
 rcases Int.lt_trichotomy (n - m) 0 with h | h | h
 ·rw [show n - m = -(m - n) by omega,s4_neg,s4_pos (by simp;omega),Int.sign_neg,Int.sign_eq_one_of_pos (by omega)]
 ·rw [h];decide
 ·rw [s4_pos (by simp;omega),Int.sign_eq_one_of_pos h]
theorem int_le {n m:Int} (h:n≤m):cmpK (zint n) (zint m)≤0:=by
 rw [cmp_ints]
 exact Int.sign_nonpos_iff.2 (by omega)
structure Fl (x:Nm) (f:Int):Prop where
 lo:cmpK (zint f) x≤0
 hi:0<cmpK (zint (f+1)) x
theorem Fl.iff {x:Nm} {f:Int} (hx:Ok x) (h:Fl x f) (n:Int):0<cmpK (zint n) x↔f<n:=by
 constructor
 ·intro hn
  rcases Int.lt_or_le f n with h1 | h1
  ·exact h1
  ·have:=cmpK_le (zint_ok n) (zint_ok f) hx (int_le h1) h.lo
   omega
 ·intro hn
  have h1:=cmpK_neg (zint_ok (f+1)) hx
  have h2:=h.hi
  have h3:=cmpK_lt_le hx (zint_ok (f+1)) (zint_ok n) (by omega) (int_le (by omega))
  have h4:=cmpK_neg (zint_ok n) hx
  omega
theorem Fl.uniq {x:Nm} {f g:Int} (hx:Ok x) (h:Fl x f) (h':Fl x g):f=g:=by
 have h1:=(h.iff hx (g+1)).1 h'.hi
 have h2:=(h'.iff hx (f+1)).1 h.hi
 omega
theorem Fl.ex {x:Nm} (hx:Ok x):∃ f,Fl x f:=by
 have go:∀ (k:Nat) (n:Int),cmpK (zint n) x≤0→0<cmpK (zint (n+k)) x→∃ f,Fl x f:=by
  intro k
  induction k with
  | zero=>intro n h1 h2;rw [show n+((0:Nat):Int)=n by omega] at h2;omega
  | succ k ih =>
   intro n h1 h2
   rcases Int.lt_or_le 0 (cmpK (zint (n+1)) x) with h | h
   ·exact ⟨n,h1,h⟩
   ·exact ih (n+1) h (by rwa [show n+1+(k:Int)=n+((k+1:Nat):Int) by omega])
 have h1:=low_bound hx
 have h2:=high_bound hx
 have h0:0≤bigN x:=by unfold bigN;omega
 refine go (2 * bigN x+1).toNat (-bigN x) h1 ?_
 rwa [show -bigN x+((2 * bigN x+1).toNat:Int)=bigN x+1 by omega]
theorem Fl.bound {x:Nm} {f:Int} (hx:Ok x) (h:Fl x f):f.natAbs≤(bigN x).natAbs:=by
 have h1:=(h.iff hx (bigN x+1)).1 (high_bound hx)
 have h2:¬ f < -bigN x:=fun h3=>by
  have:=(h.iff hx (-bigN x)).2 h3
  have:=low_bound hx
  omega
 have h0:0≤bigN x:=by unfold bigN;omega
 omega
theorem isq_ex (n:Nat):∃ r:Nat,r * r≤n∧n<(r+1) * (r+1):=by
 induction n with
 | zero=>exact ⟨0,by decide,by decide⟩
 | succ n ih =>
  obtain ⟨r,h1,h2⟩:=ih
  by_cases h:n+1<(r+1) * (r+1)
  ·exact ⟨r,by omega,h⟩
  ·refine ⟨r+1,by omega,?_⟩
   have e:(r+1+1) * (r+1+1)=(r+1) * (r+1)+2 * r+3:=by grind
   omega
theorem isq_uniq {n r q:Nat} (h1:r * r≤n) (h2:n<(r+1) * (r+1)) (h3:q * q≤n) (h4:n<(q+1) * (q+1)):r=q:=by
 rcases Nat.lt_trichotomy r q with h | h | h
 ·have:=Nat.mul_le_mul (show r+1≤q from h) (show r+1≤q from h);omega
 ·exact h
 ·have:=Nat.mul_le_mul (show q+1≤r from h) (show q+1≤r from h);omega
end Go.Proofs.YtlhddcingeneaaaGreatDoor
