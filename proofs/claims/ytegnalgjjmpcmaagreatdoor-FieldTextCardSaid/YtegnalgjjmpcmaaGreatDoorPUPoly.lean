/- Polynomial identities in the ring of four rational parts, decided by reckoning: both sides are written out as sums of products, and compared as lists. No function of the program. -/
import Derived.Test.YtegnalgjjmpcmaaGreatDoorPUH
import Derived.KernelRfl
namespace Go.Proofs.YtegnalgjjmpcmaaGreatDoor
set_option linter.unusedVariables false
set_option linter.unusedSimpArgs false
inductive PE
 | v (n:Nat)
 | one
 | add (a b:PE)
 | mul (a b:PE)
 | neg (a:PE)
def PE.den (f:Nat→K):PE→K
 | .v n=>f n
 | .one=>1
 | .add a b=>a.den f+b.den f
 | .mul a b=>a.den f * b.den f
 | .neg a=>-(a.den f)
def mins (x:Nat):List Nat→List Nat
 | []=>[x]
 | y :: l=>bif Nat.ble x y then x :: y :: l else y :: mins x l
def mmul (a b:List Nat):List Nat:=a.foldr mins b
def pmul (a b:List (List Nat)):List (List Nat):=a.flatMap fun x=>b.map fun y=>mmul x y
def PE.nf:PE→List (List Nat) × List (List Nat)
 | .v n=>([[n]],[])
 | .one=>([[]],[])
 | .add a b=>(a.nf.1++b.nf.1,a.nf.2++b.nf.2)
 | .neg a=>(a.nf.2,a.nf.1)
 | .mul a b=>(pmul a.nf.1 b.nf.1++pmul a.nf.2 b.nf.2,pmul a.nf.1 b.nf.2++pmul a.nf.2 b.nf.1)
def mden (f:Nat→K):List Nat→K
 | []=>1
 | x :: l=>f x * mden f l
def sden (f:Nat→K):List (List Nat)→K
 | []=>0
 | m :: l=>mden f m+sden f l
theorem K.zero_add (x:K):0+x=x:=by rw [K.add_comm,K.add_zero]
theorem K.one_mul (x:K):1 * x=x:=by rw [K.mul_comm,K.mul_one]
theorem K.mul_zero (x:K):x * 0=0:=by rw [K.mul_comm,K.zero_mul]
theorem K.neg_zero:-(0:K)=0:=by
 have:=K.add_neg 0
 rwa [K.zero_add] at this
theorem zpm (f:Nat→K) (x:Nat):∀ l,mden f (mins x l)=f x * mden f l:=by
 intro l
 induction l with
 | nil=>rfl
 | cons y l ih =>
  unfold mins
  cases Nat.ble x y with
  | true=>rfl
  | false=>simp only [cond_false,mden];rw [ih,K.mul_left_comm]
theorem zpc (f:Nat→K) (a b:List Nat):mden f (mmul a b)=mden f a * mden f b:=by
 induction a with
 | nil=>simp only [mmul,List.foldr_nil,mden];rw [K.one_mul]
 | cons x a ih =>
  unfold mmul at *
  rw [List.foldr_cons,zpm,ih]
  simp only [mden]
  rw [K.mul_assoc]
theorem zbu (f:Nat→K) (a b:List (List Nat)):sden f (a++b)=sden f a+sden f b:=by
 induction a with
 | nil=>simp only [List.nil_append,sden];rw [K.zero_add]
 | cons x a ih=>simp only [List.cons_append,sden];rw [ih,K.add_assoc]
theorem zn0 (f:Nat→K) (x:List Nat) (b:List (List Nat)):sden f (b.map fun y=>mmul x y)=mden f x * sden f b:=by
 induction b with
 | nil=>simp only [List.map_nil,sden];rw [K.mul_zero]
 | cons y b ih=>simp only [List.map_cons,sden];rw [ih,zpc,K.mul_add]
theorem zeH (f:Nat→K) (a b:List (List Nat)):sden f (pmul a b)=sden f a * sden f b:=by
 unfold pmul
 induction a with
 | nil=>simp only [List.flatMap_nil,sden];rw [K.zero_mul]
 | cons x a ih=>simp only [List.flatMap_cons,sden];rw [zbu,zn0,ih,K.add_mul]
theorem K.add4 (a b c d:K):a+b+(c+d)=a+c+(b+d):=by rw [K.add_assoc,K.add_assoc,K.add_left_comm b]
theorem PE.nf_den (f:Nat→K) (e:PE):e.den f=sden f e.nf.1 + -sden f e.nf.2:=by
 induction e with
 | v n =>
  simp only [PE.den,PE.nf,sden,mden]
  rw [K.neg_zero,K.add_zero,K.add_zero,K.mul_one]
 | one =>
  simp only [PE.den,PE.nf,sden,mden]
  rw [K.neg_zero,K.add_zero,K.add_zero]
 | add a b ha hb =>
  simp only [PE.den,PE.nf]
  rw [ha,hb,zbu,zbu,K.neg_add,K.add4]
 | neg a ha =>
  simp only [PE.den,PE.nf]
  rw [ha,K.neg_add,K.neg_neg,K.add_comm]
 | mul a b ha hb =>
  simp only [PE.den,PE.nf]
  rw [ha,hb,zbu,zbu,zeH,zeH,zeH,zeH]
  generalize sden f a.nf.1=a1
  generalize sden f a.nf.2=a2
  generalize sden f b.nf.1=b1
  generalize sden f b.nf.2=b2
  rw [K.mul_add,K.add_mul,K.add_mul,K.neg_mul,K.neg_mul,K.mul_neg,K.mul_neg,K.neg_neg,K.neg_add]
  have key:∀ p q r s:K,p + -r+(-q+s)=p+s+(-q + -r):=fun p q r s=>by
   rw [K.add_assoc,K.add_assoc]
   congr 1
   rw [← K.add_assoc,K.add_comm,K.add_comm (-r)]
  exact key _ _ _ _
theorem zlY (f:Nat→K) {a b:List (List Nat)} (h:a.Perm b):sden f a=sden f b:=by
 induction h with
 | nil=>rfl
 | cons x _ ih=>simp only [sden];rw [ih]
 | swap x y l=>simp only [sden];rw [K.add_left_comm]
 | trans _ _ h1 h2=>exact h1.trans h2
theorem K.cancel {a b c:K} (h:a+c=b+c):a=b:=by
 have h2:=congrArg (· + -c) h
 simp only [K.add_assoc,K.add_neg,K.add_zero] at h2
 exact h2
theorem PE.same (f:Nat→K) (a b:PE) (h:(a.nf.1++b.nf.2).isPerm (b.nf.1++a.nf.2)=true):a.den f=b.den f:=by
 have h1:=zlY f (List.isPerm_iff.1 h)
 rw [zbu,zbu] at h1
 rw [PE.nf_den f a,PE.nf_den f b]
 refine K.cancel (c:=sden f a.nf.2+sden f b.nf.2) ?_
 have t:∀ x y z:K,x + -y+(y+z)=x+z:=fun x y z=>by rw [K.add_assoc,← K.add_assoc (-y),K.add_comm (-y),K.add_neg,K.zero_add]
 rw [t,K.add_comm (sden f a.nf.2),t,h1]
end Go.Proofs.YtegnalgjjmpcmaaGreatDoor
