import Derived.Test.YtlhddcingeneaaaGreatDoorPNI
import Derived.Test.YtlhddcingeneaaaGreatDoorPNH
import Derived.Test.YtlhddcingeneaaaGreatDoorPNB
/- The given program's field: the integer part. -/
set_option linter.unusedVariables false
set_option linter.unusedSimpArgs false
set_option maxRecDepth 100000
set_option maxHeartbeats 8000000
namespace Go.Proofs.YtlhddcingeneaaaGreatDoor
open Go Go.RowKit
theorem Sqrt_q (n q:Nat) (w:World) (hx:Bd 100000000 n) (h1:q * q≤n) (h2:n<(q+1) * (q+1)):Calls Tryz.prog 156 #[vI n] w (RetIE q 0 w):=by
 by_cases hn:n=0
 ·subst hn
  have hq:q=0:=by
   rcases Nat.eq_zero_or_pos q with h | h
   ·exact h
   ·have:=Nat.mul_pos h h;omega
  subst hq
  exact Sqrt_zero w
 ·refine (Sqrt_any n w hx hn).mono ?_
  rintro e w' ⟨r,h,h3,h4⟩
  rwa [isq_uniq h3 h4 h1 h2] at h
noncomputable def isq (n:Nat):Nat:=Classical.choose (isq_ex n)
theorem isq_le (n:Nat):isq n * isq n≤n:=(Classical.choose_spec (isq_ex n)).1
theorem isq_lt (n:Nat):n<(isq n+1) * (isq n+1):=(Classical.choose_spec (isq_ex n)).2
noncomputable def rootZ (k:Nat) (c:Int):Int:=if c<0 then -((isq (k * (c.natAbs * c.natAbs)):Nat):Int) else ((isq (k * (c.natAbs * c.natAbs)):Nat):Int)
theorem isq_bound (k c:Nat) (hk:k≤9):isq (k * (c * c))≤3 * c:=by
 have h:=isq_le (k * (c * c))
 rcases Nat.lt_or_ge (3 * c) (isq (k * (c * c))) with h1 | h1
 ·exfalso
  have h2:=Nat.mul_le_mul (show 3 * c+1≤isq (k * (c * c)) from h1) (show 3 * c+1≤isq (k * (c * c)) from h1)
  have h3:k * (c * c)≤9 * (c * c):=Nat.mul_le_mul_right _ hk
  have e:(3 * c+1) * (3 * c+1)=9 * (c * c)+6 * c+1:=by grind
  omega
 ·exact h1
theorem Bd.rootZ {k:Nat} {c:Int} (n:Nat) (hn:n≤9) (h:Bd k c):Bd (k+1) (rootZ n c):=by
 have h1:=isq_bound n c.natAbs hn
 have h2:Bd (k+1) (3 * c):=((show Bd 1 3 by unfold Bd;decide).mul h).mono (by omega)
 refine h2.le ?_
 unfold Go.Proofs.YtlhddcingeneaaaGreatDoor.rootZ
 rw [Int.natAbs_mul,show Int.natAbs 3=3 from rfl]
 split <;> omega
theorem Bd.fdiv1 {k:Nat} {x y:Int} (h:Bd k x) (hk:1≤k) (hy:y≠0):Bd (k+1) (x.fdiv y):=by
 by_cases hs:x.tmod y=0∨sg x=sg y
 ·rw [(fdiv_same hy hs).1];exact (h.tdiv).mono (by omega)
 ·have h':x.tmod y≠0∧sg x≠sg y:=⟨fun e=>hs (.inl e),fun e=>hs (.inr e)⟩
  rw [(fdiv_less hy h'.1 h'.2).1];exact (h.tdiv).sub (Bd.one hk)
theorem frooted_any (k:Nat) (c:Int) (w:World) (hk:k≤9) (hc:Bd 10000000 c):Calls Tryz.prog 97 #[vI c,.int .i64 k] w (RetI (rootZ k c) w):=by
 have T:=fun w=>ftimes_any (k:Int) c c w (by omega) (hc.mono (by omega)) (hc.mono (by omega))
 have e:(k:Int) * (c * c)=((k * (c.natAbs * c.natAbs):Nat):Int):=by rw [Int.natCast_mul,Int.natAbs_mul_self]
 have hb:Bd 20000001 ((k:Int) * (c * c)):=((show Bd 1 (k:Int) by unfold Bd;omega).mul (hc.mul2 hc)).mono (by omega)
 rw [e] at T hb
 have Q:=fun w=>Sqrt_q (k * (c.natAbs * c.natAbs)) (isq (k * (c.natAbs * c.natAbs))) w (hb.mono (by omega)) (isq_le _) (isq_lt _)
 have S:=fun w=>Sign_any c w
 have N:=fun w=>Neg_any ((isq (k * (c.natAbs * c.natAbs)):Nat):Int) w
 unfold rootZ
 generalize ((isq (k * (c.natAbs * c.natAbs)):Nat):Int)=q at *
 generalize ((k * (c.natAbs * c.natAbs):Nat):Int)=n at *
 by_cases h:c<0
 ·have hs:decide (c.sign<0)=true:=decide_eq_true (by rw [Int.sign_eq_neg_one_of_neg h];omega)
  rw [if_pos h]
  show Calls Tryz.prog 97 #[.agg #[.bool (sg c),.string (mg c)],.int .i64 k] w (RetV (vI (-q)) w)
  exact vm_pure kr Tryz.func97 rfl [.agg #[.bool (sg c),.string (mg c)],.int .i64 k] nle [] [(.p _ true hs)] [cV (T),cV (Q),cV (S),cV (N)]
 ·have hs:decide (c.sign<0)=false:=decide_eq_false (by have:=Int.sign_nonneg_iff.2 (show 0≤c by omega);omega)
  rw [if_neg h]
  show Calls Tryz.prog 97 #[.agg #[.bool (sg c),.string (mg c)],.int .i64 k] w (RetV (vI q) w)
  exact vm_pure kr Tryz.func97 rfl [.agg #[.bool (sg c),.string (mg c)],.int .i64 k] nle [] [(.p _ false hs)] [cV (T),cV (Q),cV (S)]
theorem Bd.between {k:Nat} {a b m:Int} (ha:Bd k a) (hb:Bd k b) (h1:a≤m) (h2:m≤b):Bd k m:=by
 unfold Bd at *
 omega
noncomputable def flN:Nat:=Tryz.f48.ntmps
noncomputable def flC:Code:=Tryz.f48.body.getD .skip
noncomputable def fl2:Code:=cB 2 flC
noncomputable def fl4:Code:=cB 4 flC
noncomputable def fl24:Code:=(cPost 2 flC).headD .skip
noncomputable def fl0 (x:Nm):Int:=(x.c0+rootZ 2 x.c1+rootZ 3 x.c2+rootZ 6 x.c3).fdiv x.d
def xcN (x:Nm):Array Value:=#[.bool (sg x.c0),.string (mg x.c0),.bool (sg x.c1),.string (mg x.c1),.bool (sg x.c2),.string (mg x.c2),.bool (sg x.c3),.string (mg x.c3),.bool (sg x.d),.string (mg x.d)]
def cI1 (n:Int):Array Value:=#[.bool (sg n),.string (mg n)]
def cZ1:Array Value:=#[.bool false,.string ⟨#[]⟩]
theorem Bd.fl0 {x:Nm} {k:Nat} (h:BN k x) (hd:x.d≠0):Bd (k+5) (fl0 x) :=
 ((((((h.h0.mono (show k≤k+1 by omega)).add (h.h1.rootZ 2 (by omega))).add ((h.h2.rootZ 3 (by omega)).mono (by omega))).add ((h.h3.rootZ 6 (by omega)).mono (by omega))).fdiv1 (by omega) hd)).mono (by omega)
theorem fFloor_fl (x:Nm) (f:Int) (w:World) (hx:BN 4000000 x) (ox:Ok x) (hf:Fl x f):Calls Tryz.prog 48 #[vN x] w (RetI f w):=by
 have V:=fun w=>fValid_yes x w (hx.mono (by omega)) ox
 have R1:=fun w=>frooted_any 2 x.c1 w (by omega) (hx.h1.mono (by omega))
 have R2:=fun w=>frooted_any 3 x.c2 w (by omega) (hx.h2.mono (by omega))
 have R3:=fun w=>frooted_any 6 x.c3 w (by omega) (hx.h3.mono (by omega))
 have b1:=hx.h1.rootZ 2 (by omega)
 have b2:=hx.h2.rootZ 3 (by omega)
 have b3:=hx.h3.rootZ 6 (by omega)
 have s1:=(hx.h0.mono (show 4000000≤4000000+1 by omega)).add b1
 have s2:=s1.add (b2.mono (by omega))
 have s3:=s2.add (b3.mono (by omega))
 have A1:=fun w=>Add_any _ _ w (hx.h0.mono (by omega)) (b1.mono (by omega))
 have A2:=fun w=>Add_any _ _ w (s1.mono (by omega)) (b2.mono (by omega))
 have A3:=fun w=>Add_any _ _ w (s2.mono (by omega)) (b3.mono (by omega))
 have D:=fun w=>DivMod_any _ x.d w (s3.mono (by omega)) (hx.h4.mono (by omega)) ox.ne
 have O:=fun w=>Of_any 1 w (by omega) (by omega)
 have b0:=Bd.fl0 hx ox.ne
 change ∀ w,Calls Tryz.prog 98 #[vI (x.c0+rootZ 2 x.c1+rootZ 3 x.c2+rootZ 6 x.c3),vI x.d] w (fun e w'=>e = .returned (.tuple #[vI (fl0 x),vI ((x.c0+rootZ 2 x.c1+rootZ 3 x.c2+rootZ 6 x.c3).fmod x.d),.int .i64 0])∧Below w.heap.size w w') at D
 generalize fl0 x=n0 at *
 generalize (x.c0+rootZ 2 x.c1+rootZ 3 x.c2+rootZ 6 x.c3).fmod x.d=m0 at *
 generalize x.c0+rootZ 2 x.c1+rootZ 3 x.c2+rootZ 6 x.c3=u3 at *
 generalize x.c0+rootZ 2 x.c1+rootZ 3 x.c2=u2 at *
 generalize x.c0+rootZ 2 x.c1=u1 at *
 generalize rootZ 2 x.c1=q1 at *
 generalize rootZ 3 x.c2=q2 at *
 generalize rootZ 6 x.c3=q3 at *
 clear b1 b2 b3 s1 s2 s3
 refine vm_start [vN x] (fn:=Tryz.f48) (c:=flC) kr kr nle ?_
 intro a hS
 refine wp_cut 2 kr ?_
 refine vf (X:=⟨w,[]⟩) [] flN (cPre 2 flC) (fun r=>[(0,(vN x,0))]) (fun r=>[]) 0 (fun _=>0) (hS) (⟨Chg.refl _ _,fun k x h=>(by cases h),fun k k' x x' h=>by cases h⟩) [.f,.t,.t,.t,.f] [cV (V),cV (R1),cV (A1),cV (R2),cV (A2),cV (R3),cV (A3),cV (D),cV (O)] (VEx.n) (fun r=>[(1,(.pointer (some ⟨r 0,0,none⟩),1)),(2,(.pointer (some ⟨r 1,0,none⟩),2)),(6,(.pointer (some ⟨r 76,0,none⟩),77)),(9,(.pointer (some ⟨r 82,0,none⟩),83))]) [] (fun r=>[(0,(28,xcN x)),(1,(25,cZ1)),(76,(25,cI1 n0)),(82,(25,cI1 1))]) ?_
 intro r a1 w1 hr hS1 hK1 hM1
 have bf:Bd 4000009 f:=by
  have h1:=hf.bound ox
  have e2:Bd (4000000+1) ((2:Int) * (x.c1.natAbs:Int)):=((show Bd 1 2 by unfold Bd;decide).mul (hx.h1.le (y:=(x.c1.natAbs:Int)) (by simp))).mono (by omega)
  have e3:Bd (4000000+1) ((2:Int) * (x.c2.natAbs:Int)):=((show Bd 1 2 by unfold Bd;decide).mul (hx.h2.le (y:=(x.c2.natAbs:Int)) (by simp))).mono (by omega)
  have e4:Bd (4000000+1) ((3:Int) * (x.c3.natAbs:Int)):=((show Bd 1 3 by unfold Bd;decide).mul (hx.h3.le (y:=(x.c3.natAbs:Int)) (by simp))).mono (by omega)
  have e1:Bd (4000000+1) (x.c0.natAbs:Int):=(hx.h0.le (y:=(x.c0.natAbs:Int)) (by simp)).mono (by omega)
  exact ((((e1.add e2).add (e3.mono (by omega))).add (e4.mono (by omega))).le (x:=bigN x) (y:=f) h1).mono (by omega)
 have b0':Bd 4000010 n0:=b0.mono (by omega)
 have HC:∀ n,Bd 4000010 n→∀ w,Calls Tryz.prog 99 #[vN (intN n),vN x] w (RetN (cmpK (zint n) x) w):=fun n hn w=>fCmp_any (intN n) x w ((BN.int hn (by omega)).mono (by omega)) (hx.mono (by omega)) (intN_ok n) ox
 have HW:=fun n w=>fwhole_any n w
 clear b0 hS hK1 V R1 R2 R3 A1 A2 A3 D O
 refine wp_for 2 kr kr (fun k a' w'=>∃ n,(n - f).toNat=k∧Bd 4000010 n∧St flN [(1,(.pointer (some ⟨r 0,0,none⟩),1)),(2,(.pointer (some ⟨r 1,0,none⟩),2)),(6,(.pointer (some ⟨r 76,0,none⟩),77)),(9,(.pointer (some ⟨r 82,0,none⟩),83))] a' ∧
  MemOk ⟨w,[]⟩ r [(0,(28,xcN x)),(1,(25,cZ1)),(76,(25,cI1 n)),(82,(25,cI1 1))] w') (n0 - f).toNat ⟨n0,rfl,b0',hS1,hM1⟩ ?_
 rintro k a2 w2 ⟨n,rfl,bn,hS2,hM2⟩
 refine wpL_one ?_
 have C:=HC n bn
 have W:=HW n
 by_cases hn:f<n
 ·have hc:decide (0<cmpK (zint n) x)=true:=decide_eq_true ((hf.iff ox n).2 hn)
  have S:=fun w=>Sub_any n 1 w (bn.mono (by omega)) (Bd.one (by omega))
  generalize cmpK (zint n) x=c at *
  generalize intN n=nn at *
  refine vk (X:=⟨w,[]⟩) [] flN [cI (cI fl2)] (fun r=>[(1,(.pointer (some ⟨r 0,0,none⟩),1)),(2,(.pointer (some ⟨r 1,0,none⟩),2)),(6,(.pointer (some ⟨r 76,0,none⟩),77)),(9,(.pointer (some ⟨r 82,0,none⟩),83))]) (fun r=>[(0,(28,xcN x)),(1,(25,cZ1)),(76,(25,cI1 n)),(82,(25,cI1 1))]) 100 (r) (hS2) (hM2) [(.p _ true hc)] [cV (W),cV (C),cV (S)] (VEx.n) (fun r=>[(1,(.pointer (some ⟨r 0,0,none⟩),1)),(2,(.pointer (some ⟨r 1,0,none⟩),2)),(6,(.pointer (some ⟨r 76,0,none⟩),77)),(9,(.pointer (some ⟨r 82,0,none⟩),83))]) [] (fun r=>[(0,(28,xcN x)),(1,(25,cZ1)),(76,(25,cI1 (n - 1))),(82,(25,cI1 1))]) ?_
  intro a3 w3 hS3 hK3 hM3
  exact ⟨(n - 1 - f).toNat,by omega,n - 1,rfl,(bf.mono (by omega)).between bn (by omega) (by omega),hS3,hM3⟩
 have hc:decide (0<cmpK (zint n) x)=false:=decide_eq_false (fun h=>hn ((hf.iff ox n).1 h))
 generalize cmpK (zint n) x=c at *
 generalize intN n=nn at *
 refine vk (X:=⟨w,[]⟩) [] flN [cI (cI fl2)] (fun r=>[(1,(.pointer (some ⟨r 0,0,none⟩),1)),(2,(.pointer (some ⟨r 1,0,none⟩),2)),(6,(.pointer (some ⟨r 76,0,none⟩),77)),(9,(.pointer (some ⟨r 82,0,none⟩),83))]) (fun r=>[(0,(28,xcN x)),(1,(25,cZ1)),(76,(25,cI1 n)),(82,(25,cI1 1))]) 100 (r) (hS2) (hM2) [(.p _ false hc)] [cV (W),cV (C)] (VEx.x 2) (fun r=>[(1,(.pointer (some ⟨r 0,0,none⟩),1)),(2,(.pointer (some ⟨r 1,0,none⟩),2)),(6,(.pointer (some ⟨r 76,0,none⟩),77)),(9,(.pointer (some ⟨r 82,0,none⟩),83))]) [] (fun r=>[(0,(28,xcN x)),(1,(25,cZ1)),(76,(25,cI1 n)),(82,(25,cI1 1))]) ?_
 intro a3 w3 hS3 hK3 hM3
 have e:cPost 2 flC = [fl24]:=by kernel_rfl
 refine exit_n (then_n ?_)
 rw [e]
 refine wpL_one ?_
 refine wp_cut 4 kr ?_
 have e2:cPre 4 fl24 = []:=by kernel_rfl
 rw [e2]
 refine wpL_nil (then_n ?_)
 refine wp_for 4 kr kr (fun k a' w'=>∃ n,(f - n).toNat=k∧n≤f∧Bd 4000010 n∧St flN [(1,(.pointer (some ⟨r 0,0,none⟩),1)),(2,(.pointer (some ⟨r 1,0,none⟩),2)),(6,(.pointer (some ⟨r 76,0,none⟩),77)),(9,(.pointer (some ⟨r 82,0,none⟩),83))] a' ∧
  MemOk ⟨w,[]⟩ r [(0,(28,xcN x)),(1,(25,cZ1)),(76,(25,cI1 n)),(82,(25,cI1 1))] w') (f - n).toNat ⟨n,rfl,by omega,bn,hS3,hM3⟩ ?_
 clear hS2 hM2 hS1 hM1 C W hc hS3 hM3 hn bn
 rintro k a2 w2 ⟨m,rfl,hm,bn,hS2,hM2⟩
 refine wpL_one ?_
 have A:=fun w=>Add_any m 1 w (bn.mono (by omega)) (Bd.one (by omega))
 by_cases hn:m=f
 ·subst hn
  have bn1:Bd 4000010 (m+1):=bf.add (Bd.one (by omega))
  have C:=HC (m+1) bn1
  have W:=HW (m+1)
  have hc:decide (cmpK (zint (m+1)) x≤0)=false:=decide_eq_false (by have:=hf.hi;omega)
  generalize cmpK (zint (m+1)) x=c at *
  generalize intN (m+1)=nn at *
  refine vk (X:=⟨w,[]⟩) [] flN [cI (cI fl4)] (fun r=>[(1,(.pointer (some ⟨r 0,0,none⟩),1)),(2,(.pointer (some ⟨r 1,0,none⟩),2)),(6,(.pointer (some ⟨r 76,0,none⟩),77)),(9,(.pointer (some ⟨r 82,0,none⟩),83))]) (fun r=>[(0,(28,xcN x)),(1,(25,cZ1)),(76,(25,cI1 m)),(82,(25,cI1 1))]) 100 (r) (hS2) (hM2) [(.p _ false hc)] [cV (A),cV (W),cV (C)] (VEx.x 4) (fun r=>[(1,(.pointer (some ⟨r 0,0,none⟩),1)),(2,(.pointer (some ⟨r 1,0,none⟩),2)),(6,(.pointer (some ⟨r 76,0,none⟩),77)),(9,(.pointer (some ⟨r 82,0,none⟩),83))]) [] (fun r=>[(0,(28,xcN x)),(1,(25,cZ1)),(76,(25,cI1 m)),(82,(25,cI1 1))]) ?_
  intro a3 w3 hS3 hK3 hM3
  refine exit_n (then_n ?_)
  refine vk (X:=⟨w,[]⟩) [] flN (cPost 4 fl24) (fun r=>[(1,(.pointer (some ⟨r 0,0,none⟩),1)),(2,(.pointer (some ⟨r 1,0,none⟩),2)),(6,(.pointer (some ⟨r 76,0,none⟩),77)),(9,(.pointer (some ⟨r 82,0,none⟩),83))]) (fun r=>[(0,(28,xcN x)),(1,(25,cZ1)),(76,(25,cI1 m)),(82,(25,cI1 1))]) 100 (r) (hS3) (hM3) [] [] (VEx.r) (fun r=>[(2,(.pointer (some ⟨r 1,0,none⟩),2))]) [] (fun r=>[(1,(25,cI1 m))]) ?_
  intro a4 w4 hS4 hK4 hM4
  exact vm_ret (fn:=Tryz.f48) hS4 hM4 (vI m) (fun g=>by kernel_rfl) ⟨rfl,hM4.below.below (Nat.le_refl _) (fun x h=>by cases h)⟩
 ·have bn1:Bd 4000010 (m+1):=bn.between (bf.mono (by omega)) (by omega) (by omega)
  have C:=HC (m+1) bn1
  have W:=HW (m+1)
  have hc:decide (cmpK (zint (m+1)) x≤0)=true:=decide_eq_true (by
   rcases Int.lt_or_le 0 (cmpK (zint (m+1)) x) with h | h
   ·have:=(hf.iff ox (m+1)).1 h;omega
   ·exact h)
  generalize cmpK (zint (m+1)) x=c at *
  generalize intN (m+1)=nn at *
  refine vk (X:=⟨w,[]⟩) [] flN [cI (cI fl4)] (fun r=>[(1,(.pointer (some ⟨r 0,0,none⟩),1)),(2,(.pointer (some ⟨r 1,0,none⟩),2)),(6,(.pointer (some ⟨r 76,0,none⟩),77)),(9,(.pointer (some ⟨r 82,0,none⟩),83))]) (fun r=>[(0,(28,xcN x)),(1,(25,cZ1)),(76,(25,cI1 m)),(82,(25,cI1 1))]) 100 (r) (hS2) (hM2) [(.p _ true hc)] [cV (A),cV (W),cV (C),cV (A)] (VEx.n) (fun r=>[(1,(.pointer (some ⟨r 0,0,none⟩),1)),(2,(.pointer (some ⟨r 1,0,none⟩),2)),(6,(.pointer (some ⟨r 76,0,none⟩),77)),(9,(.pointer (some ⟨r 82,0,none⟩),83))]) [] (fun r=>[(0,(28,xcN x)),(1,(25,cZ1)),(76,(25,cI1 (m+1))),(82,(25,cI1 1))]) ?_
  intro a3 w3 hS3 hK3 hM3
  exact ⟨(f - (m+1)).toNat,by omega,m+1,rfl,by omega,bn1,hS3,hM3⟩

theorem shl_one (k:Nat) (hk:k≤60) (w:World):(binOp .shl 3 (.int .i64 1) (.int .i64 (k:Int))).run Tryz.prog w = .ok (.int .i64 ((2 ^ k:Nat):Int)) w:=by
 show (Op.shift .shl .i64 1 .i64 (k:Int)).run Tryz.prog w=_
 unfold Op.shift
 rw [if_neg (by omega)]
 have h1:min (k:Int).toNat IntKind.i64.bits=k:=by
  show min (k:Int).toNat 64=k
  omega
 have h2:2 ^ k≤2 ^ 60:=Nat.pow_le_pow_right (by decide) hk
 have h3:IntKind.i64.wrap (1 * 2 ^ k)=((2 ^ k:Nat):Int):=by
  rw [Int.one_mul,show (2:Int) ^ k=((2 ^ k:Nat):Int) by rw [Int.natCast_pow];rfl]
  generalize 2 ^ k=p at *
  exact wr64 (by omega) (by omega)
 simp only [h1,h3]
 rfl
noncomputable def hiN (y:Nm) (lo:Int):Int:=open Classical in if intN lo=y then lo else lo+1
end Go.Proofs.YtlhddcingeneaaaGreatDoor
