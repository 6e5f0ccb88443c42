/- The reference's field: signs, comparisons, absolute values; what is answered for numbers that are not valid. -/
import Derived.Test.YtlhddcingeneaaaGreatDoorPNFieU
namespace Go.Proofs.YtlhddcingeneaaaGreatDoor
open Go Go.RowKit
set_option maxRecDepth 100000
set_option linter.unusedVariables false
set_option linter.unusedSimpArgs false
theorem gtwo_any (a b:Int) (w:World) (ha:Bd 90000000 a) (hb:Bd 90000000 b):Calls Tryz.prog 133 #[vI a,vI b] w (RetN (s2 a b) w):=by
 have S1:=fun w=>RSign_any a w
 have S2:=fun w=>RSign_any b w
 have M:=fun w=>RMul_any a a w (ha.mono (by omega)) (ha.mono (by omega))
 have M2:=fun w=>RMul_any b b w (hb.mono (by omega)) (hb.mono (by omega))
 have h2:Bd (1+180000000) (2 * (b * b)):=Bd.mul (by unfold Bd;decide) (hb.mul2 hb)
 have T:=fun w=>RMul_any 2 (b * b) w ((show Bd 1 2 by unfold Bd;decide).mono (by omega)) ((hb.mul2 hb).mono (by omega))
 have O:=fun w=>ROf_any 2 w (by omega) (by omega)
 have C:=fun w=>RCmp_any (a * a) (2 * (b * b)) w ((ha.mul2 ha).mono (by omega)) (h2.mono (by omega))
 have hw:=mix_wrap (sign_vals a) (sign_vals (a * a - 2 * (b * b)))
 unfold s2 mix
 show Calls Tryz.prog 133 #[.agg #[.bool (sg a),.string (mg a)],.agg #[.bool (sg b),.string (mg b)]] w _
 generalize (a * a - 2 * (b * b)).sign=k at *
 generalize a.sign=s at *
 generalize b.sign=t at *
 generalize 2 * (b * b)=u at *
 generalize b * b=v at *
 generalize a * a=x at *
 by_cases h:s=t
 ·have e:(s == t)=true:=by simpa using h
  rw [if_pos (.inl h)]
  exact vm_pure kr Tryz.func133 rfl [.agg #[.bool (sg a),.string (mg a)],.agg #[.bool (sg b),.string (mg b)]] nle [] [(.p _ true e),(.p _ true e),(.p _ true e),.t] [cV (S1),cV (S2)]
 ·have e:(s == t)=false:=by simpa using h
  by_cases h0:t=0
  ·have e0:(t == 0)=true:=by simpa using h0
   rw [if_pos (.inr h0)]
   exact vm_pure kr Tryz.func133 rfl [.agg #[.bool (sg a),.string (mg a)],.agg #[.bool (sg b),.string (mg b)]] nle [] [(.p _ false e),(.p _ false e),(.p _ false e),(.p _ true e0)] [cV (S1),cV (S2)]
  ·have e0:(t == 0)=false:=by simpa using h0
   rw [if_neg (by omega)]
   by_cases h1:s=0
   ·have e1:(s == 0)=true:=by simpa using h1
    rw [if_pos h1]
    exact vm_pure kr Tryz.func133 rfl [.agg #[.bool (sg a),.string (mg a)],.agg #[.bool (sg b),.string (mg b)]] nle [] [(.p _ false e),(.p _ false e),(.p _ false e),(.p _ false e0),(.p _ true e1)] [cV (S1),cV (S2)]
   ·have e1:(s == 0)=false:=by simpa using h1
    rw [if_neg h1]
    exact vm_pure kr Tryz.func133 rfl [.agg #[.bool (sg a),.string (mg a)],.agg #[.bool (sg b),.string (mg b)]] nle [(6,10)] [(.p _ false e),(.p _ false e),(.p _ false e),(.p _ false e0),(.p _ false e1)] [cV (S1),cV (S2),cV (M),cV (O),cV (M2),cV (T),cV (C),lE .i64 (((s):Int) * ((k):Int)) (s * k) (hw)]
theorem gSign_core (a b c d e p q k P0 P1 P2 P3 Q0 Q1 Q2 Q3 m1 m2 u v:Int) (w:World)
  (V:∀ w,Calls Tryz.prog 42 #[vN ⟨a,b,c,d,e⟩] w (RetV (.bool true) w))
  (S1:∀ w,Calls Tryz.prog 133 #[vI a,vI b] w (RetN p w)) (S2:∀ w,Calls Tryz.prog 133 #[vI c,vI d] w (RetN q w))
  (T1:∀ w,Calls Tryz.prog 134 #[.agg #[.bool (sg a),.string (mg a),.bool (sg b),.string (mg b),.bool false,.string ⟨#[]⟩,.bool false,.string ⟨#[]⟩],.agg #[.bool (sg a),.string (mg a),.bool (sg b),.string (mg b),.bool false,.string ⟨#[]⟩,.bool false,.string ⟨#[]⟩]] w (RetV (vA4 P0 P1 P2 P3) w))
  (T2:∀ w,Calls Tryz.prog 134 #[.agg #[.bool (sg c),.string (mg c),.bool (sg d),.string (mg d),.bool false,.string ⟨#[]⟩,.bool false,.string ⟨#[]⟩],.agg #[.bool (sg c),.string (mg c),.bool (sg d),.string (mg d),.bool false,.string ⟨#[]⟩,.bool false,.string ⟨#[]⟩]] w (RetV (vA4 Q0 Q1 Q2 Q3) w))
  (M1:∀ w,Calls Tryz.prog 52 #[vI 3,vI Q0] w (RetI m1 w)) (B1:∀ w,Calls Tryz.prog 135 #[vI P0,vI m1] w (RetI u w))
  (M2:∀ w,Calls Tryz.prog 52 #[vI 3,vI Q1] w (RetI m2 w)) (B2:∀ w,Calls Tryz.prog 135 #[vI P1,vI m2] w (RetI v w))
  (S3:∀ w,Calls Tryz.prog 133 #[vI u,vI v] w (RetN k w)) (hw:IntKind.i64.wrap (p * k)=p * k) :
  Calls Tryz.prog 73 #[vN ⟨a,b,c,d,e⟩] w (RetN (mix p q k) w):=by
 have O:=fun w=>ROf_any 3 w (by omega) (by omega)
 unfold mix
 by_cases h:p=q
 ·have e3:(p == q)=true:=by simpa using h
  rw [if_pos (.inl h)]
  exact vm_pure kr Tryz.func73 rfl [.agg #[.bool (sg a),.string (mg a),.bool (sg b),.string (mg b),.bool (sg c),.string (mg c),.bool (sg d),.string (mg d),.bool (sg e),.string (mg e)]] nle [] [.f,(.p _ true e3),(.p _ true e3),(.p _ true e3),.t] [cV (V),cV (S1),cV (S2)]
 ·have e1:(p == q)=false:=by simpa using h
  by_cases h0:q=0
  ·have e0:(q == 0)=true:=by simpa using h0
   rw [if_pos (.inr h0)]
   exact vm_pure kr Tryz.func73 rfl [.agg #[.bool (sg a),.string (mg a),.bool (sg b),.string (mg b),.bool (sg c),.string (mg c),.bool (sg d),.string (mg d),.bool (sg e),.string (mg e)]] nle [] [.f,(.p _ false e1),(.p _ false e1),(.p _ false e1),(.p _ true e0)] [cV (V),cV (S1),cV (S2)]
  ·have e0:(q == 0)=false:=by simpa using h0
   rw [if_neg (by omega)]
   by_cases h1:p=0
   ·have e2:(p == 0)=true:=by simpa using h1
    rw [if_pos h1]
    exact vm_pure kr Tryz.func73 rfl [.agg #[.bool (sg a),.string (mg a),.bool (sg b),.string (mg b),.bool (sg c),.string (mg c),.bool (sg d),.string (mg d),.bool (sg e),.string (mg e)]] nle [] [.f,(.p _ false e1),(.p _ false e1),(.p _ false e1),(.p _ false e0),(.p _ true e2)] [cV (V),cV (S1),cV (S2)]
   ·have e2:(p == 0)=false:=by simpa using h1
    rw [if_neg h1]
    exact vm_pure kr Tryz.func73 rfl [.agg #[.bool (sg a),.string (mg a),.bool (sg b),.string (mg b),.bool (sg c),.string (mg c),.bool (sg d),.string (mg d),.bool (sg e),.string (mg e)]] nle [(11,16)] [.f,(.p _ false e1),(.p _ false e1),(.p _ false e1),(.p _ false e0),(.p _ false e2)] [cV (V),cV (S1),cV (S2),cV (T1),cV (T2),cV (O),cV (M1),cV (B1),cV (M2),cV (B2),cV (S3),lE .i64 (((p):Int) * ((k):Int)) (p * k) (hw)]
theorem gtimes_N (x y:Nm) (w:World) (hx:BN 30000000 x) (hy:BN 30000000 y):Calls Tryz.prog 134 #[vA4 x.c0 x.c1 x.c2 x.c3,vA4 y.c0 y.c1 y.c2 y.c3] w (RetV (vA4 (mulR x y).c0 (mulR x y).c1 (mulR x y).c2 (mulR x y).c3) w):=by
 have TT:=gtimes_any (qd x.c0 x.c1 x.c2 x.c3) (qd y.c0 y.c1 y.c2 y.c3) w (fun i=>by unfold qd;split;all_goals first | exact hx.h0 | exact hx.h1 | exact hx.h2 | exact hx.h3) (fun i=>by unfold qd;split;all_goals first | exact hy.h0 | exact hy.h1 | exact hy.h2 | exact hy.h3)
 rw [← allQ_eq] at TT
 exact TT
theorem gSign_any (x:Nm) (w:World) (hx:BN 15000000 x) (ox:Ok x):Calls Tryz.prog 73 #[vN x] w (RetN (sgnN x) w):=by
 have V:=fun w=>gValid_yes x w (hx.mono (by omega)) ox
 obtain ⟨a,b,c,d,e⟩:=x
 obtain ⟨h0,h1,h2,h3,h4⟩:=hx
 simp only at h0 h1 h2 h3 h4
 have S1:=fun w=>gtwo_any a b w (h0.mono (by omega)) (h1.mono (by omega))
 have S2:=fun w=>gtwo_any c d w (h2.mono (by omega)) (h3.mono (by omega))
 have bP:BN 15000000 ⟨a,b,0,0,1⟩:=⟨h0,h1,Bd.zero _,Bd.zero _,Bd.one (by omega)⟩
 have bQ:BN 15000000 ⟨c,d,0,0,1⟩:=⟨h2,h3,Bd.zero _,Bd.zero _,Bd.one (by omega)⟩
 have T1:=fun w=>gtimes_N ⟨a,b,0,0,1⟩ ⟨a,b,0,0,1⟩ w (bP.mono (by omega)) (bP.mono (by omega))
 have T2:=fun w=>gtimes_N ⟨c,d,0,0,1⟩ ⟨c,d,0,0,1⟩ w (bQ.mono (by omega)) (bQ.mono (by omega))
 have rP:=bP.mulR bP
 have rQ:=bQ.mulR bQ
 have eP0:(mulR ⟨a,b,0,0,1⟩ ⟨a,b,0,0,1⟩).c0=a * a+2 * (b * b):=by unfold mulR;simp only;omega
 have eP1:(mulR ⟨a,b,0,0,1⟩ ⟨a,b,0,0,1⟩).c1=2 * (a * b):=by unfold mulR;simp only;rw [Int.mul_comm b a];omega
 have eQ0:(mulR ⟨c,d,0,0,1⟩ ⟨c,d,0,0,1⟩).c0=c * c+2 * (d * d):=by unfold mulR;simp only;omega
 have eQ1:(mulR ⟨c,d,0,0,1⟩ ⟨c,d,0,0,1⟩).c1=2 * (c * d):=by unfold mulR;simp only;rw [Int.mul_comm d c];omega
 have p0:=rP.h0
 have p1:=rP.h1
 have q0:=rQ.h0
 have q1:=rQ.h1
 simp only [eP0,eP1,eQ0,eQ1] at T1 T2 p0 p1 q0 q1
 generalize (mulR ⟨a,b,0,0,1⟩ ⟨a,b,0,0,1⟩).c2=P2 at *
 generalize (mulR ⟨a,b,0,0,1⟩ ⟨a,b,0,0,1⟩).c3=P3 at *
 generalize (mulR ⟨c,d,0,0,1⟩ ⟨c,d,0,0,1⟩).c2=Q2 at *
 generalize (mulR ⟨c,d,0,0,1⟩ ⟨c,d,0,0,1⟩).c3=Q3 at *
 clear rP rQ bP bQ
 have b3:Bd 1 3:=by unfold Bd;decide
 have M1:=fun w=>RMul_any 3 (c * c+2 * (d * d)) w (b3.mono (by omega)) (q0.mono (by omega))
 have M2:=fun w=>RMul_any 3 (2 * (c * d)) w (b3.mono (by omega)) (q1.mono (by omega))
 have B1:=fun w=>RSub_any (a * a+2 * (b * b)) (3 * (c * c+2 * (d * d))) w (p0.mono (by omega)) ((b3.mul q0).mono (by omega))
 have B2:=fun w=>RSub_any (2 * (a * b)) (3 * (2 * (c * d))) w (p1.mono (by omega)) ((b3.mul q1).mono (by omega))
 have S3:=fun w=>gtwo_any _ _ w ((((p0.mono (show 2 * 15000000+5≤30000006 by omega)).sub ((b3.mul q0).mono (show _≤30000006 by omega)))).mono (by omega)) ((((p1.mono (show 2 * 15000000+5≤30000006 by omega)).sub ((b3.mul q1).mono (show _≤30000006 by omega)))).mono (by omega))
 have hm:sgnN ⟨a,b,c,d,e⟩=mix (s2 a b) (s2 c d) (s2 (a * a+2 * (b * b) - 3 * (c * c+2 * (d * d))) (2 * (a * b) - 3 * (2 * (c * d)))):=by
  unfold sgnN s4
  simp only
  rw [show 3 * (c * c)+6 * (d * d)=3 * (c * c+2 * (d * d)) from by omega,show 6 * (c * d)=3 * (2 * (c * d)) from by omega]
 rw [hm]
 unfold vA4 at T1 T2
 simp only [sg0,mg0] at T1 T2
 exact gSign_core a b c d e _ _ _ _ _ P2 P3 _ _ Q2 Q3 _ _ _ _ w V S1 S2 T1 T2 M1 B1 M2 B2 S3 (mix_wrap (s2_vals _ _) (s2_vals _ _))
def rZ:Rw:=⟨false,⟨#[]⟩,false,⟨#[]⟩,false,⟨#[]⟩,false,⟨#[]⟩,false,⟨#[]⟩⟩
theorem eqIz_yes (x:Int) (h:x=0) (p q:Operand) (w:World):(eqT .eql 25 p q (vI x) (.agg #[.bool false,.string ⟨#[]⟩])).run Tryz.prog w = .ok (.bool true) w:=by
 rw [← vI_zero,h];exact eqI_same 0 p q w
theorem eqIz_no (x:Int) (h:x≠0) (p q:Operand) (w:World):(eqT .eql 25 p q (vI x) (.agg #[.bool false,.string ⟨#[]⟩])).run Tryz.prog w = .ok (.bool false) w:=by
 rw [← vI_zero];exact eqI_diff x 0 h p q w
theorem gRational_any (x:Nm) (w:World) (hx:BN 80000000 x) (ox:Ok x):Calls Tryz.prog 137 #[vN x] w (RetV (.bool (ratB x)) w):=by
 have V:=fun w=>gValid_yes x w hx ox
 unfold ratB
 by_cases h1:x.c1=0
 ·rw [decide_eq_true h1]
  by_cases h2:x.c2=0
  ·rw [decide_eq_true h2]
   by_cases h3:x.c3=0
   ·rw [decide_eq_true h3]
    exact vm_pure kr Tryz.func137 rfl [.agg #[.bool (sg x.c0),.string (mg x.c0),.bool (sg x.c1),.string (mg x.c1),.bool (sg x.c2),.string (mg x.c2),.bool (sg x.c3),.string (mg x.c3),.bool (sg x.d),.string (mg x.d)]] nle [(1,7),(1,14),(1,21)] [.t,.t,.t,.t,.t,.t,.t,.t,.t,.t,.t,.t,.t,.t,.t,.t,.t,.t] [cV (V),lV _ (.bool true) (fun w hC=>eqIz_yes x.c1 h1 (.tmp 8) (.tmp 9) w),lV _ (.bool true) (fun w hC=>eqIz_yes x.c2 h2 (.tmp 15) (.tmp 16) w),lV _ (.bool true) (fun w hC=>eqIz_yes x.c3 h3 (.tmp 22) (.tmp 23) w)]
   ·rw [decide_eq_false h3]
    exact vm_pure kr Tryz.func137 rfl [.agg #[.bool (sg x.c0),.string (mg x.c0),.bool (sg x.c1),.string (mg x.c1),.bool (sg x.c2),.string (mg x.c2),.bool (sg x.c3),.string (mg x.c3),.bool (sg x.d),.string (mg x.d)]] nle [(1,7),(1,14),(1,21)] [.t,.t,.t,.t,.t,.t,.t,.t,.t,.t,.t,.t,.t,.t,.t,.t,.t,.t] [cV (V),lV _ (.bool true) (fun w hC=>eqIz_yes x.c1 h1 (.tmp 8) (.tmp 9) w),lV _ (.bool true) (fun w hC=>eqIz_yes x.c2 h2 (.tmp 15) (.tmp 16) w),lV _ (.bool false) (fun w hC=>eqIz_no x.c3 h3 (.tmp 22) (.tmp 23) w)]
  ·rw [decide_eq_false h2]
   exact vm_pure kr Tryz.func137 rfl [.agg #[.bool (sg x.c0),.string (mg x.c0),.bool (sg x.c1),.string (mg x.c1),.bool (sg x.c2),.string (mg x.c2),.bool (sg x.c3),.string (mg x.c3),.bool (sg x.d),.string (mg x.d)]] nle [(1,7),(1,14)] [.t,.t,.t,.t,.t,.t,.t,.t,.t,.t,.t,.t,.f,.f,.f,.f,.f,.f] [cV (V),lV _ (.bool true) (fun w hC=>eqIz_yes x.c1 h1 (.tmp 8) (.tmp 9) w),lV _ (.bool false) (fun w hC=>eqIz_no x.c2 h2 (.tmp 15) (.tmp 16) w)]
 ·rw [decide_eq_false h1]
  exact vm_pure kr Tryz.func137 rfl [.agg #[.bool (sg x.c0),.string (mg x.c0),.bool (sg x.c1),.string (mg x.c1),.bool (sg x.c2),.string (mg x.c2),.bool (sg x.c3),.string (mg x.c3),.bool (sg x.d),.string (mg x.d)]] nle [(1,7)] [.t,.t,.t,.t,.t,.t,.f,.f,.f,.f,.f,.f,.f,.f,.f,.f,.f,.f] [cV (V),lV _ (.bool false) (fun w hC=>eqIz_no x.c1 h1 (.tmp 8) (.tmp 9) w)]
end Go.Proofs.YtlhddcingeneaaaGreatDoor
