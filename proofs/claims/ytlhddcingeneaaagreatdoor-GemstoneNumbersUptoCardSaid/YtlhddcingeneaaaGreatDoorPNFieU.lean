/- The reference's field: opposites, sums, products, differences. -/
import Derived.Test.YtlhddcingeneaaaGreatDoorPNFieT
namespace Go.Proofs.YtlhddcingeneaaaGreatDoor
open Go Go.RowKit
set_option maxRecDepth 100000
set_option linter.unusedVariables false
set_option linter.unusedSimpArgs false
theorem wrap_k (x k:Int):IntKind.i64.wrap (x+18446744073709551616 * k)=IntKind.i64.wrap x:=by
 rw [IntKind.wrap_i64,IntKind.wrap_i64];omega
theorem wrap_ex (x:Int):∃ k,IntKind.i64.wrap x=x+18446744073709551616 * k:=by
 rw [IntKind.wrap_i64]
 exact ⟨-((x+9223372036854775808) / 18446744073709551616),by omega⟩
theorem wrap_addL (x y:Int):IntKind.i64.wrap (IntKind.i64.wrap x+y)=IntKind.i64.wrap (x+y):=by
 obtain ⟨k,hk⟩:=wrap_ex x
 rw [hk,show x+18446744073709551616 * k+y=x+y+18446744073709551616 * k from by omega,wrap_k]
theorem wrap_addR (x y:Int):IntKind.i64.wrap (x+IntKind.i64.wrap y)=IntKind.i64.wrap (x+y):=by
 rw [Int.add_comm,wrap_addL,Int.add_comm]
theorem wrap_mulL (x y:Int):IntKind.i64.wrap (IntKind.i64.wrap x * y)=IntKind.i64.wrap (x * y):=by
 obtain ⟨k,hk⟩:=wrap_ex x
 rw [hk,Int.add_mul,Int.mul_assoc,wrap_k]
theorem wrap_mulR (x y:Int):IntKind.i64.wrap (x * IntKind.i64.wrap y)=IntKind.i64.wrap (x * y):=by
 rw [Int.mul_comm,wrap_mulL,Int.mul_comm]
theorem gquo_run (a b q:Int) (w:World) (h:b≠0) (e:a.tdiv b=q) (h0:-9223372036854775808≤q) (h1:q≤9223372036854775807):(Op.intDiv .quo .i64 a b).run Tryz.prog w = .ok (.int .i64 q) w:=by
 unfold Op.intDiv
 rw [if_neg h]
 have e1:IntKind.i64.wrap (a.tdiv b)=q:=by rw [e];exact wr64 h0 h1
 simp only [e1]
 rfl
theorem tdiv_fdiv {a g:Int} (hg:g≠0) (h:g∣a):a.tdiv g=a.fdiv g:=by
 obtain ⟨k,rfl⟩:=h
 rw [Int.mul_tdiv_cancel_left _ hg,Int.mul_fdiv_cancel_left _ hg]
theorem fdiv_small {a g:Int} (hg:g≠0) (h:g∣a):(a.fdiv g).natAbs≤a.natAbs:=by
 have h1:=fdiv_mul_of_dvd hg h
 have h2:=congrArg Int.natAbs h1
 rw [Int.natAbs_mul] at h2
 rw [← h2]
 exact Nat.le_mul_of_pos_right _ (by omega)
theorem gN_cof5 (z:Nat→Int):gN z 5=cof ⟨z 0,z 1,z 2,z 3,z 4⟩:=by
 show Nat.gcd (Nat.gcd (Nat.gcd (Nat.gcd (Nat.gcd 0 (z 0).natAbs) (z 1).natAbs) (z 2).natAbs) (z 3).natAbs) (z 4).natAbs=_
 rw [Nat.gcd_zero_left]
 unfold cof
 show _=Nat.gcd (Nat.gcd (Nat.gcd (Nat.gcd (z 4).natAbs (z 0).natAbs) (z 1).natAbs) (z 2).natAbs) (z 3).natAbs
 rw [Nat.gcd_comm _ (z 4).natAbs,← Nat.gcd_assoc,← Nat.gcd_assoc,← Nat.gcd_assoc]
theorem gnumber_any (z:Nat→Int) (w:World) (hz:∀ i,(z i).natAbs≤4611686018427387904) (hd:0<z 4):Calls Tryz.prog 51 #[.agg (c5 z)] w (RetV (vN (low ⟨z 0,z 1,z 2,z 3,z 4⟩)) w):=by
 have G:=fun w=>ggcd_any z w hz
 rw [gN_cof5] at G
 have hd4:(⟨z 0,z 1,z 2,z 3,z 4⟩:Nm).d≠0:=by show z 4≠0;omega
 have hs:sgG ⟨z 0,z 1,z 2,z 3,z 4⟩=(cof ⟨z 0,z 1,z 2,z 3,z 4⟩:Int):=by unfold sgG;rw [if_neg (by show ¬ z 4<0;omega)]
 have hg:=sgG_ne hd4
 obtain ⟨d0,d1,d2,d3,d4⟩:=sgG_dvd ⟨z 0,z 1,z 2,z 3,z 4⟩
 unfold low
 rw [← hs] at G
 generalize sgG ⟨z 0,z 1,z 2,z 3,z 4⟩=g at *
 clear hs hd4
 simp only at d0 d1 d2 d3 d4 ⊢
 have q0:=fdiv_small hg d0
 have Q0:=fun w=>gquo_run (z 0) g _ w hg (tdiv_fdiv hg d0) (by have:=hz 0;omega) (by have:=hz 0;omega)
 have O0:=fun w=>ROf_any ((z 0).fdiv g) w (by have:=hz 0;omega) (by have:=hz 0;omega)
 have q1:=fdiv_small hg d1
 have Q1:=fun w=>gquo_run (z 1) g _ w hg (tdiv_fdiv hg d1) (by have:=hz 1;omega) (by have:=hz 1;omega)
 have O1:=fun w=>ROf_any ((z 1).fdiv g) w (by have:=hz 1;omega) (by have:=hz 1;omega)
 have q2:=fdiv_small hg d2
 have Q2:=fun w=>gquo_run (z 2) g _ w hg (tdiv_fdiv hg d2) (by have:=hz 2;omega) (by have:=hz 2;omega)
 have O2:=fun w=>ROf_any ((z 2).fdiv g) w (by have:=hz 2;omega) (by have:=hz 2;omega)
 have q3:=fdiv_small hg d3
 have Q3:=fun w=>gquo_run (z 3) g _ w hg (tdiv_fdiv hg d3) (by have:=hz 3;omega) (by have:=hz 3;omega)
 have O3:=fun w=>ROf_any ((z 3).fdiv g) w (by have:=hz 3;omega) (by have:=hz 3;omega)
 have q4:=fdiv_small hg d4
 have Q4:=fun w=>gquo_run (z 4) g _ w hg (tdiv_fdiv hg d4) (by have:=hz 4;omega) (by have:=hz 4;omega)
 have O4:=fun w=>ROf_any ((z 4).fdiv g) w (by have:=hz 4;omega) (by have:=hz 4;omega)
 generalize (z 0).fdiv g=y0 at *
 generalize (z 1).fdiv g=y1 at *
 generalize (z 2).fdiv g=y2 at *
 generalize (z 3).fdiv g=y3 at *
 generalize (z 4).fdiv g=y4 at *
 unfold c5 at *
 generalize z 0=z0 at *
 generalize z 1=z1 at *
 generalize z 2=z2 at *
 generalize z 3=z3 at *
 generalize z 4=z4 at *
 exact vm_pure kr Tryz.func51 rfl [.agg #[.int .i64 z0,.int .i64 z1,.int .i64 z2,.int .i64 z3,.int .i64 z4]] nle [(6,5),(7,3)] [.t,.t,.t,.t,.f] [cV (G),lV (Op.intDiv .quo .i64 ((z0):Int) ((g):Int)) (.int .i64 (y0)) (fun w hC=>Q0 w),cV (O0),lV (Op.intDiv .quo .i64 ((z1):Int) ((g):Int)) (.int .i64 (y1)) (fun w hC=>Q1 w),cV (O1),lV (Op.intDiv .quo .i64 ((z2):Int) ((g):Int)) (.int .i64 (y2)) (fun w hC=>Q2 w),cV (O2),lV (Op.intDiv .quo .i64 ((z3):Int) ((g):Int)) (.int .i64 (y3)) (fun w hC=>Q3 w),cV (O3),lV (Op.intDiv .quo .i64 ((z4):Int) ((g):Int)) (.int .i64 (y4)) (fun w hC=>Q4 w),cV (O4)]
theorem gMul_slow1 (x y:Nm) (p q:Nat→Int) (w:World) (hx:BN 30000000 x) (hy:BN 30000000 y) (ox:Ok x) (oy:Ok y) (W:∀ w,Calls Tryz.prog 50 #[vN x] w (RetV (.tuple #[.agg (c5 p),.bool false]) w)):Calls Tryz.prog 76 #[vN x,vN y] w (RetV (vN (mulN x y)) w):=by
 have V1:=fun w=>gValid_yes x w (hx.mono (by omega)) ox
 have V2:=fun w=>gValid_yes y w (hy.mono (by omega)) oy
 have L:=fun w=>greduced_any (mulR x y) w ((hx.mulR hy).mono (by omega)) (Int.mul_ne_zero ox.ne oy.ne)
 have D:=fun w=>RMul_any x.d y.d w (hx.h4.mono (by omega)) (hy.h4.mono (by omega))
 have TT:=fun w=>gtimes_any (qd x.c0 x.c1 x.c2 x.c3) (qd y.c0 y.c1 y.c2 y.c3) w (fun i=>by unfold qd;split;all_goals first | exact hx.h0 | exact hx.h1 | exact hx.h2 | exact hx.h3) (fun i=>by unfold qd;split;all_goals first | exact hy.h0 | exact hy.h1 | exact hy.h2 | exact hy.h3)
 rw [← allQ_eq] at TT
 unfold mulN
 generalize low (mulR x y)=l at *
 have L':∀ w,Calls Tryz.prog 53 #[vA4 (mulR x y).c0 (mulR x y).c1 (mulR x y).c2 (mulR x y).c3,vI (x.d * y.d)] w (RetV (vN l) w):=L
 clear L
 have TT':∀ w,Calls Tryz.prog 134 #[vA4 x.c0 x.c1 x.c2 x.c3,vA4 y.c0 y.c1 y.c2 y.c3] w (RetV (vA4 (mulR x y).c0 (mulR x y).c1 (mulR x y).c2 (mulR x y).c3) w):=TT
 clear TT
 generalize (mulR x y).c0=t0 at *
 generalize (mulR x y).c1=t1 at *
 generalize (mulR x y).c2=t2 at *
 generalize (mulR x y).c3=t3 at *
 generalize x.d * y.d=t4 at *
 exact vm_pure kr Tryz.func76 rfl [.agg #[.bool (sg x.c0),.string (mg x.c0),.bool (sg x.c1),.string (mg x.c1),.bool (sg x.c2),.string (mg x.c2),.bool (sg x.c3),.string (mg x.c3),.bool (sg x.d),.string (mg x.d)],.agg #[.bool (sg y.c0),.string (mg y.c0),.bool (sg y.c1),.string (mg y.c1),.bool (sg y.c2),.string (mg y.c2),.bool (sg y.c3),.string (mg y.c3),.bool (sg y.d),.string (mg y.d)]] nle [] [.f,.f,.f,.f,.f,.f] [cV (V1),cV (V2),cV (W),cV (TT'),cV (D),cV (L')]
theorem gMul_slow2 (x y:Nm) (p q:Nat→Int) (w:World) (hx:BN 30000000 x) (hy:BN 30000000 y) (ox:Ok x) (oy:Ok y) (W:∀ w,Calls Tryz.prog 50 #[vN x] w (RetV (.tuple #[.agg (c5 p),.bool true]) w)) (W2:∀ w,Calls Tryz.prog 50 #[vN y] w (RetV (.tuple #[.agg (c5 q),.bool false]) w)):Calls Tryz.prog 76 #[vN x,vN y] w (RetV (vN (mulN x y)) w):=by
 have V1:=fun w=>gValid_yes x w (hx.mono (by omega)) ox
 have V2:=fun w=>gValid_yes y w (hy.mono (by omega)) oy
 have L:=fun w=>greduced_any (mulR x y) w ((hx.mulR hy).mono (by omega)) (Int.mul_ne_zero ox.ne oy.ne)
 have D:=fun w=>RMul_any x.d y.d w (hx.h4.mono (by omega)) (hy.h4.mono (by omega))
 have TT:=fun w=>gtimes_any (qd x.c0 x.c1 x.c2 x.c3) (qd y.c0 y.c1 y.c2 y.c3) w (fun i=>by unfold qd;split;all_goals first | exact hx.h0 | exact hx.h1 | exact hx.h2 | exact hx.h3) (fun i=>by unfold qd;split;all_goals first | exact hy.h0 | exact hy.h1 | exact hy.h2 | exact hy.h3)
 rw [← allQ_eq] at TT
 unfold mulN
 generalize low (mulR x y)=l at *
 have L':∀ w,Calls Tryz.prog 53 #[vA4 (mulR x y).c0 (mulR x y).c1 (mulR x y).c2 (mulR x y).c3,vI (x.d * y.d)] w (RetV (vN l) w):=L
 clear L
 have TT':∀ w,Calls Tryz.prog 134 #[vA4 x.c0 x.c1 x.c2 x.c3,vA4 y.c0 y.c1 y.c2 y.c3] w (RetV (vA4 (mulR x y).c0 (mulR x y).c1 (mulR x y).c2 (mulR x y).c3) w):=TT
 clear TT
 generalize (mulR x y).c0=t0 at *
 generalize (mulR x y).c1=t1 at *
 generalize (mulR x y).c2=t2 at *
 generalize (mulR x y).c3=t3 at *
 generalize x.d * y.d=t4 at *
 exact vm_pure kr Tryz.func76 rfl [.agg #[.bool (sg x.c0),.string (mg x.c0),.bool (sg x.c1),.string (mg x.c1),.bool (sg x.c2),.string (mg x.c2),.bool (sg x.c3),.string (mg x.c3),.bool (sg x.d),.string (mg x.d)],.agg #[.bool (sg y.c0),.string (mg y.c0),.bool (sg y.c1),.string (mg y.c1),.bool (sg y.c2),.string (mg y.c2),.bool (sg y.c3),.string (mg y.c3),.bool (sg y.d),.string (mg y.d)]] nle [] [.f,.f,.f,.f,.f,.t,.f] [cV (V1),cV (V2),cV (W),cV (W2),cV (TT'),cV (D),cV (L')]
theorem gMul_fast (x y l:Nm) (a0 a1 a2 a3 a4 b0 b1 b2 b3 b4:Int) (w:World) (V1:∀ w,Calls Tryz.prog 42 #[vN x] w (RetV (.bool true) w)) (V2:∀ w,Calls Tryz.prog 42 #[vN y] w (RetV (.bool true) w))
  (W1:∀ w,Calls Tryz.prog 50 #[vN x] w (RetV (.tuple #[.agg #[.int .i64 (a0),.int .i64 (a1),.int .i64 (a2),.int .i64 (a3),.int .i64 (a4)],.bool true]) w)) (W2:∀ w,Calls Tryz.prog 50 #[vN y] w (RetV (.tuple #[.agg #[.int .i64 (b0),.int .i64 (b1),.int .i64 (b2),.int .i64 (b3),.int .i64 (b4)],.bool true]) w))
  (G:∀ w,Calls Tryz.prog 51 #[.agg #[.int .i64 (IntKind.i64.wrap (IntKind.i64.wrap (IntKind.i64.wrap (IntKind.i64.wrap (a0 * b0)+IntKind.i64.wrap (IntKind.i64.wrap (2 * a1) * b1))+IntKind.i64.wrap (IntKind.i64.wrap (3 * a2) * b2))+IntKind.i64.wrap (IntKind.i64.wrap (6 * a3) * b3))),.int .i64 (IntKind.i64.wrap (IntKind.i64.wrap (IntKind.i64.wrap (IntKind.i64.wrap (a0 * b1)+IntKind.i64.wrap (a1 * b0))+IntKind.i64.wrap (IntKind.i64.wrap (3 * a2) * b3))+IntKind.i64.wrap (IntKind.i64.wrap (3 * a3) * b2))),.int .i64 (IntKind.i64.wrap (IntKind.i64.wrap (IntKind.i64.wrap (IntKind.i64.wrap (a0 * b2)+IntKind.i64.wrap (a2 * b0))+IntKind.i64.wrap (IntKind.i64.wrap (2 * a1) * b3))+IntKind.i64.wrap (IntKind.i64.wrap (2 * a3) * b1))),.int .i64 (IntKind.i64.wrap (IntKind.i64.wrap (IntKind.i64.wrap (IntKind.i64.wrap (a0 * b3)+IntKind.i64.wrap (a3 * b0))+IntKind.i64.wrap (a1 * b2))+IntKind.i64.wrap (a2 * b1))),.int .i64 (IntKind.i64.wrap (a4 * b4))]] w (RetV (vN l) w)):Calls Tryz.prog 76 #[vN x,vN y] w (RetV (vN l) w):=by
 exact vm_pure kr Tryz.func76 rfl [.agg #[.bool (sg x.c0),.string (mg x.c0),.bool (sg x.c1),.string (mg x.c1),.bool (sg x.c2),.string (mg x.c2),.bool (sg x.c3),.string (mg x.c3),.bool (sg x.d),.string (mg x.d)],.agg #[.bool (sg y.c0),.string (mg y.c0),.bool (sg y.c1),.string (mg y.c1),.bool (sg y.c2),.string (mg y.c2),.bool (sg y.c3),.string (mg y.c3),.bool (sg y.d),.string (mg y.d)]] nle [] [.f,.f,.f,.f,.f,.t,.t] [cV (V1),cV (V2),cV (W1),cV (W2),cV (G)]
theorem wMul_plain {a0 a1 a2 a3 a4 b0 b1 b2 b3 b4:Int} (ha0:a0.natAbs<16777216) (ha1:a1.natAbs<16777216) (ha2:a2.natAbs<16777216) (ha3:a3.natAbs<16777216) (ha4:a4.natAbs<16777216) (hb0:b0.natAbs<16777216) (hb1:b1.natAbs<16777216) (hb2:b2.natAbs<16777216) (hb3:b3.natAbs<16777216) (hb4:b4.natAbs<16777216):IntKind.i64.wrap (IntKind.i64.wrap (IntKind.i64.wrap (IntKind.i64.wrap (a0 * b0)+IntKind.i64.wrap (IntKind.i64.wrap (2 * a1) * b1))+IntKind.i64.wrap (IntKind.i64.wrap (3 * a2) * b2))+IntKind.i64.wrap (IntKind.i64.wrap (6 * a3) * b3))=a0 * b0+2 * (a1 * b1)+3 * (a2 * b2)+6 * (a3 * b3)∧IntKind.i64.wrap (IntKind.i64.wrap (IntKind.i64.wrap (IntKind.i64.wrap (a0 * b1)+IntKind.i64.wrap (a1 * b0))+IntKind.i64.wrap (IntKind.i64.wrap (3 * a2) * b3))+IntKind.i64.wrap (IntKind.i64.wrap (3 * a3) * b2))=a0 * b1+a1 * b0+3 * (a2 * b3)+3 * (a3 * b2)∧IntKind.i64.wrap (IntKind.i64.wrap (IntKind.i64.wrap (IntKind.i64.wrap (a0 * b2)+IntKind.i64.wrap (a2 * b0))+IntKind.i64.wrap (IntKind.i64.wrap (2 * a1) * b3))+IntKind.i64.wrap (IntKind.i64.wrap (2 * a3) * b1))=a0 * b2+a2 * b0+2 * (a1 * b3)+2 * (a3 * b1)∧IntKind.i64.wrap (IntKind.i64.wrap (IntKind.i64.wrap (IntKind.i64.wrap (a0 * b3)+IntKind.i64.wrap (a3 * b0))+IntKind.i64.wrap (a1 * b2))+IntKind.i64.wrap (a2 * b1))=a0 * b3+a3 * b0+a1 * b2+a2 * b1∧IntKind.i64.wrap (a4 * b4)=a4 * b4:=by
 have P:∀ {x y:Int},x.natAbs<16777216→y.natAbs<16777216 → -281474976710656≤x * y∧x * y≤281474976710656:=fun {x y} h1 h2=>by
  have:=Nat.mul_le_mul (Nat.le_of_lt h1) (Nat.le_of_lt h2)
  rw [← Int.natAbs_mul] at this
  omega
 simp only [wrap_addL,wrap_addR,wrap_mulL,wrap_mulR,Int.mul_assoc]
 have p00:=P ha0 hb0
 have p01:=P ha0 hb1
 have p02:=P ha0 hb2
 have p03:=P ha0 hb3
 have p10:=P ha1 hb0
 have p11:=P ha1 hb1
 have p12:=P ha1 hb2
 have p13:=P ha1 hb3
 have p20:=P ha2 hb0
 have p21:=P ha2 hb1
 have p22:=P ha2 hb2
 have p23:=P ha2 hb3
 have p30:=P ha3 hb0
 have p31:=P ha3 hb1
 have p32:=P ha3 hb2
 have p33:=P ha3 hb3
 have p44:=P ha4 hb4
 refine ⟨?_,?_,?_,?_,?_⟩ <;> (refine wr64 ?_ ?_ <;> omega)
def z5f (a b c d e:Int) (i:Nat):Int:=match i with
 | 0=>a
 | 1=>b
 | 2=>c
 | 3=>d
 | _=>e
theorem words_yes (x:Nm) (h:allSm (rwN x)):(∀ w,Calls Tryz.prog 50 #[vN x] w (RetV (.tuple #[.agg #[.int .i64 x.c0,.int .i64 x.c1,.int .i64 x.c2,.int .i64 x.c3,.int .i64 x.d],.bool true]) w))∧x.c0.natAbs<16777216∧x.c1.natAbs<16777216∧x.c2.natAbs<16777216∧x.c3.natAbs<16777216∧x.d.natAbs<16777216:=by
 have e0:pz (zR5 (rwN x)) 5 0=x.c0:=ival_sg _
 have e1:pz (zR5 (rwN x)) 5 1=x.c1:=ival_sg _
 have e2:pz (zR5 (rwN x)) 5 2=x.c2:=ival_sg _
 have e3:pz (zR5 (rwN x)) 5 3=x.c3:=ival_sg _
 have e4:pz (zR5 (rwN x)) 5 4=x.d:=ival_sg _
 have b0:=sm_bound h 0
 have b1:=sm_bound h 1
 have b2:=sm_bound h 2
 have b3:=sm_bound h 3
 have b4:=sm_bound h 4
 rw [e0] at b0
 rw [e1] at b1
 rw [e2] at b2
 rw [e3] at b3
 rw [e4] at b4
 refine ⟨fun w=>?_,b0,b1,b2,b3,b4⟩
 have W:=gwords_yes (rwN x) w h
 unfold c5 at W
 rw [e0,e1,e2,e3,e4] at W
 exact W
theorem mulN_bound {x y:Nm} (ha0:x.c0.natAbs<16777216) (ha1:x.c1.natAbs<16777216) (ha2:x.c2.natAbs<16777216) (ha3:x.c3.natAbs<16777216) (ha4:x.d.natAbs<16777216) (hb0:y.c0.natAbs<16777216) (hb1:y.c1.natAbs<16777216) (hb2:y.c2.natAbs<16777216) (hb3:y.c3.natAbs<16777216) (hb4:y.d.natAbs<16777216):∀ i,(z5f (mulR x y).c0 (mulR x y).c1 (mulR x y).c2 (mulR x y).c3 (mulR x y).d i).natAbs≤4611686018427387904:=by
 have P:∀ {x y:Int},x.natAbs<16777216→y.natAbs<16777216 → -281474976710656≤x * y∧x * y≤281474976710656:=fun {x y} h1 h2=>by
  have:=Nat.mul_le_mul (Nat.le_of_lt h1) (Nat.le_of_lt h2)
  rw [← Int.natAbs_mul] at this
  omega
 have p00:=P ha0 hb0
 have p01:=P ha0 hb1
 have p02:=P ha0 hb2
 have p03:=P ha0 hb3
 have p10:=P ha1 hb0
 have p11:=P ha1 hb1
 have p12:=P ha1 hb2
 have p13:=P ha1 hb3
 have p20:=P ha2 hb0
 have p21:=P ha2 hb1
 have p22:=P ha2 hb2
 have p23:=P ha2 hb3
 have p30:=P ha3 hb0
 have p31:=P ha3 hb1
 have p32:=P ha3 hb2
 have p33:=P ha3 hb3
 have p44:=P ha4 hb4
 intro i
 unfold z5f mulR
 simp only
 split <;> omega
theorem gMul_any (x y:Nm) (w:World) (hx:BN 30000000 x) (hy:BN 30000000 y) (ox:Ok x) (oy:Ok y):Calls Tryz.prog 76 #[vN x,vN y] w (RetV (vN (mulN x y)) w):=by
 by_cases h1:allSm (rwN x)
 ·obtain ⟨W1,ha0,ha1,ha2,ha3,ha4⟩:=words_yes x h1
  by_cases h2:allSm (rwN y)
  ·obtain ⟨W2,hb0,hb1,hb2,hb3,hb4⟩:=words_yes y h2
   obtain ⟨f0,f1,f2,f3,f4⟩:=wMul_plain ha0 ha1 ha2 ha3 ha4 hb0 hb1 hb2 hb3 hb4
   have B0:=mulN_bound ha0 ha1 ha2 ha3 ha4 hb0 hb1 hb2 hb3 hb4
   have G:=fun w=>gnumber_any (z5f (mulR x y).c0 (mulR x y).c1 (mulR x y).c2 (mulR x y).c3 (mulR x y).d) w (fun i=>B0 i) (Int.mul_pos ox.pos oy.pos)
   refine gMul_fast x y (mulN x y) x.c0 x.c1 x.c2 x.c3 x.d y.c0 y.c1 y.c2 y.c3 y.d w (fun w=>gValid_yes x w (hx.mono (by omega)) ox) (fun w=>gValid_yes y w (hy.mono (by omega)) oy) W1 W2 ?_
   rw [f0,f1,f2,f3,f4]
   exact G
  ·obtain ⟨q,W2⟩:=gwords_no (rwN y) h2
   exact gMul_slow2 x y (z5f x.c0 x.c1 x.c2 x.c3 x.d) q w hx hy ox oy W1 W2
 ·obtain ⟨q,W1⟩:=gwords_no (rwN x) h1
  exact gMul_slow1 x y q q w hx hy ox oy W1
end Go.Proofs.YtlhddcingeneaaaGreatDoor
