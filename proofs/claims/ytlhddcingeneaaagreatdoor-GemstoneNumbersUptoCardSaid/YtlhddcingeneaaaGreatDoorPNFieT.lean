/- The reference's field: the coefficients of a product. -/
import Derived.Test.YtlhddcingeneaaaGreatDoorPNFieM
namespace Go.Proofs.YtlhddcingeneaaaGreatDoor
open Go Go.RowKit
set_option maxRecDepth 100000
set_option linter.unusedVariables false
set_option linter.unusedSimpArgs false
noncomputable def gtN:Nat:=Tryz.f134.ntmps
noncomputable def gtC:Code:=Tryz.f134.body.getD .skip
noncomputable def gt2:Code:=cB 2 gtC
noncomputable def gt0:Code:=cB 0 gtC
def gtMem (nX nY nZ:Array Value) (q:Nat→Int):Mem:=[(0,(26,nX)),(1,(26,nY)),(2,(26,nZ)),(3,(26,cel q))]
theorem sgn_yes {x:Int} (h:x=0):(x.sign == 0)=true:=by rw [h];rfl
theorem sgn_no {x:Int} (h:x≠0):(x.sign == 0)=false:=by rw [beq_eq_false_iff_ne];exact fun e=>h (Int.sign_eq_zero_iff_zero.1 e)
theorem times_round {Xv Yv:Nat→Int} {nZ:Array Value} {q:Nat→Int} {X:Cx} {r:Nat→Nat} {i j:Nat} {a:Act} {w:World} {Q:Exit→Act→World→Prop} (hi:i<4) (hj:j<4)
  (hO:∀ w,Calls Tryz.prog 16 #[.int .i64 (sqf i j:Int)] w (RetI (sqf i j:Int) w))
  (hM1:∀ w,Calls Tryz.prog 52 #[vI (Xv i),vI (Yv j)] w (RetI (Xv i * Yv j) w))
  (hM2:∀ w,Calls Tryz.prog 52 #[vI (sqf i j:Int),vI (Xv i * Yv j)] w (RetI ((sqf i j:Int) * (Xv i * Yv j)) w))
  (hA:∀ w,Calls Tryz.prog 14 #[vI (q (xo i j)),vI ((sqf i j:Int) * (Xv i * Yv j))] w (RetI (q (xo i j)+(sqf i j:Int) * (Xv i * Yv j)) w))
  (hM:MemOk X r (gtMem (cel Xv) (cel Yv) nZ q) w)
  (hS:St gtN [(6,(.int .i64 i,0)),(7,(.int .i64 j,0)),(2,(.pointer (some ⟨r 0,0,none⟩),1)),(3,(.pointer (some ⟨r 1,0,none⟩),2)),(5,(.pointer (some ⟨r 3,0,none⟩),4))] a)
  (hQ:∀ a' w',St gtN [(7,(.int .i64 ((j+1:Nat):Int),0))] a'→Kp (keeps gt2 gtN) a a'→MemOk X r (gtMem (cel Xv) (cel Yv) nZ (stepQ Xv Yv i j q)) w'→Q .normal a' w') :
  wpL Tryz.prog [cI (cI gt2)] Q a w:=by
 have S1:=fun w=>RSign_any (Xv i) w
 have S2:=fun w=>RSign_any (Yv j) w
 by_cases hx:Xv i=0
 ·have h1:=sgn_yes hx
  rw [stepQ_zero q (.inl hx)] at hQ
  refine vm_keep (X:=X) kr [] gtN [cI (cI gt2)] (ne_nil kr) (fun r=>[(6,(.int .i64 ((i:Int)),0)),(7,(.int .i64 ((j:Int)),0)),(2,(.pointer (some ⟨r 0,0,none⟩),1)),(3,(.pointer (some ⟨r 1,0,none⟩),2)),(5,(.pointer (some ⟨r 3,0,none⟩),4))]) (fun r=>[(0,(26,cel Xv)),(1,(26,cel Yv)),(2,(26,nZ)),(3,(26,cel q))]) 110 (r) (hS) (hM) (fun r hr=>⟨by simp only [hr 0 (by omega),hr 1 (by omega),hr 3 (by omega)],rfl⟩) (keysLt_all kr) [.t,(.p _ true h1),(.p _ true h1),(.p _ true h1),(.p _ true h1),(.p _ true h1),(.p _ true h1),.t] [cV (S1)] (VEx.n) (fun r=>[(7,(.int .i64 (((j+1:Nat):Int)),0))]) (keeps gt2 gtN) (fun r=>[(0,(26,cel Xv)),(1,(26,cel Yv)),(2,(26,nZ)),(3,(26,cel q))]) (fun r hr=>⟨rfl,rfl⟩) (keysLt_all kr) (fun r g=>by obtain ⟨rfl | rfl | rfl | rfl,rfl | rfl | rfl | rfl⟩:=cases16 hi hj <;> kernel_rfl) (fun r g=>by obtain ⟨rfl | rfl | rfl | rfl,rfl | rfl | rfl | rfl⟩:=cases16 hi hj <;> kernel_rfl) ?_
  exact hQ
 ·have h1:=sgn_no hx
  by_cases hy:Yv j=0
  ·have h2:=sgn_yes hy
   rw [stepQ_zero q (.inr hy)] at hQ
   refine vm_keep (X:=X) kr [] gtN [cI (cI gt2)] (ne_nil kr) (fun r=>[(6,(.int .i64 ((i:Int)),0)),(7,(.int .i64 ((j:Int)),0)),(2,(.pointer (some ⟨r 0,0,none⟩),1)),(3,(.pointer (some ⟨r 1,0,none⟩),2)),(5,(.pointer (some ⟨r 3,0,none⟩),4))]) (fun r=>[(0,(26,cel Xv)),(1,(26,cel Yv)),(2,(26,nZ)),(3,(26,cel q))]) 110 (r) (hS) (hM) (fun r hr=>⟨by simp only [hr 0 (by omega),hr 1 (by omega),hr 3 (by omega)],rfl⟩) (keysLt_all kr) [.t,(.p _ false h1),(.p _ false h1),(.p _ false h1),(.p _ false h1),(.p _ false h1),(.p _ false h1),(.p _ true h2)] [cV (S1),cV (S2)] (VEx.n) (fun r=>[(7,(.int .i64 (((j+1:Nat):Int)),0))]) (keeps gt2 gtN) (fun r=>[(0,(26,cel Xv)),(1,(26,cel Yv)),(2,(26,nZ)),(3,(26,cel q))]) (fun r hr=>⟨rfl,rfl⟩) (keysLt_all kr) (fun r g=>by obtain ⟨rfl | rfl | rfl | rfl,rfl | rfl | rfl | rfl⟩:=cases16 hi hj <;> kernel_rfl) (fun r g=>by obtain ⟨rfl | rfl | rfl | rfl,rfl | rfl | rfl | rfl⟩:=cases16 hi hj <;> kernel_rfl) ?_
   exact hQ
  ·have h2:=sgn_no hy
   refine vm_keep (X:=X) kr [] gtN [cI (cI gt2)] (ne_nil kr) (fun r=>[(6,(.int .i64 ((i:Int)),0)),(7,(.int .i64 ((j:Int)),0)),(2,(.pointer (some ⟨r 0,0,none⟩),1)),(3,(.pointer (some ⟨r 1,0,none⟩),2)),(5,(.pointer (some ⟨r 3,0,none⟩),4))]) (fun r=>[(0,(26,cel Xv)),(1,(26,cel Yv)),(2,(26,nZ)),(3,(26,cel q))]) 110 (r) (hS) (hM) (fun r hr=>⟨by simp only [hr 0 (by omega),hr 1 (by omega),hr 3 (by omega)],rfl⟩) (keysLt_all kr) [.t,(.p _ false h1),(.p _ false h1),(.p _ false h1),(.p _ false h1),(.p _ false h1),(.p _ false h1),(.p _ false h2),(bif Nat.blt 0 ((i &&& j) &&& 1) then Dec.t else Dec.f),(bif Nat.blt 0 ((i &&& j) &&& 2) then Dec.t else Dec.f)] [cV (S1),cV (S2),cV (hO),cV (hM1),cV (hM2),cV (hA)] (VEx.n) (fun r=>[(7,(.int .i64 (((j+1:Nat):Int)),0))]) (keeps gt2 gtN) (fun r=>[(0,(26,cel Xv)),(1,(26,cel Yv)),(2,(26,nZ)),(3,(26,cel (stepQ Xv Yv i j q)))]) (fun r hr=>⟨rfl,rfl⟩) (keysLt_all kr) (fun r g=>by obtain ⟨rfl | rfl | rfl | rfl,rfl | rfl | rfl | rfl⟩:=cases16 hi hj <;> kernel_rfl) (fun r g=>by obtain ⟨rfl | rfl | rfl | rfl,rfl | rfl | rfl | rfl⟩:=cases16 hi hj <;> kernel_rfl) ?_
   exact hQ
theorem times_inner {k m:Nat} {Xv Yv:Nat→Int} {nZ:Array Value} {q:Nat→Int} {X:Cx} {r:Nat→Nat} {i:Nat} {a:Act} {w:World} {Q:Exit→Act→World→Prop} (hi:i<4) (hm:2 * k+1≤m) (hm2:m≤100000000) (hX:∀ i,Bd k (Xv i)) (hY:∀ j,Bd k (Yv j)) (hq:∀ t,Bd m (q t))
  (hM:MemOk X r (gtMem (cel Xv) (cel Yv) nZ q) w)
  (hS:St gtN [(7,(.int .i64 ((0:Nat):Int),0)),(6,(.int .i64 i,0)),(2,(.pointer (some ⟨r 0,0,none⟩),1)),(3,(.pointer (some ⟨r 1,0,none⟩),2)),(5,(.pointer (some ⟨r 3,0,none⟩),4))] a)
  (hQ:∀ a' w',St gtN [] a'→Kp (keeps gt2 gtN) a a'→MemOk X r (gtMem (cel Xv) (cel Yv) nZ (rowQ Xv Yv i 4 q)) w'→Q .normal a' w'):gt2.wp Tryz.prog Q a w:=by
 refine wp_for 2 kr kr (fun n a' w'=>∃ j,4 - j=n∧j≤4∧Kp (keeps gt2 gtN) a a'∧St gtN [(7,(.int .i64 (j:Int),0)),(6,(.int .i64 i,0)),(2,(.pointer (some ⟨r 0,0,none⟩),1)),(3,(.pointer (some ⟨r 1,0,none⟩),2)),(5,(.pointer (some ⟨r 3,0,none⟩),4))] a'∧MemOk X r (gtMem (cel Xv) (cel Yv) nZ (rowQ Xv Yv i j q)) w') 4
  ⟨0,rfl,by omega,Kp.refl _ _,hS,hM⟩ ?_
 rintro n a1 w1 ⟨j,rfl,hj,hK1,hS1,hM1⟩
 refine wpL_one ?_
 rcases Nat.lt_or_ge j 4 with hj4 | hj4
 ·have hb:=BQ_row (q:=q) i hm hX hY hq j
  refine times_round (q:=rowQ Xv Yv i j q) hi hj4 (fun w=>ROf_any _ w (by omega) (by have:=sqf_le i j;omega)) (fun w=>RMul_any _ _ w ((hX i).mono (by omega)) ((hY j).mono (by omega))) (fun w=>RMul_any _ _ w ((show Bd 1 (sqf i j:Int) by have:=sqf_le i j;unfold Bd;omega).mono (by omega)) (((hX i).mul2 (hY j)).mono (by omega)))
   (fun w=>RAdd_any _ _ w ((hb _).mono (by omega)) ((sqf_mul i j (hX i) (hY j)).mono (by omega))) hM1 (hS1.sub ?_) ?_
  ·intro p hp
   simp only [List.mem_cons,List.not_mem_nil,or_false] at hp ⊢
   rcases hp with rfl | rfl | rfl | rfl | rfl <;> simp
  intro a' w' hS' hK' hM'
  exact ⟨4 - (j+1),by omega,j+1,rfl,by omega,hK1.trans hK',St.keep (hS1.sub (fun p hp=>List.mem_cons_of_mem _ hp)) hS' hK' kr,hM'⟩
 ·obtain rfl:j=4:=by omega
  refine vk (X:=X) [] gtN [cI (cI gt2)] (fun r=>[(7,(.int .i64 (((4:Nat):Int)),0))]) (fun r=>[(0,(26,cel Xv)),(1,(26,cel Yv)),(2,(26,nZ)),(3,(26,cel (rowQ Xv Yv i 4 q)))]) 110 (r) (hS1.sub (fun p hp=>List.mem_cons.2 (.inl (List.mem_singleton.1 hp)))) (hM1) [.f] [] (VEx.x 2) (fun r=>[]) (keeps gt2 gtN) (fun r=>[(0,(26,cel Xv)),(1,(26,cel Yv)),(2,(26,nZ)),(3,(26,cel (rowQ Xv Yv i 4 q)))]) ?_
  exact fun a' w' hS' hK' hM'=>hQ a' w' hS' (hK1.trans hK') hM'
theorem times_outer {k:Nat} {Xv Yv:Nat→Int} {nZ:Array Value} {X:Cx} {r:Nat→Nat} {a:Act} {w:World} {Q:Exit→Act→World→Prop} (hk:k≤30000000) (hX:∀ i,Bd k (Xv i)) (hY:∀ j,Bd k (Yv j))
  (hM:MemOk X r (gtMem (cel Xv) (cel Yv) nZ (fun _=>0)) w)
  (hS:St gtN [(6,(.int .i64 ((0:Nat):Int),0)),(2,(.pointer (some ⟨r 0,0,none⟩),1)),(3,(.pointer (some ⟨r 1,0,none⟩),2)),(5,(.pointer (some ⟨r 3,0,none⟩),4))] a)
  (hQ:∀ a' w',St gtN [] a'→Kp (keeps gt0 gtN) a a'→MemOk X r (gtMem (cel Xv) (cel Yv) nZ (allQ Xv Yv 4)) w'→Q .normal a' w'):gt0.wp Tryz.prog Q a w:=by
 refine wp_for 0 kr kr (fun n a' w'=>∃ i,4 - i=n∧i≤4∧Kp (keeps gt0 gtN) a a'∧St gtN [(6,(.int .i64 (i:Int),0)),(2,(.pointer (some ⟨r 0,0,none⟩),1)),(3,(.pointer (some ⟨r 1,0,none⟩),2)),(5,(.pointer (some ⟨r 3,0,none⟩),4))] a'∧MemOk X r (gtMem (cel Xv) (cel Yv) nZ (allQ Xv Yv i)) w') 4
  ⟨0,rfl,by omega,Kp.refl _ _,hS,hM⟩ ?_
 rintro n a1 w1 ⟨i,rfl,hi,hK1,hS1,hM1⟩
 rcases Nat.lt_or_ge i 4 with hi4 | hi4
 ·have c4:i=0∨i=1∨i=2∨i=3:=by omega
  refine wp_cut 1 kr ?_
  refine vm_keep (X:=X) kr [] gtN (cPre 1 (cI (cI gt0))) (ne_nil kr) (fun r=>[(6,(.int .i64 ((i:Int)),0)),(2,(.pointer (some ⟨r 0,0,none⟩),1)),(3,(.pointer (some ⟨r 1,0,none⟩),2)),(5,(.pointer (some ⟨r 3,0,none⟩),4))]) (fun r=>[(0,(26,cel Xv)),(1,(26,cel Yv)),(2,(26,nZ)),(3,(26,cel (allQ Xv Yv i)))]) 102 (r) (hS1) (hM1) (fun r hr=>⟨by simp only [hr 0 (by omega),hr 1 (by omega),hr 3 (by omega)],rfl⟩) (keysLt_all kr) [.t] [] (VEx.n) (fun r=>[(6,(.int .i64 ((i:Int)),0)),(2,(.pointer (some ⟨r 0,0,none⟩),1)),(3,(.pointer (some ⟨r 1,0,none⟩),2)),(5,(.pointer (some ⟨r 3,0,none⟩),4))]) (keeps gt0 gtN) (fun r=>[(0,(26,cel Xv)),(1,(26,cel Yv)),(2,(26,nZ)),(3,(26,cel (allQ Xv Yv i)))]) (fun r hr=>⟨by simp only [hr 0 (by omega),hr 1 (by omega),hr 3 (by omega)],rfl⟩) (keysLt_all kr) (fun r g=>by obtain rfl | rfl | rfl | rfl:=c4 <;> kernel_rfl) (fun r g=>by obtain rfl | rfl | rfl | rfl:=c4 <;> kernel_rfl) ?_
  intro a2 w2 hS2 hK2 hM2
  refine wp_blk 1 kr ?_
  refine wp_cut 2 kr ?_
  refine vm_keep (X:=X) kr [] gtN (cPre 2 (cI (cAt 1 (cI (cI gt0))))) (ne_nil kr) (fun r=>[(6,(.int .i64 ((i:Int)),0)),(2,(.pointer (some ⟨r 0,0,none⟩),1)),(3,(.pointer (some ⟨r 1,0,none⟩),2)),(5,(.pointer (some ⟨r 3,0,none⟩),4))]) (fun r=>[(0,(26,cel Xv)),(1,(26,cel Yv)),(2,(26,nZ)),(3,(26,cel (allQ Xv Yv i)))]) 102 (r) (hS2) (hM2) (fun r hr=>⟨by simp only [hr 0 (by omega),hr 1 (by omega),hr 3 (by omega)],rfl⟩) (keysLt_all kr) [] [] (VEx.n) (fun r=>[(6,(.int .i64 ((i:Int)),0)),(2,(.pointer (some ⟨r 0,0,none⟩),1)),(3,(.pointer (some ⟨r 1,0,none⟩),2)),(5,(.pointer (some ⟨r 3,0,none⟩),4)),(7,(.int .i64 (((0:Nat):Int)),0))]) (keeps gt0 gtN) (fun r=>[(0,(26,cel Xv)),(1,(26,cel Yv)),(2,(26,nZ)),(3,(26,cel (allQ Xv Yv i)))]) (fun r hr=>⟨by simp only [hr 0 (by omega),hr 1 (by omega),hr 3 (by omega)],rfl⟩) (keysLt_all kr) (fun r g=>by obtain rfl | rfl | rfl | rfl:=c4 <;> kernel_rfl) (fun r g=>by obtain rfl | rfl | rfl | rfl:=c4 <;> kernel_rfl) ?_
  intro a3 w3 hS3 hK3 hM3
  refine times_inner (i:=i) (k:=k) (m:=2 * k+1+4 * i) (q:=allQ Xv Yv i) hi4 (by omega) (by omega) hX hY (BQ_all hX hY i) hM3 (hS3.sub ?_) ?_
  ·intro p hp
   simp only [List.mem_cons,List.not_mem_nil,or_false] at hp ⊢
   rcases hp with rfl | rfl | rfl | rfl | rfl <;> simp
  intro a4 w4 hS4 hK4 hM4
  have hS5:St gtN [(6,(.int .i64 (i:Int),0)),(2,(.pointer (some ⟨r 0,0,none⟩),1)),(3,(.pointer (some ⟨r 1,0,none⟩),2)),(5,(.pointer (some ⟨r 3,0,none⟩),4))] a4:=by
   refine St.keep (hS3.sub ?_) hS4 hK4 kr
   intro p hp
   simp only [List.mem_cons,List.not_mem_nil,or_false] at hp ⊢
   rcases hp with rfl | rfl | rfl | rfl <;> simp
  have e2:cPost 2 (cI (cAt 1 (cI (cI gt0)))) = []:=by kernel_rfl
  refine then_n ?_
  rw [e2]
  refine wpL_nil (inBlock_n (then_n ?_))
  refine vm_keep (X:=X) kr [] gtN (cPost 1 (cI (cI gt0))) (ne_nil kr) (fun r=>[(6,(.int .i64 ((i:Int)),0)),(2,(.pointer (some ⟨r 0,0,none⟩),1)),(3,(.pointer (some ⟨r 1,0,none⟩),2)),(5,(.pointer (some ⟨r 3,0,none⟩),4))]) (fun r=>[(0,(26,cel Xv)),(1,(26,cel Yv)),(2,(26,nZ)),(3,(26,cel (allQ Xv Yv (i+1))))]) 102 (r) (hS5) (hM4) (fun r hr=>⟨by simp only [hr 0 (by omega),hr 1 (by omega),hr 3 (by omega)],rfl⟩) (keysLt_all kr) [] [] (VEx.n) (fun r=>[(6,(.int .i64 (((i+1:Nat):Int)),0)),(2,(.pointer (some ⟨r 0,0,none⟩),1)),(3,(.pointer (some ⟨r 1,0,none⟩),2)),(5,(.pointer (some ⟨r 3,0,none⟩),4))]) (keeps gt0 gtN) (fun r=>[(0,(26,cel Xv)),(1,(26,cel Yv)),(2,(26,nZ)),(3,(26,cel (allQ Xv Yv (i+1))))]) (fun r hr=>⟨by simp only [hr 0 (by omega),hr 1 (by omega),hr 3 (by omega)],rfl⟩) (keysLt_all kr) (fun r g=>by obtain rfl | rfl | rfl | rfl:=c4 <;> kernel_rfl) (fun r g=>by obtain rfl | rfl | rfl | rfl:=c4 <;> kernel_rfl) ?_
  intro a6 w6 hS6 hK6 hM6
  exact ⟨4 - (i+1),by omega,i+1,rfl,by omega,hK1.trans (hK2.trans (hK3.trans ((hK4.mono kr).trans hK6))),hS6,hM6⟩
 ·obtain rfl:i=4:=by omega
  refine wpL_one ?_
  refine vk (X:=X) [] gtN [cI (cI gt0)] (fun r=>[(6,(.int .i64 (((4:Nat):Int)),0)),(2,(.pointer (some ⟨r 0,0,none⟩),1)),(3,(.pointer (some ⟨r 1,0,none⟩),2)),(5,(.pointer (some ⟨r 3,0,none⟩),4))]) (fun r=>[(0,(26,cel Xv)),(1,(26,cel Yv)),(2,(26,nZ)),(3,(26,cel (allQ Xv Yv 4)))]) 102 (r) (hS1) (hM1) [.f] [] (VEx.x 0) (fun r=>[(6,(.int .i64 (((4:Nat):Int)),0)),(2,(.pointer (some ⟨r 0,0,none⟩),1)),(3,(.pointer (some ⟨r 1,0,none⟩),2)),(5,(.pointer (some ⟨r 3,0,none⟩),4))]) (keeps gt0 gtN) (fun r=>[(0,(26,cel Xv)),(1,(26,cel Yv)),(2,(26,nZ)),(3,(26,cel (allQ Xv Yv 4)))]) ?_
  exact fun a' w' hS' hK' hM'=>hQ a' w' (hS'.sub (fun p hp=>by cases hp)) (hK1.trans hK') hM'
theorem gtimes_any (Xv Yv:Nat→Int) (w:World) (hX:∀ i,Bd 30000000 (Xv i)) (hY:∀ i,Bd 30000000 (Yv i)):Calls Tryz.prog 134 #[.agg (cel Xv),.agg (cel Yv)] w (RetV (.agg (cel (allQ Xv Yv 4))) w):=by
 refine vm_start [.agg (cel Xv),.agg (cel Yv)] (fn:=Tryz.f134) (c:=gtC) kr kr nle ?_
 intro a hS
 refine wp_cut 0 kr ?_
 refine vf (X:=⟨w,[]⟩) [] gtN (cPre 0 gtC) (fun r=>[(0,(.agg (cel Xv),0)),(1,(.agg (cel Yv),0))]) (fun r=>[]) 0 (fun _=>0) (hS) (⟨Chg.refl _ _,fun k x h=>(by cases h),fun k k' x x' h=>by cases h⟩) [] [] (VEx.n) (fun r=>[(6,(.int .i64 (((0:Nat):Int)),0)),(2,(.pointer (some ⟨r 0,0,none⟩),1)),(3,(.pointer (some ⟨r 1,0,none⟩),2)),(5,(.pointer (some ⟨r 3,0,none⟩),4)),(4,(.pointer (some ⟨r 2,0,none⟩),3))]) [] (fun r=>[(0,(26,cel Xv)),(1,(26,cel Yv)),(2,(26,z4)),(3,(26,z4))]) ?_
 intro r a1 w1 hr hS1 hK1 hM1
 rw [z4_eq] at hM1
 refine times_outer (k:=30000000) (Xv:=Xv) (Yv:=Yv) (by omega) hX hY hM1 (hS1.sub ?_) ?_
 ·intro p hp
  simp only [List.mem_cons,List.not_mem_nil,or_false] at hp ⊢
  rcases hp with rfl | rfl | rfl | rfl <;> simp
 intro a2 w2 hS2 hK2 hM2
 have hS3:St gtN [(4,(.pointer (some ⟨r 2,0,none⟩),3)),(5,(.pointer (some ⟨r 3,0,none⟩),4))] a2:=by
  refine St.keep (hS1.sub ?_) hS2 hK2 kr
  intro p hp
  simp only [List.mem_cons,List.not_mem_nil,or_false] at hp ⊢
  rcases hp with rfl | rfl <;> simp
 refine then_n ?_
 refine vk (X:=⟨w,[]⟩) [] gtN (cPost 0 gtC) (fun r=>[(4,(.pointer (some ⟨r 2,0,none⟩),3)),(5,(.pointer (some ⟨r 3,0,none⟩),4))]) (fun r=>[(0,(26,cel Xv)),(1,(26,cel Yv)),(2,(26,cel (fun _=>0))),(3,(26,cel (allQ Xv Yv 4)))]) 102 (r) (hS3) (hM2) [] [] (VEx.r) (fun r=>[(4,(.pointer (some ⟨r 2,0,none⟩),3))]) [] (fun r=>[(2,(26,cel (allQ Xv Yv 4)))]) ?_
 intro a4 w4 hS4 hK4 hM4
 exact vm_ret (fn:=Tryz.f134) hS4 hM4 (.agg (cel (allQ Xv Yv 4))) (fun g=>by kernel_rfl) ⟨rfl,hM4.below.below (Nat.le_refl _) (fun x h=>by cases h)⟩
end Go.Proofs.YtlhddcingeneaaaGreatDoor
