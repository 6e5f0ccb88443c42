/- The reference's field: the integer part. -/
import Derived.Test.YtlhddcingeneaaaGreatDoorPNFieV
import Derived.Test.YtlhddcingeneaaaGreatDoorPNFlrG
import Derived.Test.YtlhddcingeneaaaGreatDoorPNL
namespace Go.Proofs.YtlhddcingeneaaaGreatDoor
open Go Go.RowKit
set_option maxRecDepth 100000
set_option linter.unusedVariables false
set_option linter.unusedSimpArgs false
theorem Bd.nat {k:Nat} {x:Int} (h:Bd k x):Bd k (x.natAbs:Int):=h.le (by simp)
theorem Bd.of_le {k:Nat} {x y:Int} (h:Bd k x) (h0:0≤y) (h1:y≤x):Bd k y:=h.le (by omega)
theorem Bd.pow2 {k u:Nat} (h:u<8 * k):Bd k (((2 ^ u:Nat):Int)):=by
 unfold Bd
 rw [Int.natAbs_natCast,show 256=2 ^ 8 from rfl,← Nat.pow_mul]
 exact Nat.pow_lt_pow_right (by decide) h
theorem pow2_Bd {k u:Nat} (h:Bd k (((2 ^ u:Nat):Int))):u<8 * k:=by
 unfold Bd at h
 rw [Int.natAbs_natCast,show 256=2 ^ 8 from rfl,← Nat.pow_mul] at h
 exact (Nat.pow_lt_pow_iff_right (by decide)).1 h
theorem Bd.sml {k:Nat} {c x:Int} (hc:c.natAbs<256) (h:Bd k x):Bd (k+1) (c * x):=((show Bd 1 c by unfold Bd;omega).mul h).mono (by omega)
theorem Bd.gS {k:Nat} {x:Nm} (h:BN k x):Bd (k+2) (gS x):=((h.h1.nat.add h.h2.nat).add (h.h3.nat.mono (by omega))).mono (by omega)
theorem Bd.gT {k:Nat} {x:Nm} (h:BN k x):Bd (k+3) (gT x):=(((h.h1.nat.sml (c:=2) (by decide)).add (h.h2.nat.sml (c:=2) (by decide))).add ((h.h3.nat.sml (c:=3) (by decide)).mono (by omega))).mono (by omega)
theorem Bd.gY {k:Nat} {x:Nm} (h:BN k x):Bd (k+4) (gY x):=((((h.h0.nat.mono (show k≤k+1 by omega)).add (h.h1.nat.sml (c:=2) (by decide))).add ((h.h2.nat.sml (c:=2) (by decide)).mono (by omega))).add ((h.h3.nat.sml (c:=3) (by decide)).mono (by omega))).mono (by omega)
theorem BN.gC {k:Nat} {z:Nm} (h:BN k z) (hk:1≤k):BN (8 * k+35) (gC z):=by
 have bY:BN k (quN z):=⟨h.h0,h.h1,h.h2,h.h3,Bd.one (by omega)⟩
 have b1:BN k ⟨1,0,0,0,1⟩:=⟨Bd.one (by omega),Bd.zero _,Bd.zero _,Bd.zero _,Bd.one (by omega)⟩
 exact (((b1.mulR bY.cj1).mulR (bY.cj2.mono (by omega))).mulR (bY.cj2.cj1.mono (by omega))).mono (by omega)
theorem gStop {k v:Nat} {x:Nm} {r2 r3 r6:Int} (hx:Ok x) (hb:BN k x) (hk:1≤k) (h:Ap (((2 ^ v:Nat):Int)) r2 r3 r6) (h0:x.c1≠0∨x.c2≠0∨x.c3≠0) (hv:8 * (9 * k+80)≤v):(gLo x (((2 ^ v:Nat):Int)) r2 r3 r6).fdiv (x.d * (((2 ^ v:Nat):Int)))=(gHi x (((2 ^ v:Nat):Int)) r2 r3 r6).fdiv (x.d * (((2 ^ v:Nat):Int))):=by
 refine Classical.byContradiction fun e=>?_
 obtain ⟨z,e1,e2,e3,ed,hz,hu⟩:=gDiffer hx h h0 e
 have bz:BN (k+4) z:=⟨(((Bd.gS hb).mono (show k+2≤k+3 by omega)).add (Bd.gT hb)).le (by omega),by rw [e1];exact hb.h1.mono (by omega),by rw [e2];exact hb.h2.mono (by omega),by rw [e3];exact hb.h3.mono (by omega),by rw [ed];exact Bd.one (by omega)⟩
 have bu:=((Bd.gS hb).mul (Bd.gY (bz.gC (by omega)))).of_le (by have:=h.u0;omega) hu
 have:=pow2_Bd bu
 omega
noncomputable def gfN:Nat:=Tryz.f75.ntmps
noncomputable def gfC:Code:=Tryz.f75.body.getD .skip
noncomputable def gf0:Code:=cB 0 gfC
noncomputable def gf1:Code:=cI (cAt 1 (cI (cI gf0)))
noncomputable def gf2:Code:=cB 2 gfC
noncomputable def gf4:Code:=cB 4 gfC
noncomputable def gf24:Code:=(cPost 2 gf1).headD .skip
def mm (i:Nat):Nat:=match i with
 | 1=>2
 | 2=>3
 | _=>6
def pL (Xv R:Nat→Int) (u:Int):Nat→Int
 | 0=>Xv 0 * u
 | j+1=>pL Xv R u j+aL (Xv (j+1)) (R (j+1))
def pH (Xv R:Nat→Int) (u:Int):Nat→Int
 | 0=>Xv 0 * u
 | j+1=>pH Xv R u j+aH (Xv (j+1)) (R (j+1))
def gfMem (Xv:Nat→Int) (xd u lo hi:Int):Mem:=[(0,(28,celN Xv xd)),(1,(25,cZ1)),(107,(25,cI1 u)),(203,(25,cI1 (u * u))),(210,(25,cI1 lo)),(213,(25,cI1 hi))]
theorem gf_round {Xv:Nat→Int} {xd u lo hi s m r1 a1 a2 lo2 hi2:Int} {X:Cx} {r:Nat→Nat} {j:Nat} {a:Act} {w:World} {Q:Exit→Act→World→Prop} (hj:j<3)
  (O1:∀ w,Calls Tryz.prog 16 #[.int .i64 ((mm (j+1):Nat):Int)] w (RetI ((mm (j+1):Nat):Int) w)) (O2:∀ w,Calls Tryz.prog 16 #[.int .i64 1] w (RetI 1 w))
  (M1:∀ w,Calls Tryz.prog 52 #[vI (u * u),vI ((mm (j+1):Nat):Int)] w (RetI m w)) (T:∀ w,Calls Tryz.prog 139 #[vI m] w (RetIE r1 0 w))
  (M2:∀ w,Calls Tryz.prog 52 #[vI (Xv (j+1)),vI r1] w (RetI a1 w)) (A1:∀ w,Calls Tryz.prog 14 #[vI r1,vI 1] w (RetI s w)) (M3:∀ w,Calls Tryz.prog 52 #[vI (Xv (j+1)),vI s] w (RetI a2 w))
  (G:∀ w,Calls Tryz.prog 61 #[vI (Xv (j+1))] w (RetN (Xv (j+1)).sign w))
  (L:∀ w,Calls Tryz.prog 14 #[vI lo,vI (if Xv (j+1)<0 then a2 else a1)] w (RetI lo2 w)) (K:∀ w,Calls Tryz.prog 14 #[vI hi,vI (if Xv (j+1)<0 then a1 else a2)] w (RetI hi2 w))
  (hM:MemOk X r (gfMem Xv xd u lo hi) w)
  (hS:St gfN [(1,(.pointer (some ⟨r 0,0,none⟩),1)),(4,(.pointer (some ⟨r 107,0,none⟩),108)),(7,(.pointer (some ⟨r 203,0,none⟩),204)),(8,(.pointer (some ⟨r 210,0,none⟩),211)),(9,(.pointer (some ⟨r 213,0,none⟩),214)),(10,(.int .i64 ((j+1:Nat):Int),0))] a)
  (hQ:∀ a' w',St gfN [(10,(.int .i64 ((j+1+1:Nat):Int),0))] a'→Kp (keeps gf4 gfN) a a'→MemOk X r (gfMem Xv xd u lo2 hi2) w'→Q .normal a' w') :
  wpL Tryz.prog [cI (cI gf4)] Q a w:=by
 have c3:j=0∨j=1∨j=2:=by omega
 by_cases h:Xv (j+1)<0
 ·have h1:decide ((Xv (j+1)).sign<0)=true:=decide_eq_true (by rw [Int.sign_eq_neg_one_of_neg h];omega)
  rw [if_pos h] at L K
  refine vm_keep (X:=X) kr [] gfN [cI (cI gf4)] (ne_nil kr) (fun r=>[(1,(.pointer (some ⟨r 0,0,none⟩),1)),(4,(.pointer (some ⟨r 107,0,none⟩),108)),(7,(.pointer (some ⟨r 203,0,none⟩),204)),(8,(.pointer (some ⟨r 210,0,none⟩),211)),(9,(.pointer (some ⟨r 213,0,none⟩),214)),(10,(.int .i64 (((j+1:Nat):Int)),0))]) (fun r=>[(0,(28,celN Xv xd)),(1,(25,cZ1)),(107,(25,cI1 u)),(203,(25,cI1 (u * u))),(210,(25,cI1 lo)),(213,(25,cI1 hi))]) 300 (r) (hS) (hM) (fun r hr=>⟨by simp only [hr 0 (by omega),hr 107 (by omega),hr 203 (by omega),hr 210 (by omega),hr 213 (by omega)],rfl⟩) (keysLt_all kr) [.t,(.p _ true h1)] [cV (O1),cV (M1),cV (T),cV (M2),cV (O2),cV (A1),cV (M3),cV (G),cV (L),cV (K)] (VEx.n) (fun r=>[(10,(.int .i64 (((j+1+1:Nat):Int)),0))]) (keeps gf4 gfN) (fun r=>[(0,(28,celN Xv xd)),(1,(25,cZ1)),(107,(25,cI1 u)),(203,(25,cI1 (u * u))),(210,(25,cI1 lo2)),(213,(25,cI1 hi2))]) (fun r hr=>⟨rfl,rfl⟩) (keysLt_all kr) (fun r g=>by obtain rfl | rfl | rfl:=c3 <;> kernel_rfl) (fun r g=>by obtain rfl | rfl | rfl:=c3 <;> kernel_rfl) ?_
  exact hQ
 ·have h1:decide ((Xv (j+1)).sign<0)=false:=decide_eq_false (by have:=Int.sign_nonneg_iff.2 (show 0≤Xv (j+1) by omega);omega)
  rw [if_neg h] at L K
  refine vm_keep (X:=X) kr [] gfN [cI (cI gf4)] (ne_nil kr) (fun r=>[(1,(.pointer (some ⟨r 0,0,none⟩),1)),(4,(.pointer (some ⟨r 107,0,none⟩),108)),(7,(.pointer (some ⟨r 203,0,none⟩),204)),(8,(.pointer (some ⟨r 210,0,none⟩),211)),(9,(.pointer (some ⟨r 213,0,none⟩),214)),(10,(.int .i64 (((j+1:Nat):Int)),0))]) (fun r=>[(0,(28,celN Xv xd)),(1,(25,cZ1)),(107,(25,cI1 u)),(203,(25,cI1 (u * u))),(210,(25,cI1 lo)),(213,(25,cI1 hi))]) 300 (r) (hS) (hM) (fun r hr=>⟨by simp only [hr 0 (by omega),hr 107 (by omega),hr 203 (by omega),hr 210 (by omega),hr 213 (by omega)],rfl⟩) (keysLt_all kr) [.t,(.p _ false h1)] [cV (O1),cV (M1),cV (T),cV (M2),cV (O2),cV (A1),cV (M3),cV (G),cV (L),cV (K)] (VEx.n) (fun r=>[(10,(.int .i64 (((j+1+1:Nat):Int)),0))]) (keeps gf4 gfN) (fun r=>[(0,(28,celN Xv xd)),(1,(25,cZ1)),(107,(25,cI1 u)),(203,(25,cI1 (u * u))),(210,(25,cI1 lo2)),(213,(25,cI1 hi2))]) (fun r hr=>⟨rfl,rfl⟩) (keysLt_all kr) (fun r g=>by obtain rfl | rfl | rfl:=c3 <;> kernel_rfl) (fun r g=>by obtain rfl | rfl | rfl:=c3 <;> kernel_rfl) ?_
  exact hQ
theorem gFloor_core (Xv:Nat→Int) (xd f:Int) (w:World) (hx:BN 100 ⟨Xv 0,Xv 1,Xv 2,Xv 3,xd⟩) (ox:Ok ⟨Xv 0,Xv 1,Xv 2,Xv 3,xd⟩) (hf:Fl ⟨Xv 0,Xv 1,Xv 2,Xv 3,xd⟩ f) (hi:Xv 1≠0∨Xv 2≠0∨Xv 3≠0):Calls Tryz.prog 75 #[.agg (celN Xv xd)] w (RetI f w):=by
 have V:∀ w,Calls Tryz.prog 42 #[.agg (celN Xv xd)] w (RetV (.bool true) w):=fun w=>gValid_yes ⟨Xv 0,Xv 1,Xv 2,Xv 3,xd⟩ w (hx.mono (by omega)) ox
 have R:∀ w,Calls Tryz.prog 137 #[.agg (celN Xv xd)] w (RetV (.bool false) w):=fun w=>by
  have:=gRational_any ⟨Xv 0,Xv 1,Xv 2,Xv 3,xd⟩ w (hx.mono (by omega)) ox
  rwa [show ratB ⟨Xv 0,Xv 1,Xv 2,Xv 3,xd⟩=false from by
   unfold ratB
   simp only
   rcases hi with h | h | h <;> simp [h]] at this
 refine vm_start [.agg (celN Xv xd)] (fn:=Tryz.f75) (c:=gfC) kr kr nle ?_
 intro a hS
 refine wp_cut 0 kr ?_
 refine vf (X:=⟨w,[]⟩) [] gfN (cPre 0 gfC) (fun r=>[(0,(.agg (celN Xv xd),0))]) (fun r=>[]) 0 (fun _=>0) (hS) (⟨Chg.refl _ _,fun k x h=>(by cases h),fun k k' x x' h=>by cases h⟩) [.f,.f] [cV (V),cV (R)] (VEx.n) (fun r=>[(1,(.pointer (some ⟨r 0,0,none⟩),1)),(2,(.pointer (some ⟨r 1,0,none⟩),2)),(3,(.int .i64 (((8:Nat):Int)),0))]) [] (fun r=>[(0,(28,celN Xv xd)),(1,(25,cZ1))]) ?_
 intro rn a1 w1 hr hS1 hK1 hM1
 clear V R
 refine wp_for 0 kr kr (fun n a' w'=>∃ b,16000 - b=n∧8≤b∧b≤16000∧St gfN [(1,(.pointer (some ⟨rn 0,0,none⟩),1)),(2,(.pointer (some ⟨rn 1,0,none⟩),2)),(3,(.int .i64 (b:Int),0))] a'∧MemOk ⟨w,[]⟩ rn [(0,(28,celN Xv xd)),(1,(25,cZ1))] w') (16000 - 8) ⟨8,rfl,by omega,by omega,hS1,hM1⟩ ?_
 clear hM1 hS1
 rintro n a2 w2 ⟨b,rfl,hb8,hb,hS2,hM2⟩
 refine wp_cut 1 kr ?_
 have e1:cPre 1 (cI (cI (cAt 0 gfC))) = []:=by kernel_rfl
 rw [e1]
 refine wpL_nil (then_n ?_)
 refine wp_blk 1 kr ?_
 refine wp_cut 2 kr ?_
 have O2:=fun w=>ROf_any 2 w (by omega) (by omega)
 obtain ⟨m,hm⟩:∃ m,m=min b 50:=⟨_,rfl⟩
 have P:=fun w=>RPow_any 2 m w ((show Bd 1 2 by unfold Bd;decide).mono (by omega)) (by omega)
 have hmin:(Value.int .i64 (if (50:Int)<(b:Int) then (50:Int) else (b:Int))) = .int .i64 (m:Int):=congrArg (Value.int .i64) (by split <;> omega)
 rw [show (2:Int) ^ m=((2 ^ m:Nat):Int) from by simp] at P
 obtain ⟨u,hu⟩:∃ u,u=2 ^ m:=⟨_,rfl⟩
 rw [← hu] at P
 refine vf (X:=⟨w,[]⟩) [(7,2)] gfN (cPre 2 gf1) (fun r=>[(1,(.pointer (some ⟨r 0,0,none⟩),1)),(2,(.pointer (some ⟨r 1,0,none⟩),2)),(3,(.int .i64 ((b:Int)),0))]) (fun r=>[(0,(28,celN Xv xd)),(1,(25,cZ1))]) 100 (rn) (hS2) (hM2) [] [cV (O2),lP (.int .i64 (if (50:Int)<(b:Int) then (50:Int) else (b:Int))) (.int .i64 (m:Int)) hmin,cV (P)] (VEx.n) (fun r=>[(1,(.pointer (some ⟨r 0,0,none⟩),1)),(2,(.pointer (some ⟨r 1,0,none⟩),2)),(3,(.int .i64 ((b:Int)),0)),(4,(.pointer (some ⟨r 107,0,none⟩),108)),(6,(.int .i64 (((50:Nat):Int)),0))]) [] (fun r=>[(0,(28,celN Xv xd)),(1,(25,cZ1)),(107,(25,cI1 (u:Int)))]) ?_
 intro rm a3 w3 hrm hS3 hK3 hM3
 rw [hu] at hM3
 refine wp_for 2 kr kr (fun n a' w'=>∃ k v,b - k=n∧50≤k∧k≤40000∧(k<b→v=k)∧(b≤k→b≤v)∧v≤2 * b∧St gfN [(1,(.pointer (some ⟨rm 0,0,none⟩),1)),(2,(.pointer (some ⟨rm 1,0,none⟩),2)),(3,(.int .i64 (b:Int),0)),(4,(.pointer (some ⟨rm 107,0,none⟩),108)),(6,(.int .i64 (k:Int),0))] a' ∧
  MemOk ⟨w,[]⟩ rm [(0,(28,celN Xv xd)),(1,(25,cZ1)),(107,(25,cI1 ((2 ^ v:Nat):Int)))] w') (b - 50) ⟨50,m,rfl,by omega,by omega,by omega,by omega,by omega,hS3,hM3⟩ ?_
 clear hS3 hM3 P hmin hu u O2 hM2 hS2
 rintro n a4 w4 ⟨k,v,rfl,hk50,hk,hkv,hbv,hv2,hS4,hM4⟩
 refine wpL_one ?_
 rcases Nat.lt_or_ge k b with hkb | hkb
 ·have hlt:decide ((k:Int)<(b:Int))=true:=decide_eq_true (by omega)
  obtain rfl:=hkv hkb
  have M:∀ w,Calls Tryz.prog 52 #[vI ((2 ^ v:Nat):Int),vI ((2 ^ v:Nat):Int)] w (RetI ((2 ^ (v+v):Nat):Int) w):=fun w=>by
   have h1:Bd 100000 (((2 ^ v:Nat):Int)):=Bd.pow2 (by omega)
   have:=RMul_any ((2 ^ v:Nat):Int) ((2 ^ v:Nat):Int) w (h1.mono (by omega)) (h1.mono (by omega))
   rwa [show ((2 ^ v:Nat):Int) * ((2 ^ v:Nat):Int)=((2 ^ (v+v):Nat):Int) from by rw [Nat.pow_add,Int.natCast_mul]] at this
  have wk:IntKind.i64.wrap ((v:Int)+(v:Int))=((v+v:Nat):Int):=by rw [wr64 (by omega) (by omega)];omega
  generalize hp:((2 ^ v:Nat):Int)=p at *
  generalize hq:((2 ^ (v+v):Nat):Int)=q at *
  refine vk (X:=⟨w,[]⟩) [(10,2)] gfN [cI (cI gf2)] (fun r=>[(1,(.pointer (some ⟨r 0,0,none⟩),1)),(2,(.pointer (some ⟨r 1,0,none⟩),2)),(3,(.int .i64 ((b:Int)),0)),(4,(.pointer (some ⟨r 107,0,none⟩),108)),(6,(.int .i64 ((v:Int)),0))]) (fun r=>[(0,(28,celN Xv xd)),(1,(25,cZ1)),(107,(25,cI1 p))]) 200 (rm) (hS4) (hM4) [(.p _ true hlt)] [cV (M),lE .i64 ((((v:Int)):Int)+(((v:Int)):Int)) (((v+v:Nat):Int)) (wk)] (VEx.n) (fun r=>[(1,(.pointer (some ⟨r 0,0,none⟩),1)),(2,(.pointer (some ⟨r 1,0,none⟩),2)),(3,(.int .i64 ((b:Int)),0)),(4,(.pointer (some ⟨r 107,0,none⟩),108)),(6,(.int .i64 (((v+v:Nat):Int)),0))]) [] (fun r=>[(0,(28,celN Xv xd)),(1,(25,cZ1)),(107,(25,cI1 q))]) ?_
  intro a5 w5 hS5 hK5 hM5
  rw [← hq] at hM5
  exact ⟨b - (v+v),by omega,v+v,v+v,rfl,by omega,by omega,fun _=>rfl,fun h=>h,by omega,hS5,hM5⟩
 have hlt:decide ((k:Int)<(b:Int))=false:=decide_eq_false (by omega)
 have hbv:=hbv hkb
 clear hkv
 refine vk (X:=⟨w,[]⟩) [] gfN [cI (cI gf2)] (fun r=>[(1,(.pointer (some ⟨r 0,0,none⟩),1)),(2,(.pointer (some ⟨r 1,0,none⟩),2)),(3,(.int .i64 ((b:Int)),0)),(4,(.pointer (some ⟨r 107,0,none⟩),108)),(6,(.int .i64 ((k:Int)),0))]) (fun r=>[(0,(28,celN Xv xd)),(1,(25,cZ1)),(107,(25,cI1 ((2 ^ v:Nat):Int)))]) 200 (rm) (hS4) (hM4) [(.p _ false hlt)] [] (VEx.x 2) (fun r=>[(1,(.pointer (some ⟨r 0,0,none⟩),1)),(2,(.pointer (some ⟨r 1,0,none⟩),2)),(3,(.int .i64 ((b:Int)),0)),(4,(.pointer (some ⟨r 107,0,none⟩),108)),(6,(.int .i64 ((k:Int)),0))]) [] (fun r=>[(0,(28,celN Xv xd)),(1,(25,cZ1)),(107,(25,cI1 ((2 ^ v:Nat):Int)))]) ?_
 intro a5 w5 hS5 hK5 hM5
 clear hS4 hM4 hlt
 have e2:cPost 2 gf1 = [gf24]:=by kernel_rfl
 refine exit_n (then_n ?_)
 show wpL _ (cPost 2 gf1) _ _ _
 rw [e2]
 refine wpL_one ?_
 refine wp_cut 4 kr ?_
 have bu:Bd 4001 (((2 ^ v:Nat):Int)):=Bd.pow2 (by omega)
 obtain ⟨u,hu⟩:∃ u,u=2 ^ v:=⟨_,rfl⟩
 rw [← hu] at hM5 bu
 have M1:=fun w=>RMul_any (u:Int) (u:Int) w (bu.mono (by omega)) (bu.mono (by omega))
 have M2:=fun w=>RMul_any (Xv 0) (u:Int) w (hx.h0.mono (by omega)) (bu.mono (by omega))
 refine vf (X:=⟨w,[]⟩) [] gfN (cPre 4 gf24) (fun r=>[(1,(.pointer (some ⟨r 0,0,none⟩),1)),(2,(.pointer (some ⟨r 1,0,none⟩),2)),(3,(.int .i64 ((b:Int)),0)),(4,(.pointer (some ⟨r 107,0,none⟩),108)),(6,(.int .i64 ((k:Int)),0))]) (fun r=>[(0,(28,celN Xv xd)),(1,(25,cZ1)),(107,(25,cI1 (u:Int)))]) 200 (rm) (hS5) (hM5) [] [cV (M1),cV (M2)] (VEx.n) (fun r=>[(1,(.pointer (some ⟨r 0,0,none⟩),1)),(2,(.pointer (some ⟨r 1,0,none⟩),2)),(3,(.int .i64 ((b:Int)),0)),(4,(.pointer (some ⟨r 107,0,none⟩),108)),(7,(.pointer (some ⟨r 203,0,none⟩),204)),(8,(.pointer (some ⟨r 210,0,none⟩),211)),(9,(.pointer (some ⟨r 213,0,none⟩),214)),(10,(.int .i64 (((0+1:Nat):Int)),0))]) [] (fun r=>[(0,(28,celN Xv xd)),(1,(25,cZ1)),(107,(25,cI1 (u:Int))),(203,(25,cI1 ((u:Int) * (u:Int)))),(210,(25,cI1 (Xv 0 * (u:Int)))),(213,(25,cI1 (Xv 0 * (u:Int))))]) ?_
 intro rq a6 w6 hrq hS6 hK6 hM6
 obtain ⟨R,hR⟩:∃ R:Nat→Int,R=fun i=>((isq (mm i * (u * u)):Nat):Int):=⟨_,rfl⟩
 have hRe:∀ i,R i=((isq (mm i * (u * u)):Nat):Int):=fun i=>by rw [hR]
 have hmm:∀ i,mm i≤6:=fun i=>by unfold mm;split <;> omega
 have bR:∀ i,Bd 4002 (R i):=fun i=>by
  have h1:=isq_bound (mm i) u (by have:=hmm i;omega)
  exact (bu.sml (c:=3) (by decide)).of_le (by rw [hRe];omega) (by rw [hRe];omega)
 have bX:∀ j,Bd 100 (Xv (j+1))→Bd 4103 (Xv (j+1) * R (j+1))∧Bd 4103 (Xv (j+1) * (R (j+1)+1)):=fun j h=>⟨(h.mul (bR (j+1))).mono (by omega),(h.mul ((bR (j+1)).add (Bd.one (by omega)))).mono (by omega)⟩
 have bXv:∀ j,j<3→Bd 100 (Xv (j+1)):=fun j hj=>by
  rcases (show j=0∨j=1∨j=2 by omega) with rfl | rfl | rfl
  ·exact hx.h1
  ·exact hx.h2
  ·exact hx.h3
 have bL:∀ j,j≤3→Bd (4200+j) (pL Xv R u j)∧Bd (4200+j) (pH Xv R u j):=by
  intro j
  induction j with
  | zero=>intro _;exact ⟨(hx.h0.mul bu).mono (by omega),(hx.h0.mul bu).mono (by omega)⟩
  | succ j ih =>
   intro hj
   obtain ⟨i1,i2⟩:=ih (by omega)
   obtain ⟨x1,x2⟩:=bX j (bXv j (by omega))
   refine ⟨i1.add ?_,i2.add ?_⟩
   ·unfold aL;split
    ·exact x2.mono (by omega)
    ·exact x1.mono (by omega)
   ·unfold aH;split
    ·exact x1.mono (by omega)
    ·exact x2.mono (by omega)
 have hAp:Ap (u:Int) (R 1) (R 2) (R 3):=by
  have hq:∀ i,R i * R i≤(mm i:Int) * ((u:Int) * (u:Int))∧(mm i:Int) * ((u:Int) * (u:Int))<(R i+1) * (R i+1):=fun i=>by
   have h1:=isq_le (mm i * (u * u))
   have h2:=isq_lt (mm i * (u * u))
   rw [hRe]
   exact ⟨by exact_mod_cast h1,by exact_mod_cast h2⟩
  have hp:0<u:=by rw [hu];exact Nat.pow_pos (by decide)
  exact ⟨by omega,by rw [hRe];omega,by rw [hRe];omega,by rw [hRe];omega,(hq 1).1,(hq 1).2,(hq 2).1,(hq 2).2,(hq 3).1,(hq 3).2⟩
 refine wp_for 4 kr kr (fun n a' w'=>∃ j,3 - j=n∧j≤3∧St gfN [(1,(.pointer (some ⟨rq 0,0,none⟩),1)),(2,(.pointer (some ⟨rq 1,0,none⟩),2)),(3,(.int .i64 (b:Int),0)),(4,(.pointer (some ⟨rq 107,0,none⟩),108)),(7,(.pointer (some ⟨rq 203,0,none⟩),204)),(8,(.pointer (some ⟨rq 210,0,none⟩),211)),(9,(.pointer (some ⟨rq 213,0,none⟩),214)),(10,(.int .i64 ((j+1:Nat):Int),0))] a' ∧
  MemOk ⟨w,[]⟩ rq (gfMem Xv xd u (pL Xv R u j) (pH Xv R u j)) w') 3 ⟨0,rfl,by omega,hS6,hM6⟩ ?_
 clear hS6 hM6 M1 M2 hS5 hM5
 rintro n a7 w7 ⟨j,rfl,hj,hS7,hM7⟩
 refine wpL_one ?_
 rcases Nat.lt_or_ge j 3 with hj3 | hj3
 ·obtain ⟨l1,l2⟩:=bL j hj
  obtain ⟨x1,x2⟩:=bX j (bXv j hj3)
  have em:(u:Int) * (u:Int) * ((mm (j+1):Nat):Int)=((mm (j+1) * (u * u):Nat):Int):=by push_cast;rw [Int.mul_comm]
  have b2:Bd 8003 ((u:Int) * (u:Int)):=(bu.mul bu).mono (by omega)
  have b3:Bd 1 ((mm (j+1):Nat):Int):=by have:=hmm (j+1);unfold Bd;omega
  have T:=fun w=>RSqrt_any (mm (j+1) * (u * u)) (isq (mm (j+1) * (u * u))) w (by rw [← em];exact (b2.mul b3).mono (by omega)) (isq_le _) (isq_lt _)
  rw [← em,← hRe] at T
  refine gf_round (Xv:=Xv) (xd:=xd) (u:=u) (lo:=pL Xv R u j) (hi:=pH Xv R u j) (s:=R (j+1)+1) (m:=(u:Int) * (u:Int) * ((mm (j+1):Nat):Int)) (r1:=R (j+1)) (a1:=Xv (j+1) * R (j+1)) (a2:=Xv (j+1) * (R (j+1)+1)) (lo2:=pL Xv R u (j+1)) (hi2:=pH Xv R u (j+1)) hj3
   (fun w=>ROf_any _ w (by omega) (by have:=hmm (j+1);omega)) (fun w=>ROf_any 1 w (by omega) (by omega)) (fun w=>RMul_any _ _ w (b2.mono (by omega)) (b3.mono (by omega))) T
   (fun w=>RMul_any _ _ w ((bXv j hj3).mono (by omega)) ((bR _).mono (by omega))) (fun w=>RAdd_any _ _ w ((bR _).mono (by omega)) (Bd.one (by omega))) (fun w=>RMul_any _ _ w ((bXv j hj3).mono (by omega)) (((bR _).add (Bd.one (by omega))).mono (by omega))) (fun w=>RSign_any _ w)
   (fun w=>RAdd_any _ _ w (l1.mono (by omega)) (by split;exact x2.mono (by omega);exact x1.mono (by omega))) (fun w=>RAdd_any _ _ w (l2.mono (by omega)) (by split;exact x1.mono (by omega);exact x2.mono (by omega))) hM7 (hS7.sub ?_) ?_
  ·intro p hp
   simp only [List.mem_cons,List.not_mem_nil,or_false] at hp ⊢
   rcases hp with rfl | rfl | rfl | rfl | rfl | rfl <;> simp
  intro a8 w8 hS8 hK8 hM8
  refine ⟨3 - (j+1),by omega,j+1,rfl,by omega,?_,hM8⟩
  have hS9:=St.keep (l:=[(1,(.pointer (some ⟨rq 0,0,none⟩),1)),(2,(.pointer (some ⟨rq 1,0,none⟩),2)),(3,(.int .i64 (b:Int),0)),(4,(.pointer (some ⟨rq 107,0,none⟩),108)),(7,(.pointer (some ⟨rq 203,0,none⟩),204)),(8,(.pointer (some ⟨rq 210,0,none⟩),211)),(9,(.pointer (some ⟨rq 213,0,none⟩),214))]) (hS7.sub (by
   intro p hp
   simp only [List.mem_cons,List.not_mem_nil,or_false] at hp ⊢
   rcases hp with rfl | rfl | rfl | rfl | rfl | rfl | rfl <;> simp)) hS8 hK8 kr
  refine hS9.sub ?_
  intro p hp
  simp only [List.mem_cons,List.not_mem_nil,or_false,List.mem_append] at hp ⊢
  rcases hp with rfl | rfl | rfl | rfl | rfl | rfl | rfl | rfl <;> simp
 obtain rfl:j=3:=by omega
 refine vk (X:=⟨w,[]⟩) [] gfN [cI (cI gf4)] (fun r=>[(1,(.pointer (some ⟨r 0,0,none⟩),1)),(2,(.pointer (some ⟨r 1,0,none⟩),2)),(3,(.int .i64 ((b:Int)),0)),(4,(.pointer (some ⟨r 107,0,none⟩),108)),(7,(.pointer (some ⟨r 203,0,none⟩),204)),(8,(.pointer (some ⟨r 210,0,none⟩),211)),(9,(.pointer (some ⟨r 213,0,none⟩),214)),(10,(.int .i64 (((3+1:Nat):Int)),0))]) (fun r=>[(0,(28,celN Xv xd)),(1,(25,cZ1)),(107,(25,cI1 u)),(203,(25,cI1 (u * u))),(210,(25,cI1 (pL Xv R u 3))),(213,(25,cI1 (pH Xv R u 3)))]) 300 (rq) (hS7) (hM7) [.f] [] (VEx.x 4) (fun r=>[(1,(.pointer (some ⟨r 0,0,none⟩),1)),(2,(.pointer (some ⟨r 1,0,none⟩),2)),(3,(.int .i64 ((b:Int)),0)),(4,(.pointer (some ⟨r 107,0,none⟩),108)),(8,(.pointer (some ⟨r 210,0,none⟩),211)),(9,(.pointer (some ⟨r 213,0,none⟩),214))]) [] (fun r=>[(0,(28,celN Xv xd)),(1,(25,cZ1)),(107,(25,cI1 u)),(203,(25,cI1 (u * u))),(210,(25,cI1 (pL Xv R u 3))),(213,(25,cI1 (pH Xv R u 3)))]) ?_
 intro a8 w8 hS8 hK8 hM8
 refine exit_n (then_n ?_)
 clear hS7 hM7
 obtain ⟨l1,l2⟩:=bL 3 (by omega)
 have hdp:0<xd * (u:Int):=Int.mul_pos ox.pos hAp.u0
 have D:=fun w=>RMul_any xd (u:Int) w (hx.h4.mono (by omega)) (bu.mono (by omega))
 have bd:Bd 4101 (xd * (u:Int)):=(hx.h4.mul bu).mono (by omega)
 have F1:=fun w=>gover_any (pL Xv R u 3) (xd * (u:Int)) w (l1.mono (by omega)) (bd.mono (by omega)) (by omega)
 have F2:=fun w=>gover_any (pH Xv R u 3) (xd * (u:Int)) w (l2.mono (by omega)) (bd.mono (by omega)) (by omega)
 by_cases he:(pL Xv R u 3).fdiv (xd * (u:Int))=(pH Xv R u 3).fdiv (xd * (u:Int))
 ·have hfl:Fl ⟨Xv 0,Xv 1,Xv 2,Xv 3,xd⟩ ((pL Xv R u 3).fdiv (xd * (u:Int))):=gAgree (x:=⟨Xv 0,Xv 1,Xv 2,Xv 3,xd⟩) ox hAp he
  have ef:=hfl.uniq ox hf
  rw [ef] at F1 he
  rw [← he] at F2
  generalize pL Xv R u 3=lo at *
  generalize pH Xv R u 3=hi at *
  generalize xd * (u:Int)=d at *
  refine vk (X:=⟨w,[]⟩) [(25,4)] gfN (cPost 4 gf24) (fun r=>[(1,(.pointer (some ⟨r 0,0,none⟩),1)),(2,(.pointer (some ⟨r 1,0,none⟩),2)),(3,(.int .i64 ((b:Int)),0)),(4,(.pointer (some ⟨r 107,0,none⟩),108)),(8,(.pointer (some ⟨r 210,0,none⟩),211)),(9,(.pointer (some ⟨r 213,0,none⟩),214))]) (fun r=>[(0,(28,celN Xv xd)),(1,(25,cZ1)),(107,(25,cI1 u)),(203,(25,cI1 (u * u))),(210,(25,cI1 lo)),(213,(25,cI1 hi))]) 300 (rq) (hS8) (hM8) [.t] [cV (D),cV (F1),cV (F2),lV _ (.bool true) (fun w hC=>eqI_same (f) (.tmp 105) (.tmp 108) w)] (VEx.r) (fun r=>[(2,(.pointer (some ⟨r 1,0,none⟩),2))]) [] (fun r=>[(1,(25,cI1 f))]) ?_
  intro a9 w9 hS9 hK9 hM9
  exact vm_ret (fn:=Tryz.f75) hS9 hM9 (vI f) (fun g=>by kernel_rfl) ⟨rfl,hM9.below.below (Nat.le_refl _) (fun x h=>by cases h)⟩
 ·have hbB:b<8000:=by
   rcases Nat.lt_or_ge b 8000 with h | h
   ·exact h
   ·exfalso
    rw [hu] at hAp he
    exact he (gStop (k:=100) (x:=⟨Xv 0,Xv 1,Xv 2,Xv 3,xd⟩) ox hx (by omega) hAp hi (by omega))
  generalize (pL Xv R u 3).fdiv (xd * (u:Int))=n1 at *
  generalize (pH Xv R u 3).fdiv (xd * (u:Int))=n2 at *
  generalize pL Xv R u 3=lo at *
  generalize pH Xv R u 3=hi' at *
  generalize xd * (u:Int)=d at *
  refine vk (X:=⟨w,[]⟩) [(25,4)] gfN (cPost 4 gf24) (fun r=>[(1,(.pointer (some ⟨r 0,0,none⟩),1)),(2,(.pointer (some ⟨r 1,0,none⟩),2)),(3,(.int .i64 ((b:Int)),0)),(4,(.pointer (some ⟨r 107,0,none⟩),108)),(8,(.pointer (some ⟨r 210,0,none⟩),211)),(9,(.pointer (some ⟨r 213,0,none⟩),214))]) (fun r=>[(0,(28,celN Xv xd)),(1,(25,cZ1)),(107,(25,cI1 u)),(203,(25,cI1 (u * u))),(210,(25,cI1 lo)),(213,(25,cI1 hi'))]) 300 (rq) (hS8) (hM8) [.f] [cV (D),cV (F1),cV (F2),lV _ (.bool false) (fun w hC=>eqI_diff (n1) (n2) (he) (.tmp 105) (.tmp 108) w)] (VEx.n) (fun r=>[(1,(.pointer (some ⟨r 0,0,none⟩),1)),(2,(.pointer (some ⟨r 1,0,none⟩),2)),(3,(.int .i64 ((b:Int)),0))]) [] (fun r=>[(0,(28,celN Xv xd)),(1,(25,cZ1))]) ?_
  intro a9 w9 hS9 hK9 hM9
  have hM10:=(hM9.agree (keysLt_all (n:=200) kr) hrq).agree (keysLt_all (n:=100) kr) hrm
  rw [hrq 0 (by omega),hrq 1 (by omega),hrm 0 (by omega),hrm 1 (by omega)] at hS9
  have wb:IntKind.i64.wrap ((b:Int) * 2)=((b * 2:Nat):Int):=by rw [wr64 (by omega) (by omega)];omega
  show wpL _ (cPost 1 (cI (cI (cAt 0 gfC)))) _ a9 w9
  refine vk (X:=⟨w,[]⟩) [(6,1)] gfN (cPost 1 (cI (cI (cAt 0 gfC)))) (fun r=>[(1,(.pointer (some ⟨r 0,0,none⟩),1)),(2,(.pointer (some ⟨r 1,0,none⟩),2)),(3,(.int .i64 ((b:Int)),0))]) (fun r=>[(0,(28,celN Xv xd)),(1,(25,cZ1))]) 100 (rn) (hS9) (hM10) [] [lE .i64 ((((b:Int)):Int) * ((2):Int)) (((b * 2:Nat):Int)) (wb)] (VEx.n) (fun r=>[(1,(.pointer (some ⟨r 0,0,none⟩),1)),(2,(.pointer (some ⟨r 1,0,none⟩),2)),(3,(.int .i64 (((b * 2:Nat):Int)),0))]) [] (fun r=>[(0,(28,celN Xv xd)),(1,(25,cZ1))]) ?_
  intro a10 w10 hS10 hK10 hM11
  exact ⟨16000 - b * 2,by omega,b * 2,rfl,by omega,by omega,hS10,hM11⟩
theorem gFloor_fl (x:Nm) (f:Int) (w:World) (hx:BN 100 x) (ox:Ok x) (hf:Fl x f):Calls Tryz.prog 75 #[vN x] w (RetI f w):=by
 by_cases h:x.c1≠0∨x.c2≠0∨x.c3≠0
 ·exact gFloor_core (qd x.c0 x.c1 x.c2 x.c3) x.d f w hx ox hf h
 ·have h1:x.c1=0:=Classical.byContradiction fun e=>h (.inl e)
  have h2:x.c2=0:=Classical.byContradiction fun e=>h (.inr (.inl e))
  have h3:x.c3=0:=Classical.byContradiction fun e=>h (.inr (.inr e))
  have V:=fun w=>gValid_yes x w (hx.mono (by omega)) ox
  have R:=fun w=>gRational_any x w (hx.mono (by omega)) ox
  rw [show ratB x=true from by unfold ratB;simp [h1,h2,h3]] at R
  have G:=fun w=>gover_any x.c0 x.d w (hx.h0.mono (by omega)) (hx.h4.mono (by omega)) ox.ne
  rw [(gRatFl ox h1 h2 h3).uniq ox hf] at G
  show Calls Tryz.prog 75 #[vN x] w (RetV (vI f) w)
  exact vm_pure kr Tryz.func75 rfl [.agg #[.bool (sg x.c0),.string (mg x.c0),.bool (sg x.c1),.string (mg x.c1),.bool (sg x.c2),.string (mg x.c2),.bool (sg x.c3),.string (mg x.c3),.bool (sg x.d),.string (mg x.d)]] nle [] [.f,.t] [cV (V),cV (R),cV (G)]
end Go.Proofs.YtlhddcingeneaaaGreatDoor
