/- Enclosures: the reference's, and both out of range. -/
import Derived.Test.YtegnalgjjmpcmaaGreatDoorPFFieZ
import Derived.Test.YtegnalgjjmpcmaaGreatDoorPFL
namespace Go.Proofs.YtegnalgjjmpcmaaGreatDoor
open Go Go.RowKit
set_option maxRecDepth 100000
set_option linter.unusedVariables false
set_option linter.unusedSimpArgs false
def scN (x:Nm) (p:Int):Nm:=⟨x.c0 * p,x.c1 * p,x.c2 * p,x.c3 * p,x.d⟩
theorem zoN (x:Nm) (p:Int):low (scN x p)=mulN x (intN p):=by
 unfold mulN
 rw [show mulR x (intN p)=scN x p from by unfold mulR intN scN;simp]
theorem zgF {x y:Nm} (hx:Ok x) (hy:Ok y):cmpK (negN x) (negN y)=cmpK y x:=by
 unfold cmpK
 congr 1
 exact zdR (zbo (zcm hx) (zcm hy)) (zbo hy hx) (by rw [zcr (zcm hx) (zcm hy),zcr hy hx,zfv,zfv,K.neg_neg,K.add_comm])
theorem zfz (n:Int):zint (-n)=negN (zint n):=by unfold zint negN;simp
theorem zom {y:Nm} {lo:Int} (oy:Ok y) (h:Fl y lo):Fl (negN y) (-hiN y lo):=by
 unfold hiN
 by_cases e:intN lo=y
 ·rw [if_pos e]
  have e2:negN y=zint (-lo):=by rw [zfz,← e];rfl
  rw [e2]
  refine ⟨zky (Int.le_refl _),?_⟩
  rw [zh5]
  exact Int.sign_pos_iff.2 (by omega)
 ·rw [if_neg e]
  refine ⟨?_,?_⟩
  ·rw [zfz,zgF (zbH _) oy]
   have h1:=zb5 (zbH (lo+1)) oy
   have h2:=h.hi
   omega
  ·rw [show -(lo+1)+1 = -lo by omega,zfz,zgF (zbH _) oy]
   have h1:=zb5 (zbH lo) oy
   have h2:=h.lo
   have h3:cmpK (zint lo) y≠0:=fun h3=>e ((zdq (zbH lo) oy).1 h3)
   omega
noncomputable def geN:Nat:=Tryz.f78.ntmps
noncomputable def geC:Code:=Tryz.f78.body.getD .skip
noncomputable def ge1:Code:=cB 1 geC
theorem zlO {X:Cx} {r:Nat→Nat} {y:Nm} {z0 z1 z2 z3:Int} {j k:Nat} {a:Act} {w:World} {Q:Exit→Act→World→Prop} (hj:j<k) (hk:k≤60)
  (A0:∀ w,Calls Tryz.prog 98 #[vI y.c0,vI y.c0] w (RetI z0 w)) (A1:∀ w,Calls Tryz.prog 98 #[vI y.c1,vI y.c1] w (RetI z1 w)) (A2:∀ w,Calls Tryz.prog 98 #[vI y.c2,vI y.c2] w (RetI z2 w)) (A3:∀ w,Calls Tryz.prog 98 #[vI y.c3,vI y.c3] w (RetI z3 w))
  (hM:MemOk X r [(0,(26,xcN y)),(1,(23,cZ1)),(2,(23,cZ1))] w)
  (hS:St geN [(1,(.int .i64 (k:Int),0)),(2,(.pointer (some ⟨r 0,0,none⟩),1)),(4,(.pointer (some ⟨r 1,0,none⟩),2)),(5,(.pointer (some ⟨r 2,0,none⟩),3)),(7,(.int .i64 (j:Int),0))] a)
  (hQ:∀ a' w',St geN [(1,(.int .i64 (k:Int),0)),(2,(.pointer (some ⟨r 0,0,none⟩),1)),(4,(.pointer (some ⟨r 1,0,none⟩),2)),(5,(.pointer (some ⟨r 2,0,none⟩),3)),(7,(.int .i64 ((j+1:Nat):Int),0))] a'→MemOk X r [(0,(26,xcN ⟨z0,z1,z2,z3,y.d⟩)),(1,(23,cZ1)),(2,(23,cZ1))] w'→Q .normal a' w') :
  wpL Tryz.prog [cI (cI ge1)] Q a w:=by
 have hlt:decide ((j:Int)<(k:Int))=true:=decide_eq_true (by omega)
 have wj:IntKind.i64.wrap ((j:Int)+1)=((j+1:Nat):Int):=by rw [wr64 (by omega) (by omega)];omega
 refine vk (X:=X) [(7,1)] geN [cI (cI ge1)] (fun r=>[(1,(.int .i64 ((k:Int)),0)),(2,(.pointer (some ⟨r 0,0,none⟩),1)),(4,(.pointer (some ⟨r 1,0,none⟩),2)),(5,(.pointer (some ⟨r 2,0,none⟩),3)),(7,(.int .i64 ((j:Int)),0))]) (fun r=>[(0,(26,xcN y)),(1,(23,cZ1)),(2,(23,cZ1))]) 100 (r) (hS) (hM) [(.p _ true hlt),.t,.t,.t,.t,.f] [cV (A0),cV (A1),cV (A2),cV (A3),lE .i64 ((((j:Int)):Int)+((1):Int)) (((j+1:Nat):Int)) (wj)] (VEx.n) (fun r=>[(1,(.int .i64 ((k:Int)),0)),(2,(.pointer (some ⟨r 0,0,none⟩),1)),(4,(.pointer (some ⟨r 1,0,none⟩),2)),(5,(.pointer (some ⟨r 2,0,none⟩),3)),(7,(.int .i64 (((j+1:Nat):Int)),0))]) [] (fun r=>[(0,(26,xcN ⟨z0,z1,z2,z3,y.d⟩)),(1,(23,cZ1)),(2,(23,cZ1))]) ?_
 intro a' w' hS' hK' hM'
 exact hQ a' w' hS' hM'
theorem BN.sc {a b:Nat} {x:Nm} {p:Int} (hx:BN a x) (hp:Bd b p):BN (a+b) (scN x p):=⟨hx.h0.mul hp,hx.h1.mul hp,hx.h2.mul hp,hx.h3.mul hp,hx.h4.mono (by omega)⟩
theorem zgw (x:Nm) (k:Nat) (lo:Int) (w:World) (hk:k≤60) (hx:BN 20 x) (ox:Ok x) (hl:Fl (mulN x (intN ((2 ^ k:Nat):Int))) lo):Calls Tryz.prog 78 #[vN x,.int .i64 (k:Int)] w (RetV (.tuple #[vI lo,vI (hiN (mulN x (intN ((2 ^ k:Nat):Int))) lo),.int .i64 0]) w):=by
 have V:=fun w=>zbu x w (hx.mono (by omega)) ox
 have g0:decide ((k:Int)<0)=false:=decide_eq_false (by omega)
 have g1:decide ((1000:Int)<(k:Int))=false:=decide_eq_false (by omega)
 refine zcZ [vN x,.int .i64 (k:Int)] (fn:=Tryz.f78) (c:=geC) kr kr nle ?_
 intro a hS
 refine zbj 1 kr ?_
 refine vf (X:=⟨w,[]⟩) [] geN (cPre 1 geC) (fun r=>[(0,(vN x,0)),(1,(.int .i64 ((k:Int)),0))]) (fun r=>[]) 0 (fun _=>0) (hS) (⟨Chg.refl _ _,fun k x h=>(by cases h),fun k k' x x' h=>by cases h⟩) [.f,(.p _ false g0),(.p _ false g0),(.p _ false g0),(.p _ false g1)] [cV (V)] (VEx.n) (fun r=>[(1,(.int .i64 ((k:Int)),0)),(2,(.pointer (some ⟨r 0,0,none⟩),1)),(4,(.pointer (some ⟨r 1,0,none⟩),2)),(5,(.pointer (some ⟨r 2,0,none⟩),3)),(7,(.int .i64 (((0:Nat):Int)),0))]) [] (fun r=>[(0,(26,xcN x)),(1,(23,cZ1)),(2,(23,cZ1))]) ?_
 intro rn a1 w1 hr hS1 hK1 hM1
 have e1:xcN x=xcN (scN x ((2 ^ 0:Nat):Int)):=by
  rw [show scN x ((2 ^ 0:Nat):Int)=x from by unfold scN;simp]
 rw [e1] at hM1
 refine zbJ 1 kr kr (fun n a' w'=>∃ j,k - j=n∧j≤k∧St geN [(1,(.int .i64 (k:Int),0)),(2,(.pointer (some ⟨rn 0,0,none⟩),1)),(4,(.pointer (some ⟨rn 1,0,none⟩),2)),(5,(.pointer (some ⟨rn 2,0,none⟩),3)),(7,(.int .i64 (j:Int),0))] a' ∧
  MemOk ⟨w,[]⟩ rn [(0,(26,xcN (scN x ((2 ^ j:Nat):Int)))),(1,(23,cZ1)),(2,(23,cZ1))] w') (k - 0) ⟨0,rfl,by omega,hS1,hM1⟩ ?_
 clear hS1 hM1
 rintro n a2 w2 ⟨j,rfl,hj,hS2,hM2⟩
 refine zaR ?_
 have bp:∀ i,i≤60→Bd 20 ((2 ^ i:Nat):Int):=fun i hi=>(zhw i hi).mono (by omega)
 rcases Nat.lt_or_ge j k with hjk | hjk
 ·have by1:=hx.sc (bp j (by omega))
  have dbl:∀ c:Int,c * ((2 ^ j:Nat):Int)+c * ((2 ^ j:Nat):Int)=c * ((2 ^ (j+1):Nat):Int):=fun c=>by
   rw [← Int.mul_add,Nat.pow_succ,Int.natCast_mul]
   congr 1
   omega
  have A0:=fun w=>zb2 _ _ w (by1.h0.mono (by omega)) (by1.h0.mono (by omega))
  have A1:=fun w=>zb2 _ _ w (by1.h1.mono (by omega)) (by1.h1.mono (by omega))
  have A2:=fun w=>zb2 _ _ w (by1.h2.mono (by omega)) (by1.h2.mono (by omega))
  have A3:=fun w=>zb2 _ _ w (by1.h3.mono (by omega)) (by1.h3.mono (by omega))
  refine zlO (y:=scN x ((2 ^ j:Nat):Int)) hjk hk A0 A1 A2 A3 hM2 hS2 ?_
  intro a3 w3 hS3 hM3
  refine ⟨k - (j+1),by omega,j+1,rfl,by omega,hS3,?_⟩
  have e2:(⟨(scN x ((2 ^ j:Nat):Int)).c0+(scN x ((2 ^ j:Nat):Int)).c0,(scN x ((2 ^ j:Nat):Int)).c1+(scN x ((2 ^ j:Nat):Int)).c1,(scN x ((2 ^ j:Nat):Int)).c2+(scN x ((2 ^ j:Nat):Int)).c2,(scN x ((2 ^ j:Nat):Int)).c3+(scN x ((2 ^ j:Nat):Int)).c3,(scN x ((2 ^ j:Nat):Int)).d⟩:Nm)=scN x ((2 ^ (j+1):Nat):Int):=by
   unfold scN
   simp only [dbl]
  rwa [e2] at hM3
 ·obtain rfl:j=k:=by omega
  have hlt:decide ((j:Int)<(j:Int))=false:=decide_eq_false (by omega)
  have by1:=hx.sc (bp j hk)
  have RD:=fun w=>zgr (scN x ((2 ^ j:Nat):Int)) w (by1.mono (by omega)) ox.ne
  rw [zoN] at RD
  have oy:=zca ox (zbv ((2 ^ j:Nat):Int))
  have bY:=hx.mulN (BN.int (bp j hk) (by omega)) ox.ne (zbv ((2 ^ j:Nat):Int)).ne
  generalize mulN x (intN ((2 ^ j:Nat):Int))=Y at *
  have F1:=fun w=>zf3 Y lo w (bY.mono (by omega)) oy hl
  have NG:=fun w=>zll Y w (bY.mono (by omega)) oy
  have F2:=fun w=>zf3 (negN Y) _ w (bY.neg.mono (by omega)) (zcm oy) (zom oy hl)
  have RN:=fun w=>zck (-hiN Y lo) w
  rw [Int.neg_neg] at RN
  generalize hiN Y lo=hi at *
  generalize -hi=mh at *
  generalize negN Y=NY at *
  generalize scN x ((2 ^ j:Nat):Int)=y at *
  refine vk (X:=⟨w,[]⟩) [] geN [cI (cI ge1)] (fun r=>[(1,(.int .i64 ((j:Int)),0)),(2,(.pointer (some ⟨r 0,0,none⟩),1)),(4,(.pointer (some ⟨r 1,0,none⟩),2)),(5,(.pointer (some ⟨r 2,0,none⟩),3)),(7,(.int .i64 ((j:Int)),0))]) (fun r=>[(0,(26,xcN y)),(1,(23,cZ1)),(2,(23,cZ1))]) 100 (rn) (hS2) (hM2) [(.p _ false hlt)] [] (VEx.x 1) (fun r=>[(2,(.pointer (some ⟨r 0,0,none⟩),1)),(4,(.pointer (some ⟨r 1,0,none⟩),2)),(5,(.pointer (some ⟨r 2,0,none⟩),3))]) [] (fun r=>[(0,(26,xcN y)),(1,(23,cZ1)),(2,(23,cZ1))]) ?_
  intro a3 w3 hS3 hK3 hM3
  refine zdx (zbp ?_)
  show wpL _ (cPost 1 geC) _ a3 w3
  refine vk (X:=⟨w,[]⟩) [] geN (cPost 1 geC) (fun r=>[(2,(.pointer (some ⟨r 0,0,none⟩),1)),(4,(.pointer (some ⟨r 1,0,none⟩),2)),(5,(.pointer (some ⟨r 2,0,none⟩),3))]) (fun r=>[(0,(26,xcN y)),(1,(23,cZ1)),(2,(23,cZ1))]) 200 (rn) (hS3) (hM3) [] [cV (RD),cV (F1),cV (NG),cV (F2),cV (RN)] (VEx.r) (fun r=>[(4,(.pointer (some ⟨r 1,0,none⟩),2)),(5,(.pointer (some ⟨r 2,0,none⟩),3)),(6,(.int .i64 (0),0))]) [] (fun r=>[(1,(23,cI1 lo)),(2,(23,cI1 hi))]) ?_
  intro a4 w4 hS4 hK4 hM4
  exact zd3 (fn:=Tryz.f78) hS4 hM4 (.tuple #[vI lo,vI hi,.int .i64 0]) (fun g=>by kernel_rfl) ⟨rfl,hM4.below.below (Nat.le_refl _) (fun x h=>by cases h)⟩
theorem zeQ (r:Rw) (n:Int) (w:World) (hs:smallR 80000000 r) (h:okR r=false):Calls Tryz.prog 77 #[vR r,.int .i64 n] w (RetV (.tuple #[vI 0,vI 0,.int .i64 1]) w):=by
 have V:=fun w=>zj8 r w hs h
 rw [zaQ]
 exact zac kr Tryz.func77 rfl [vR r,.int .i64 n] nle [] [.t] [cV (V)]
theorem zeR (r:Rw) (n:Int) (w:World) (hs:smallR 80000000 r) (h:okR r=false):Calls Tryz.prog 78 #[vR r,.int .i64 n] w (RetV (.tuple #[vI 0,vI 0,.int .i64 1]) w):=by
 have V:=fun w=>zkM r w hs h
 rw [zaQ]
 exact zac kr Tryz.func78 rfl [vR r,.int .i64 n] nle [] [.t] [cV (V)]
theorem zfR (x:Nm) (n:Int) (w:World) (hx:BN 80000000 x) (ox:Ok x) (h:n<0):Calls Tryz.prog 77 #[vN x,.int .i64 n] w (RetV (.tuple #[vI 0,vI 0,.int .i64 2]) w):=by
 have V:=fun w=>zaC x w hx ox
 have g0:decide (n<0)=true:=decide_eq_true h
 rw [zaQ]
 exact zac kr Tryz.func77 rfl [vN x,.int .i64 n] nle [] [.f,(.p _ true g0),(.p _ true g0),(.p _ true g0),.t] [cV (V)]
theorem zfT (x:Nm) (n:Int) (w:World) (hx:BN 80000000 x) (ox:Ok x) (h:1000<n):Calls Tryz.prog 77 #[vN x,.int .i64 n] w (RetV (.tuple #[vI 0,vI 0,.int .i64 2]) w):=by
 have V:=fun w=>zaC x w hx ox
 have g0:decide (n<0)=false:=decide_eq_false (by omega)
 have g1:decide (1000<n)=true:=decide_eq_true h
 rw [zaQ]
 exact zac kr Tryz.func77 rfl [vN x,.int .i64 n] nle [] [.f,(.p _ false g0),(.p _ false g0),(.p _ false g0),(.p _ true g1)] [cV (V)]
theorem zfY (x:Nm) (n:Int) (w:World) (hx:BN 80000000 x) (ox:Ok x) (h:n<0):Calls Tryz.prog 78 #[vN x,.int .i64 n] w (RetV (.tuple #[vI 0,vI 0,.int .i64 2]) w):=by
 have V:=fun w=>zbu x w hx ox
 have g0:decide (n<0)=true:=decide_eq_true h
 rw [zaQ]
 exact zac kr Tryz.func78 rfl [vN x,.int .i64 n] nle [] [.f,(.p _ true g0),(.p _ true g0),(.p _ true g0),.t] [cV (V)]
theorem zgy (x:Nm) (n:Int) (w:World) (hx:BN 80000000 x) (ox:Ok x) (h:1000<n):Calls Tryz.prog 78 #[vN x,.int .i64 n] w (RetV (.tuple #[vI 0,vI 0,.int .i64 2]) w):=by
 have V:=fun w=>zbu x w hx ox
 have g0:decide (n<0)=false:=decide_eq_false (by omega)
 have g1:decide (1000<n)=true:=decide_eq_true h
 rw [zaQ]
 exact zac kr Tryz.func78 rfl [vN x,.int .i64 n] nle [] [.f,(.p _ false g0),(.p _ false g0),(.p _ false g0),(.p _ true g1)] [cV (V)]
end Go.Proofs.YtegnalgjjmpcmaaGreatDoor
