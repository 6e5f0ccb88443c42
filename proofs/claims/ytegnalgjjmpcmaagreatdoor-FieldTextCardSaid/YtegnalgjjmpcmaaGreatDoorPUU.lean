import Derived.Test.YtegnalgjjmpcmaaGreatDoorPUT
import Derived.Test.YtegnalgjjmpcmaaGreatDoorPUJ
import Derived.Test.YtegnalgjjmpcmaaGreatDoorPUI
/- Printing numbers: the program. -/
set_option linter.unusedVariables false
set_option linter.unusedSimpArgs false
set_option maxRecDepth 100000
set_option maxHeartbeats 8000000
namespace Go.Proofs.YtegnalgjjmpcmaaGreatDoor
open Go Go.RowKit
theorem zaN (a b:List UInt8) (ha:a.length≤5000000) (hb:b.length≤5000000) (w:World):(Op.stringOp .add ⟨a.toArray⟩ ⟨b.toArray⟩).run Tryz.prog w = .ok (.string ⟨(a++b).toArray⟩) w:=by
 have h:=run_string_add_sum (P:=Tryz.prog) (w:=w) ⟨a.toArray⟩ ⟨b.toArray⟩ (by rw [zaq,zaq];omega)
 rwa [zet] at h
def valT (n d:Int):List UInt8:=if d=1 then Lib.itoa n else Lib.itoa n++47 :: Lib.itoa d
def vT (rt:List UInt8) (n d:Int):List UInt8:=if valT n d = [49]∧rt ≠ [] then [] else valT n d
def sgT (s:List UInt8) (c:Int):List UInt8:=if c<0 then s ++ [45] else if s = [] then s else s ++ [43]
def gcT (c d:Int):Int:=(Nat.gcd c.natAbs d.natAbs:Nat)
def stepT (s rt:List UInt8) (c d:Int):List UInt8:=if c=0 then s else sgT s c++(vT rt ((c.natAbs:Int).fdiv (gcT c d)) (d.fdiv (gcT c d))++rt)
def rtT:Nat→List UInt8
 | 0=>[]
 | 1=>[114,50]
 | 2=>[114,51]
 | _=>[114,54]
def cofT (x:Nm):Nat→Int
 | 0=>x.c0
 | 1=>x.c1
 | 2=>x.c2
 | _=>x.c3
def accT (x:Nm):Nat→List UInt8
 | 0=>[]
 | i+1=>stepT (accT x i) (rtT i) (cofT x i) x.d
def printT (x:Nm):List UInt8:=if accT x 4 = [] then [48] else accT x 4
noncomputable def fpN:Nat:=Tryz.f53.ntmps
noncomputable def fpC:Code:=Tryz.f53.body.getD .skip
noncomputable def fp0:Code:=cB 0 fpC
noncomputable def fpR:Code:=cI (cI fp0)
noncomputable def fp1:Code:=cI (cAt 1 fpR)
def rts:Array Value:=#[.string ⟨#[]⟩,.string ⟨#[114,50]⟩,.string ⟨#[114,51]⟩,.string ⟨#[114,54]⟩]
def fpM (x:Nm):Mem:=[(0,(26,xcN x)),(6,(9,rts))]
def fpS (rn:Nat→Nat) (s:List UInt8) (i:Nat):Env:=[(1,(.pointer (some ⟨rn 0,0,none⟩),1)),(3,(.string ⟨s.toArray⟩,0)),(14,(.slice (some ⟨rn 6,0,none⟩) 4 4,7)),(15,(.int .i64 4,0)),(16,(.int .i64 (i:Int),0))]
def fpS1 (rn:Nat→Nat) (s rt v:List UInt8) (i:Nat):Env:=fpS rn s i ++ [(5,(.string ⟨rt.toArray⟩,0)),(6,(.pointer (some ⟨rn 109,0,none⟩),110)),(10,(.string ⟨v.toArray⟩,0))]
def fpM1 (x:Nm) (c:Int):Mem:=fpM x ++ [(109,(23,cI1 c))]
section
variable {X:Cx} {rn:Nat→Nat} {s rt v:List UInt8} {i:Nat} {x:Nm} {c:Int} {a:Act} {w:World} {Q:Exit→Act→World→Prop} {post:Ending→World→Prop}
theorem zsD {i:Nat} (h:i<4):decide ((i:Int)<4)=true:=decide_eq_true (by omega)
theorem zrH {i:Nat} (h:i<4):IntKind.i64.wrap ((i:Int)+1)=((i+1:Nat):Int):=by rw [wr64 (by omega) (by omega)];omega
theorem zsC (hi:i<4) (hS:St fpN (fpS rn s i) a) (hM:MemOk X rn (fpM x) w) (hQ:∀ a' w',St fpN (fpS rn s i) a'→MemOk X rn (fpM x) w'→Q .normal a' w'):wpL Tryz.prog (cPre 1 fpR) Q a w:=by
 unfold fpS fpM at *
 have h:=zsD hi
 refine vk (X:=X) [] fpN (cPre 1 fpR) (fun r=>[(1,(.pointer (some ⟨r 0,0,none⟩),1)),(3,(.string ⟨s.toArray⟩,0)),(14,(.slice (some ⟨r 6,0,none⟩) 4 4,7)),(15,(.int .i64 (4),0)),(16,(.int .i64 ((i:Int)),0))]) (fun r=>[(0,(26,xcN x)),(6,(9,rts))]) 100 (rn) (hS) (hM) [(.p _ true h)] [] (VEx.n) (fun r=>[(1,(.pointer (some ⟨r 0,0,none⟩),1)),(3,(.string ⟨s.toArray⟩,0)),(14,(.slice (some ⟨r 6,0,none⟩) 4 4,7)),(15,(.int .i64 (4),0)),(16,(.int .i64 ((i:Int)),0))]) [] (fun r=>[(0,(26,xcN x)),(6,(9,rts))]) ?_
 intro a3 w3 hS3 hK3 hM3
 exact hQ a3 w3 hS3 hM3
theorem zrv (hi:i<4) (hS:St fpN (fpS rn s i) a) (hM:MemOk X rn (fpM x) w) (hQ:∀ a' w',St fpN (fpS rn s (i+1)) a'→MemOk X rn (fpM x) w'→Q .normal a' w'):wpL Tryz.prog (cPost 1 fpR) Q a w:=by
 unfold fpS fpM at *
 have v1:=zrH hi
 refine vk (X:=X) [(21,0)] fpN (cPost 1 fpR) (fun r=>[(1,(.pointer (some ⟨r 0,0,none⟩),1)),(3,(.string ⟨s.toArray⟩,0)),(14,(.slice (some ⟨r 6,0,none⟩) 4 4,7)),(15,(.int .i64 (4),0)),(16,(.int .i64 ((i:Int)),0))]) (fun r=>[(0,(26,xcN x)),(6,(9,rts))]) 100 (rn) (hS) (hM) [] [lE .i64 ((((i:Int)):Int)+((1):Int)) (((i+1:Nat):Int)) (v1)] (VEx.n) (fun r=>[(1,(.pointer (some ⟨r 0,0,none⟩),1)),(3,(.string ⟨s.toArray⟩,0)),(14,(.slice (some ⟨r 6,0,none⟩) 4 4,7)),(15,(.int .i64 (4),0)),(16,(.int .i64 (((i+1:Nat):Int)),0))]) [] (fun r=>[(0,(26,xcN x)),(6,(9,rts))]) ?_
 intro a3 w3 hS3 hK3 hM3
 exact hQ a3 w3 hS3 hM3
def fpS2 (rn:Nat→Nat) (s rt:List UInt8) (i:Nat):Env:=fpS rn s i ++ [(5,(.string ⟨rt.toArray⟩,0)),(6,(.pointer (some ⟨rn 109,0,none⟩),110))]
theorem zoD (hS:St fpN (fpS rn s 0) a) (hM:MemOk X rn (fpM x) w) (hQ:∀ rn' a' w',St fpN (fpS2 rn' s [] 0) a'→MemOk X rn' (fpM1 x x.c0) w'→Q .normal a' w'):wpL Tryz.prog ((cPre 2 fp1).take 2) Q a w:=by
 unfold fpS fpM at *
 unfold fpS2 fpM1 fpS fpM at hQ
 refine vf (X:=X) [] fpN ((cPre 2 fp1).take 2) (fun r=>[(1,(.pointer (some ⟨r 0,0,none⟩),1)),(3,(.string ⟨s.toArray⟩,0)),(14,(.slice (some ⟨r 6,0,none⟩) 4 4,7)),(15,(.int .i64 (4),0)),(16,(.int .i64 (0),0))]) (fun r=>[(0,(26,xcN x)),(6,(9,rts))]) 100 (rn) (hS) (hM) [] [] (VEx.n) (fun r=>[(1,(.pointer (some ⟨r 0,0,none⟩),1)),(3,(.string ⟨s.toArray⟩,0)),(14,(.slice (some ⟨r 6,0,none⟩) 4 4,7)),(15,(.int .i64 (4),0)),(16,(.int .i64 (0),0)),(5,(.string ⟨([]:List UInt8).toArray⟩,0)),(6,(.pointer (some ⟨r 109,0,none⟩),110))]) [] (fun r=>[(0,(26,xcN x)),(6,(9,rts)),(109,(23,cI1 x.c0))]) ?_
 intro rn' a3 w3 hr hS3 hK3 hM3
 exact hQ rn' a3 w3 hS3 hM3
theorem zoc (hS:St fpN (fpS rn s 1) a) (hM:MemOk X rn (fpM x) w) (hQ:∀ rn' a' w',St fpN (fpS2 rn' s [114,50] 1) a'→MemOk X rn' (fpM1 x x.c1) w'→Q .normal a' w'):wpL Tryz.prog ((cPre 2 fp1).take 2) Q a w:=by
 unfold fpS fpM at *
 unfold fpS2 fpM1 fpS fpM at hQ
 refine vf (X:=X) [] fpN ((cPre 2 fp1).take 2) (fun r=>[(1,(.pointer (some ⟨r 0,0,none⟩),1)),(3,(.string ⟨s.toArray⟩,0)),(14,(.slice (some ⟨r 6,0,none⟩) 4 4,7)),(15,(.int .i64 (4),0)),(16,(.int .i64 (1),0))]) (fun r=>[(0,(26,xcN x)),(6,(9,rts))]) 100 (rn) (hS) (hM) [] [] (VEx.n) (fun r=>[(1,(.pointer (some ⟨r 0,0,none⟩),1)),(3,(.string ⟨s.toArray⟩,0)),(14,(.slice (some ⟨r 6,0,none⟩) 4 4,7)),(15,(.int .i64 (4),0)),(16,(.int .i64 (1),0)),(5,(.string ⟨([114,50]:List UInt8).toArray⟩,0)),(6,(.pointer (some ⟨r 109,0,none⟩),110))]) [] (fun r=>[(0,(26,xcN x)),(6,(9,rts)),(109,(23,cI1 x.c1))]) ?_
 intro rn' a3 w3 hr hS3 hK3 hM3
 exact hQ rn' a3 w3 hS3 hM3
theorem zou (hS:St fpN (fpS rn s 2) a) (hM:MemOk X rn (fpM x) w) (hQ:∀ rn' a' w',St fpN (fpS2 rn' s [114,51] 2) a'→MemOk X rn' (fpM1 x x.c2) w'→Q .normal a' w'):wpL Tryz.prog ((cPre 2 fp1).take 2) Q a w:=by
 unfold fpS fpM at *
 unfold fpS2 fpM1 fpS fpM at hQ
 refine vf (X:=X) [] fpN ((cPre 2 fp1).take 2) (fun r=>[(1,(.pointer (some ⟨r 0,0,none⟩),1)),(3,(.string ⟨s.toArray⟩,0)),(14,(.slice (some ⟨r 6,0,none⟩) 4 4,7)),(15,(.int .i64 (4),0)),(16,(.int .i64 (2),0))]) (fun r=>[(0,(26,xcN x)),(6,(9,rts))]) 100 (rn) (hS) (hM) [] [] (VEx.n) (fun r=>[(1,(.pointer (some ⟨r 0,0,none⟩),1)),(3,(.string ⟨s.toArray⟩,0)),(14,(.slice (some ⟨r 6,0,none⟩) 4 4,7)),(15,(.int .i64 (4),0)),(16,(.int .i64 (2),0)),(5,(.string ⟨([114,51]:List UInt8).toArray⟩,0)),(6,(.pointer (some ⟨r 109,0,none⟩),110))]) [] (fun r=>[(0,(26,xcN x)),(6,(9,rts)),(109,(23,cI1 x.c2))]) ?_
 intro rn' a3 w3 hr hS3 hK3 hM3
 exact hQ rn' a3 w3 hS3 hM3
theorem znY (hS:St fpN (fpS rn s 3) a) (hM:MemOk X rn (fpM x) w) (hQ:∀ rn' a' w',St fpN (fpS2 rn' s [114,54] 3) a'→MemOk X rn' (fpM1 x x.c3) w'→Q .normal a' w'):wpL Tryz.prog ((cPre 2 fp1).take 2) Q a w:=by
 unfold fpS fpM at *
 unfold fpS2 fpM1 fpS fpM at hQ
 refine vf (X:=X) [] fpN ((cPre 2 fp1).take 2) (fun r=>[(1,(.pointer (some ⟨r 0,0,none⟩),1)),(3,(.string ⟨s.toArray⟩,0)),(14,(.slice (some ⟨r 6,0,none⟩) 4 4,7)),(15,(.int .i64 (4),0)),(16,(.int .i64 (3),0))]) (fun r=>[(0,(26,xcN x)),(6,(9,rts))]) 100 (rn) (hS) (hM) [] [] (VEx.n) (fun r=>[(1,(.pointer (some ⟨r 0,0,none⟩),1)),(3,(.string ⟨s.toArray⟩,0)),(14,(.slice (some ⟨r 6,0,none⟩) 4 4,7)),(15,(.int .i64 (4),0)),(16,(.int .i64 (3),0)),(5,(.string ⟨([114,54]:List UInt8).toArray⟩,0)),(6,(.pointer (some ⟨r 109,0,none⟩),110))]) [] (fun r=>[(0,(26,xcN x)),(6,(9,rts)),(109,(23,cI1 x.c3))]) ?_
 intro rn' a3 w3 hr hS3 hK3 hM3
 exact hQ rn' a3 w3 hS3 hM3
theorem zqN (hi:i<4) (hS:St fpN (fpS rn s i) a) (hM:MemOk X rn (fpM x) w) (hQ:∀ rn' a' w',St fpN (fpS2 rn' s (rtT i) i) a'→MemOk X rn' (fpM1 x (cofT x i)) w'→Q .normal a' w'):wpL Tryz.prog ((cPre 2 fp1).take 2) Q a w:=by
 have hc:i=0∨i=1∨i=2∨i=3:=by omega
 rcases hc with rfl | rfl | rfl | rfl
 ·exact zoD hS hM hQ
 ·exact zoc hS hM hQ
 ·exact zou hS hM hQ
 ·exact znY hS hM hQ
theorem zqv (hS:St fpN (fpS2 rn s rt i) a) (hM:MemOk X rn (fpM1 x c) w) (hz:((mg c).toList == (ByteArray.mk #[]).toList)=true) (hQ:∀ a' w',St fpN (fpS rn s i) a'→MemOk X rn (fpM x) w'→Q (.exit 1) a' w'):wpL Tryz.prog ((cPre 2 fp1).drop 2) Q a w:=by
 unfold fpS2 fpM1 fpS fpM at *
 refine vk (X:=X) [(8,2)] fpN ((cPre 2 fp1).drop 2) (fun r=>[(1,(.pointer (some ⟨r 0,0,none⟩),1)),(3,(.string ⟨s.toArray⟩,0)),(14,(.slice (some ⟨r 6,0,none⟩) 4 4,7)),(15,(.int .i64 (4),0)),(16,(.int .i64 ((i:Int)),0)),(5,(.string ⟨rt.toArray⟩,0)),(6,(.pointer (some ⟨r 109,0,none⟩),110))]) (fun r=>[(0,(26,xcN x)),(6,(9,rts)),(109,(23,cI1 c))]) 200 (rn) (hS) (hM) [.t] [lP (.bool ((mg c).toList == (ByteArray.mk #[]).toList)) (.bool true) (congrArg Value.bool hz)] (VEx.x 1) (fun r=>[(1,(.pointer (some ⟨r 0,0,none⟩),1)),(3,(.string ⟨s.toArray⟩,0)),(14,(.slice (some ⟨r 6,0,none⟩) 4 4,7)),(15,(.int .i64 (4),0)),(16,(.int .i64 ((i:Int)),0))]) [] (fun r=>[(0,(26,xcN x)),(6,(9,rts))]) ?_
 intro a3 w3 hS3 hK3 hM3
 exact hQ a3 w3 hS3 hM3
theorem zrB {g n0 n:Int} {pn:List UInt8} (hS:St fpN (fpS2 rn s rt i) a) (hM:MemOk X rn (fpM1 x c) w) (hz:((mg c).toList == (ByteArray.mk #[]).toList)=false)
  (G:∀ w,Calls Tryz.prog 107 #[vI c,vI x.d] w (RetI g w)) (A:∀ w,Calls Tryz.prog 109 #[vI c] w (RetI n0 w)) (O1:∀ w,Calls Tryz.prog 108 #[vI n0,vI g] w (RetI n w)) (O2:∀ w,Calls Tryz.prog 108 #[vI x.d,vI g] w (RetI 1 w))
  (P1:∀ w,Chg X.L X.w0 w→Calls Tryz.prog 110 #[vI n] w (RetV (.string ⟨pn.toArray⟩) w))
  (hQ:∀ a' w',St fpN (fpS1 rn s rt pn i) a'→MemOk X rn (fpM1 x c) w'→Q .normal a' w'):wpL Tryz.prog (((cPre 2 fp1).drop 2).take 5) Q a w:=by
 unfold fpS1 fpS2 fpM1 fpS fpM at *
 have O:=fun w=>zbe 1 w (by omega) (by omega)
 refine vk (X:=X) [(8,2),(12,2)] fpN (((cPre 2 fp1).drop 2).take 5) (fun r=>[(1,(.pointer (some ⟨r 0,0,none⟩),1)),(3,(.string ⟨s.toArray⟩,0)),(14,(.slice (some ⟨r 6,0,none⟩) 4 4,7)),(15,(.int .i64 (4),0)),(16,(.int .i64 ((i:Int)),0)),(5,(.string ⟨rt.toArray⟩,0)),(6,(.pointer (some ⟨r 109,0,none⟩),110))]) (fun r=>[(0,(26,xcN x)),(6,(9,rts)),(109,(23,cI1 c))]) 200 (rn) (hS) (hM) [.f,.f] [lP (.bool ((mg c).toList == (ByteArray.mk #[]).toList)) (.bool false) (congrArg Value.bool hz),cV (G),cV (A),cV (O1),cV (O2),cW P1,cV (O),lV _ (.bool false) (fun w hC=>zcm (1) (.tmp 42) (.tmp 43) w)] (VEx.n) (fun r=>[(1,(.pointer (some ⟨r 0,0,none⟩),1)),(3,(.string ⟨s.toArray⟩,0)),(14,(.slice (some ⟨r 6,0,none⟩) 4 4,7)),(15,(.int .i64 (4),0)),(16,(.int .i64 ((i:Int)),0)),(5,(.string ⟨rt.toArray⟩,0)),(6,(.pointer (some ⟨r 109,0,none⟩),110)),(10,(.string ⟨pn.toArray⟩,0))]) [] (fun r=>[(0,(26,xcN x)),(6,(9,rts)),(109,(23,cI1 c))]) ?_
 intro a3 w3 hS3 hK3 hM3
 exact hQ a3 w3 hS3 hM3
theorem zrM {g n0 n d:Int} {pn pd:List UInt8} (hS:St fpN (fpS2 rn s rt i) a) (hM:MemOk X rn (fpM1 x c) w) (hz:((mg c).toList == (ByteArray.mk #[]).toList)=false)
  (G:∀ w,Calls Tryz.prog 107 #[vI c,vI x.d] w (RetI g w)) (A:∀ w,Calls Tryz.prog 109 #[vI c] w (RetI n0 w)) (O1:∀ w,Calls Tryz.prog 108 #[vI n0,vI g] w (RetI n w)) (O2:∀ w,Calls Tryz.prog 108 #[vI x.d,vI g] w (RetI d w)) (hd:d≠1) (lpn:pn.length≤4000000) (lpd:pd.length≤4000000)
  (P1:∀ w,Chg X.L X.w0 w→Calls Tryz.prog 110 #[vI n] w (RetV (.string ⟨pn.toArray⟩) w)) (P2:∀ w,Chg X.L X.w0 w→Calls Tryz.prog 110 #[vI d] w (RetV (.string ⟨pd.toArray⟩) w))
  (hQ:∀ a' w',St fpN (fpS1 rn s rt (pn++47 :: pd) i) a'→MemOk X rn (fpM1 x c) w'→Q .normal a' w'):wpL Tryz.prog (((cPre 2 fp1).drop 2).take 5) Q a w:=by
 unfold fpS1 fpS2 fpM1 fpS fpM at *
 have O:=fun w=>zbe 1 w (by omega) (by omega)
 obtain ⟨q,hq⟩:∃ q,q=47 :: pd:=⟨_,rfl⟩
 have e1:∀ w,(Op.stringOp .add ⟨#[47]⟩ ⟨pd.toArray⟩).run Tryz.prog w = .ok (.string ⟨q.toArray⟩) w:=by rw [hq];exact zaN [47] pd (by simp) (by omega)
 have e2:=zaN pn q (by omega) (by rw [hq,List.length_cons];omega)
 rw [← hq] at hQ
 clear hq
 generalize pn++q=z at *
 refine vk (X:=X) [(8,2),(12,2),(13,3),(13,4)] fpN (((cPre 2 fp1).drop 2).take 5) (fun r=>[(1,(.pointer (some ⟨r 0,0,none⟩),1)),(3,(.string ⟨s.toArray⟩,0)),(14,(.slice (some ⟨r 6,0,none⟩) 4 4,7)),(15,(.int .i64 (4),0)),(16,(.int .i64 ((i:Int)),0)),(5,(.string ⟨rt.toArray⟩,0)),(6,(.pointer (some ⟨r 109,0,none⟩),110))]) (fun r=>[(0,(26,xcN x)),(6,(9,rts)),(109,(23,cI1 c))]) 200 (rn) (hS) (hM) [.f,.t] [lP (.bool ((mg c).toList == (ByteArray.mk #[]).toList)) (.bool false) (congrArg Value.bool hz),cV (G),cV (A),cV (O1),cV (O2),cW P1,cV (O),lV _ (.bool true) (fun w hC=>zb1 (d) (1) (hd) (.tmp 42) (.tmp 43) w),cW P2,lV (Op.stringOp .add ⟨#[47]⟩ ⟨pd.toArray⟩) (.string ⟨q.toArray⟩) (fun w hC=>e1 w),lV (Op.stringOp .add ⟨pn.toArray⟩ ⟨q.toArray⟩) (.string ⟨z.toArray⟩) (fun w hC=>e2 w)] (VEx.n) (fun r=>[(1,(.pointer (some ⟨r 0,0,none⟩),1)),(3,(.string ⟨s.toArray⟩,0)),(14,(.slice (some ⟨r 6,0,none⟩) 4 4,7)),(15,(.int .i64 (4),0)),(16,(.int .i64 ((i:Int)),0)),(5,(.string ⟨rt.toArray⟩,0)),(6,(.pointer (some ⟨r 109,0,none⟩),110)),(10,(.string ⟨z.toArray⟩,0))]) [] (fun r=>[(0,(26,xcN x)),(6,(9,rts)),(109,(23,cI1 c))]) ?_
 intro a3 w3 hS3 hK3 hM3
 exact hQ a3 w3 hS3 hM3
theorem zli (hS:St fpN (fpS1 rn s rt v i) a) (hM:MemOk X rn (fpM1 x c) w) (h1:v = [49]) (h2:rt ≠ []) (hQ:∀ a' w',St fpN (fpS1 rn s rt [] i) a'→MemOk X rn (fpM1 x c) w'→Q .normal a' w'):wpL Tryz.prog ((cPre 2 fp1).drop 7) Q a w:=by
 unfold fpS1 fpM1 fpS fpM at *
 have e1:((ByteArray.mk v.toArray).toList == (ByteArray.mk #[49]).toList)=true:=by rw [show (ByteArray.mk #[49])=(ByteArray.mk ([49]:List UInt8).toArray) from rfl,zfl,h1];rfl
 have e2:(!((ByteArray.mk rt.toArray).toList == (ByteArray.mk #[]).toList))=true:=by rw [zaJ];simpa using h2
 clear h1
 refine vk (X:=X) [(14,1),(14,4)] fpN ((cPre 2 fp1).drop 7) (fun r=>[(1,(.pointer (some ⟨r 0,0,none⟩),1)),(3,(.string ⟨s.toArray⟩,0)),(14,(.slice (some ⟨r 6,0,none⟩) 4 4,7)),(15,(.int .i64 (4),0)),(16,(.int .i64 ((i:Int)),0)),(5,(.string ⟨rt.toArray⟩,0)),(6,(.pointer (some ⟨r 109,0,none⟩),110)),(10,(.string ⟨v.toArray⟩,0))]) (fun r=>[(0,(26,xcN x)),(6,(9,rts)),(109,(23,cI1 c))]) 200 (rn) (hS) (hM) [.t,.t,.t,.t] [lP (.bool ((ByteArray.mk v.toArray).toList == (ByteArray.mk #[49]).toList)) (.bool true) (congrArg Value.bool e1),lP (.bool (!((ByteArray.mk rt.toArray).toList == (ByteArray.mk #[]).toList))) (.bool true) (congrArg Value.bool e2)] (VEx.n) (fun r=>[(1,(.pointer (some ⟨r 0,0,none⟩),1)),(3,(.string ⟨s.toArray⟩,0)),(14,(.slice (some ⟨r 6,0,none⟩) 4 4,7)),(15,(.int .i64 (4),0)),(16,(.int .i64 ((i:Int)),0)),(5,(.string ⟨rt.toArray⟩,0)),(6,(.pointer (some ⟨r 109,0,none⟩),110)),(10,(.string ⟨#[]⟩,0))]) [] (fun r=>[(0,(26,xcN x)),(6,(9,rts)),(109,(23,cI1 c))]) ?_
 intro a3 w3 hS3 hK3 hM3
 exact hQ a3 w3 hS3 hM3
theorem zlV (hS:St fpN (fpS1 rn s rt v i) a) (hM:MemOk X rn (fpM1 x c) w) (h1:v = [49]) (h2:rt = []) (hQ:∀ a' w',St fpN (fpS1 rn s rt v i) a'→MemOk X rn (fpM1 x c) w'→Q .normal a' w'):wpL Tryz.prog ((cPre 2 fp1).drop 7) Q a w:=by
 unfold fpS1 fpM1 fpS fpM at *
 have e1:((ByteArray.mk v.toArray).toList == (ByteArray.mk #[49]).toList)=true:=by rw [show (ByteArray.mk #[49])=(ByteArray.mk ([49]:List UInt8).toArray) from rfl,zfl,h1];rfl
 have e2:(!((ByteArray.mk rt.toArray).toList == (ByteArray.mk #[]).toList))=false:=by rw [zaJ,h2];rfl
 clear h1
 refine vk (X:=X) [(14,1),(14,4)] fpN ((cPre 2 fp1).drop 7) (fun r=>[(1,(.pointer (some ⟨r 0,0,none⟩),1)),(3,(.string ⟨s.toArray⟩,0)),(14,(.slice (some ⟨r 6,0,none⟩) 4 4,7)),(15,(.int .i64 (4),0)),(16,(.int .i64 ((i:Int)),0)),(5,(.string ⟨rt.toArray⟩,0)),(6,(.pointer (some ⟨r 109,0,none⟩),110)),(10,(.string ⟨v.toArray⟩,0))]) (fun r=>[(0,(26,xcN x)),(6,(9,rts)),(109,(23,cI1 c))]) 200 (rn) (hS) (hM) [.t,.t,.t,.f] [lP (.bool ((ByteArray.mk v.toArray).toList == (ByteArray.mk #[49]).toList)) (.bool true) (congrArg Value.bool e1),lP (.bool (!((ByteArray.mk rt.toArray).toList == (ByteArray.mk #[]).toList))) (.bool false) (congrArg Value.bool e2)] (VEx.n) (fun r=>[(1,(.pointer (some ⟨r 0,0,none⟩),1)),(3,(.string ⟨s.toArray⟩,0)),(14,(.slice (some ⟨r 6,0,none⟩) 4 4,7)),(15,(.int .i64 (4),0)),(16,(.int .i64 ((i:Int)),0)),(5,(.string ⟨rt.toArray⟩,0)),(6,(.pointer (some ⟨r 109,0,none⟩),110)),(10,(.string ⟨v.toArray⟩,0))]) [] (fun r=>[(0,(26,xcN x)),(6,(9,rts)),(109,(23,cI1 c))]) ?_
 intro a3 w3 hS3 hK3 hM3
 exact hQ a3 w3 hS3 hM3
theorem zlH (hS:St fpN (fpS1 rn s rt v i) a) (hM:MemOk X rn (fpM1 x c) w) (h1:v ≠ [49]) (hQ:∀ a' w',St fpN (fpS1 rn s rt v i) a'→MemOk X rn (fpM1 x c) w'→Q .normal a' w'):wpL Tryz.prog ((cPre 2 fp1).drop 7) Q a w:=by
 unfold fpS1 fpM1 fpS fpM at *
 have e1:((ByteArray.mk v.toArray).toList == (ByteArray.mk #[49]).toList)=false:=by rw [show (ByteArray.mk #[49])=(ByteArray.mk ([49]:List UInt8).toArray) from rfl,zfl];simpa using h1
 skip
 clear h1
 refine vk (X:=X) [(14,1)] fpN ((cPre 2 fp1).drop 7) (fun r=>[(1,(.pointer (some ⟨r 0,0,none⟩),1)),(3,(.string ⟨s.toArray⟩,0)),(14,(.slice (some ⟨r 6,0,none⟩) 4 4,7)),(15,(.int .i64 (4),0)),(16,(.int .i64 ((i:Int)),0)),(5,(.string ⟨rt.toArray⟩,0)),(6,(.pointer (some ⟨r 109,0,none⟩),110)),(10,(.string ⟨v.toArray⟩,0))]) (fun r=>[(0,(26,xcN x)),(6,(9,rts)),(109,(23,cI1 c))]) 200 (rn) (hS) (hM) [.f,.f,.f,.f] [lP (.bool ((ByteArray.mk v.toArray).toList == (ByteArray.mk #[49]).toList)) (.bool false) (congrArg Value.bool e1)] (VEx.n) (fun r=>[(1,(.pointer (some ⟨r 0,0,none⟩),1)),(3,(.string ⟨s.toArray⟩,0)),(14,(.slice (some ⟨r 6,0,none⟩) 4 4,7)),(15,(.int .i64 (4),0)),(16,(.int .i64 ((i:Int)),0)),(5,(.string ⟨rt.toArray⟩,0)),(6,(.pointer (some ⟨r 109,0,none⟩),110)),(10,(.string ⟨v.toArray⟩,0))]) [] (fun r=>[(0,(26,xcN x)),(6,(9,rts)),(109,(23,cI1 c))]) ?_
 intro a3 w3 hS3 hK3 hM3
 exact hQ a3 w3 hS3 hM3
theorem zoJ (ls:s.length≤4000000) (hS:St fpN (fpS1 rn s rt v i) a) (hM:MemOk X rn (fpM1 x c) w) (h1:sg c=true) (hQ:∀ a' w',St fpN (fpS1 rn (s ++ [45]) rt v i) a'→MemOk X rn (fpM1 x c) w'→Q .normal a' w'):wpL Tryz.prog [cAt 2 fp1] Q a w:=by
 unfold fpS1 fpM1 fpS fpM at *
 have e3:=zaN s [45] (by omega) (by simp)
 generalize s ++ [45]=z at *
 skip
 refine vk (X:=X) [(17,1)] fpN [cAt 2 fp1] (fun r=>[(1,(.pointer (some ⟨r 0,0,none⟩),1)),(3,(.string ⟨s.toArray⟩,0)),(14,(.slice (some ⟨r 6,0,none⟩) 4 4,7)),(15,(.int .i64 (4),0)),(16,(.int .i64 ((i:Int)),0)),(5,(.string ⟨rt.toArray⟩,0)),(6,(.pointer (some ⟨r 109,0,none⟩),110)),(10,(.string ⟨v.toArray⟩,0))]) (fun r=>[(0,(26,xcN x)),(6,(9,rts)),(109,(23,cI1 c))]) 200 (rn) (hS) (hM) [(.p _ true h1)] [lV (Op.stringOp .add ⟨s.toArray⟩ ⟨#[45]⟩) (.string ⟨z.toArray⟩) (fun w hC=>e3 w)] (VEx.n) (fun r=>[(1,(.pointer (some ⟨r 0,0,none⟩),1)),(3,(.string ⟨z.toArray⟩,0)),(14,(.slice (some ⟨r 6,0,none⟩) 4 4,7)),(15,(.int .i64 (4),0)),(16,(.int .i64 ((i:Int)),0)),(5,(.string ⟨rt.toArray⟩,0)),(6,(.pointer (some ⟨r 109,0,none⟩),110)),(10,(.string ⟨v.toArray⟩,0))]) [] (fun r=>[(0,(26,xcN x)),(6,(9,rts)),(109,(23,cI1 c))]) ?_
 intro a3 w3 hS3 hK3 hM3
 exact hQ a3 w3 hS3 hM3
theorem zpp (ls:s.length≤4000000) (hS:St fpN (fpS1 rn s rt v i) a) (hM:MemOk X rn (fpM1 x c) w) (h1:sg c=false) (h2:s ≠ []) (hQ:∀ a' w',St fpN (fpS1 rn (s ++ [43]) rt v i) a'→MemOk X rn (fpM1 x c) w'→Q .normal a' w'):wpL Tryz.prog [cAt 2 fp1] Q a w:=by
 unfold fpS1 fpM1 fpS fpM at *
 have e2:(!((ByteArray.mk s.toArray).toList == (ByteArray.mk #[]).toList))=true:=by rw [zaJ];simpa using h2
 have e3:=zaN s [43] (by omega) (by simp)
 generalize s ++ [43]=z at *
 refine vk (X:=X) [(18,1),(19,1)] fpN [cAt 2 fp1] (fun r=>[(1,(.pointer (some ⟨r 0,0,none⟩),1)),(3,(.string ⟨s.toArray⟩,0)),(14,(.slice (some ⟨r 6,0,none⟩) 4 4,7)),(15,(.int .i64 (4),0)),(16,(.int .i64 ((i:Int)),0)),(5,(.string ⟨rt.toArray⟩,0)),(6,(.pointer (some ⟨r 109,0,none⟩),110)),(10,(.string ⟨v.toArray⟩,0))]) (fun r=>[(0,(26,xcN x)),(6,(9,rts)),(109,(23,cI1 c))]) 200 (rn) (hS) (hM) [(.p _ false h1),.t] [lP (.bool (!((ByteArray.mk s.toArray).toList == (ByteArray.mk #[]).toList))) (.bool true) (congrArg Value.bool e2),lV (Op.stringOp .add ⟨s.toArray⟩ ⟨#[43]⟩) (.string ⟨z.toArray⟩) (fun w hC=>e3 w)] (VEx.n) (fun r=>[(1,(.pointer (some ⟨r 0,0,none⟩),1)),(3,(.string ⟨z.toArray⟩,0)),(14,(.slice (some ⟨r 6,0,none⟩) 4 4,7)),(15,(.int .i64 (4),0)),(16,(.int .i64 ((i:Int)),0)),(5,(.string ⟨rt.toArray⟩,0)),(6,(.pointer (some ⟨r 109,0,none⟩),110)),(10,(.string ⟨v.toArray⟩,0))]) [] (fun r=>[(0,(26,xcN x)),(6,(9,rts)),(109,(23,cI1 c))]) ?_
 intro a3 w3 hS3 hK3 hM3
 exact hQ a3 w3 hS3 hM3
theorem zn8 (ls:s.length≤4000000) (hS:St fpN (fpS1 rn s rt v i) a) (hM:MemOk X rn (fpM1 x c) w) (h1:sg c=false) (h2:s = []) (hQ:∀ a' w',St fpN (fpS1 rn s rt v i) a'→MemOk X rn (fpM1 x c) w'→Q .normal a' w'):wpL Tryz.prog [cAt 2 fp1] Q a w:=by
 unfold fpS1 fpM1 fpS fpM at *
 have e2:(!((ByteArray.mk s.toArray).toList == (ByteArray.mk #[]).toList))=false:=by rw [zaJ,h2];rfl
 skip
 skip
 refine vk (X:=X) [(18,1)] fpN [cAt 2 fp1] (fun r=>[(1,(.pointer (some ⟨r 0,0,none⟩),1)),(3,(.string ⟨s.toArray⟩,0)),(14,(.slice (some ⟨r 6,0,none⟩) 4 4,7)),(15,(.int .i64 (4),0)),(16,(.int .i64 ((i:Int)),0)),(5,(.string ⟨rt.toArray⟩,0)),(6,(.pointer (some ⟨r 109,0,none⟩),110)),(10,(.string ⟨v.toArray⟩,0))]) (fun r=>[(0,(26,xcN x)),(6,(9,rts)),(109,(23,cI1 c))]) 200 (rn) (hS) (hM) [(.p _ false h1),.f] [lP (.bool (!((ByteArray.mk s.toArray).toList == (ByteArray.mk #[]).toList))) (.bool false) (congrArg Value.bool e2)] (VEx.n) (fun r=>[(1,(.pointer (some ⟨r 0,0,none⟩),1)),(3,(.string ⟨s.toArray⟩,0)),(14,(.slice (some ⟨r 6,0,none⟩) 4 4,7)),(15,(.int .i64 (4),0)),(16,(.int .i64 ((i:Int)),0)),(5,(.string ⟨rt.toArray⟩,0)),(6,(.pointer (some ⟨r 109,0,none⟩),110)),(10,(.string ⟨v.toArray⟩,0))]) [] (fun r=>[(0,(26,xcN x)),(6,(9,rts)),(109,(23,cI1 c))]) ?_
 intro a3 w3 hS3 hK3 hM3
 exact hQ a3 w3 hS3 hM3
theorem zis (ls:s.length≤4000000) (lv:v.length≤4000000) (lr:rt.length≤10) (hS:St fpN (fpS1 rn s rt v i) a) (hM:MemOk X rn (fpM1 x c) w) (hQ:∀ a' w',St fpN (fpS rn (s++(v++rt)) i) a'→MemOk X rn (fpM x) w'→Q .normal a' w'):wpL Tryz.prog (cPost 2 fp1) Q a w:=by
 unfold fpS1 fpM1 fpS fpM at *
 have e1:=zaN v rt (by omega) (by omega)
 have e2:=zaN s (v++rt) (by omega) (by rw [List.length_append];omega)
 generalize v++rt=q at *
 generalize s++q=z at *
 refine vk (X:=X) [(20,3),(20,4)] fpN (cPost 2 fp1) (fun r=>[(1,(.pointer (some ⟨r 0,0,none⟩),1)),(3,(.string ⟨s.toArray⟩,0)),(14,(.slice (some ⟨r 6,0,none⟩) 4 4,7)),(15,(.int .i64 (4),0)),(16,(.int .i64 ((i:Int)),0)),(5,(.string ⟨rt.toArray⟩,0)),(6,(.pointer (some ⟨r 109,0,none⟩),110)),(10,(.string ⟨v.toArray⟩,0))]) (fun r=>[(0,(26,xcN x)),(6,(9,rts)),(109,(23,cI1 c))]) 200 (rn) (hS) (hM) [] [lV (Op.stringOp .add ⟨v.toArray⟩ ⟨rt.toArray⟩) (.string ⟨q.toArray⟩) (fun w hC=>e1 w),lV (Op.stringOp .add ⟨s.toArray⟩ ⟨q.toArray⟩) (.string ⟨z.toArray⟩) (fun w hC=>e2 w)] (VEx.n) (fun r=>[(1,(.pointer (some ⟨r 0,0,none⟩),1)),(3,(.string ⟨z.toArray⟩,0)),(14,(.slice (some ⟨r 6,0,none⟩) 4 4,7)),(15,(.int .i64 (4),0)),(16,(.int .i64 ((i:Int)),0))]) [] (fun r=>[(0,(26,xcN x)),(6,(9,rts))]) ?_
 intro a3 w3 hS3 hK3 hM3
 exact hQ a3 w3 hS3 hM3
theorem zrF (hS:St fpN (fpS rn s 4) a) (hM:MemOk X rn (fpM x) w) (hQ:∀ a' w',St fpN [(3,(.string ⟨s.toArray⟩,0))] a'→MemOk X rn (fpM x) w'→Q (.exit 0) a' w'):wpL Tryz.prog [fpR] Q a w:=by
 unfold fpS fpM at *
 refine vk (X:=X) [] fpN [fpR] (fun r=>[(1,(.pointer (some ⟨r 0,0,none⟩),1)),(3,(.string ⟨s.toArray⟩,0)),(14,(.slice (some ⟨r 6,0,none⟩) 4 4,7)),(15,(.int .i64 (4),0)),(16,(.int .i64 (4),0))]) (fun r=>[(0,(26,xcN x)),(6,(9,rts))]) 100 (rn) (hS) (hM) [.f] [] (VEx.x 0) (fun r=>[(3,(.string ⟨s.toArray⟩,0))]) [] (fun r=>[(0,(26,xcN x)),(6,(9,rts))]) ?_
 intro a3 w3 hS3 hK3 hM3
 exact hQ a3 w3 hS3 hM3
theorem zpa (hS:St fpN [(3,(.string ⟨s.toArray⟩,0))] a) (hM:MemOk X rn (fpM x) w) (h:s = []) (hp:∀ w',Chg X.L X.w0 w'→post (.returned (.string ⟨#[48]⟩)) w'):wpL Tryz.prog (cPost 0 fpC) (bodyPost Tryz.prog Tryz.f53 post) a w:=by
 unfold fpM at *
 have e2:((ByteArray.mk s.toArray).toList == (ByteArray.mk #[]).toList)=true:=by rw [zaJ,h];rfl
 refine vk (X:=X) [(22,1)] fpN (cPost 0 fpC) (fun r=>[(3,(.string ⟨s.toArray⟩,0))]) (fun r=>[(0,(26,xcN x)),(6,(9,rts))]) 100 (rn) (hS) (hM) [.t] [lP (.bool ((ByteArray.mk s.toArray).toList == (ByteArray.mk #[]).toList)) (.bool true) (congrArg Value.bool e2)] (VEx.r) (fun r=>[(2,(.string ⟨#[48]⟩,0))]) [] (fun r=>[(0,(26,xcN x)),(6,(9,rts))]) ?_
 intro a3 w3 hS3 hK3 hM3
 exact za4 (fn:=Tryz.f53) hS3 hM3 (.string ⟨#[48]⟩) (fun g=>by kernel_rfl) (hp w3 hM3.below)
theorem zom (hS:St fpN [(3,(.string ⟨s.toArray⟩,0))] a) (hM:MemOk X rn (fpM x) w) (h:s ≠ []) (hp:∀ w',Chg X.L X.w0 w'→post (.returned (.string ⟨s.toArray⟩)) w'):wpL Tryz.prog (cPost 0 fpC) (bodyPost Tryz.prog Tryz.f53 post) a w:=by
 unfold fpM at *
 have e2:((ByteArray.mk s.toArray).toList == (ByteArray.mk #[]).toList)=false:=by rw [zaJ];simpa using h
 refine vk (X:=X) [(22,1)] fpN (cPost 0 fpC) (fun r=>[(3,(.string ⟨s.toArray⟩,0))]) (fun r=>[(0,(26,xcN x)),(6,(9,rts))]) 100 (rn) (hS) (hM) [.f] [lP (.bool ((ByteArray.mk s.toArray).toList == (ByteArray.mk #[]).toList)) (.bool false) (congrArg Value.bool e2)] (VEx.r) (fun r=>[(2,(.string ⟨s.toArray⟩,0))]) [] (fun r=>[(0,(26,xcN x)),(6,(9,rts))]) ?_
 intro a3 w3 hS3 hK3 hM3
 exact za4 (fn:=Tryz.f53) hS3 hM3 (.string ⟨s.toArray⟩) (fun g=>by kernel_rfl) (hp w3 hM3.below)
end

structure CF (c d n e:Int):Prop where
 g0:gcT c d≠0
 bg:Bd 20 (gcT c d)
 hn:n=(c.natAbs:Int).fdiv (gcT c d)
 he:e=d.fdiv (gcT c d)
 bn:Bd 20 n
 be:Bd 20 e
 n1:1≤n
 e1:1≤e
 cross:n * d=(c.natAbs:Int) * e
theorem cf {c d:Int} (hc:c≠0) (hd:0<d) (bc:Bd 20 c) (bd:Bd 20 d):CF c d ((c.natAbs:Int).fdiv (gcT c d)) (d.fdiv (gcT c d)):=by
 have hcn:0<c.natAbs:=Int.natAbs_pos.2 hc
 have hg:0<Nat.gcd c.natAbs d.natAbs:=Nat.gcd_pos_of_pos_left _ hcn
 have g0:gcT c d≠0:=by unfold gcT;omega
 have hg':0<gcT c d:=by unfold gcT;omega
 have d1:gcT c d∣(c.natAbs:Int):=by unfold gcT;exact Int.natCast_dvd_natCast.2 (Nat.gcd_dvd_left _ _)
 have d2:gcT c d∣d:=by
  unfold gcT
  have h:((Nat.gcd c.natAbs d.natAbs:Nat):Int)∣(d.natAbs:Int):=Int.natCast_dvd_natCast.2 (Nat.gcd_dvd_right _ _)
  rwa [show (d.natAbs:Int)=d by omega] at h
 have bca:Bd 20 (c.natAbs:Int):=bc.le (y:=(c.natAbs:Int)) (by simp)
 have m1:(c.natAbs:Int).fdiv (gcT c d) * gcT c d=(c.natAbs:Int):=by
  rw [Int.fdiv_eq_ediv_of_dvd d1];exact Int.ediv_mul_cancel d1
 have m2:d.fdiv (gcT c d) * gcT c d=d:=by
  rw [Int.fdiv_eq_ediv_of_dvd d2];exact Int.ediv_mul_cancel d2
 refine ⟨g0,bc.gcd bd,rfl,rfl,bca.fdiv g0 d1,bd.fdiv g0 d2,?_,?_,?_⟩
 ·rcases Int.lt_or_le 0 ((c.natAbs:Int).fdiv (gcT c d)) with h | h
  ·omega
  ·have:=Int.mul_nonpos_of_nonpos_of_nonneg h (Int.le_of_lt hg')
   rw [m1] at this
   omega
 ·rcases Int.lt_or_le 0 (d.fdiv (gcT c d)) with h | h
  ·omega
  ·have:=Int.mul_nonpos_of_nonpos_of_nonneg h (Int.le_of_lt hg')
   rw [m2] at this
   omega
 ·generalize (c.natAbs:Int).fdiv (gcT c d)=n at *
  generalize d.fdiv (gcT c d)=e at *
  generalize gcT c d=g at *
  generalize (c.natAbs:Int)=m at *
  subst m1
  subst m2
  rw [Int.mul_assoc,Int.mul_comm g e]
theorem zff {n:Int} (h:0≤n):Lib.itoa n=Lib.decDigits n.natAbs:=by
 unfold Lib.itoa
 rw [if_neg (by omega),show n.toNat=n.natAbs from by omega]
theorem zcQ {n:Int} (h:0≤n) (b:Bd 20 n):(Lib.itoa n).length≤60:=by
 rw [zff h]
 exact zig (k:=20) (by omega) b
theorem zi3 {n e:Int} (h:0≤n) (b:Bd 20 n) (h2:0≤e) (b2:Bd 20 e):(valT n e).length≤121:=by
 have:=zcQ h b
 have:=zcQ h2 b2
 unfold valT
 split
 ·omega
 ·rw [List.length_append,List.length_cons];omega
theorem zrI {rt:List UInt8} {n e:Int} (h:0≤n) (b:Bd 20 n) (h2:0≤e) (b2:Bd 20 e):(vT rt n e).length≤121:=by
 have:=zi3 h b h2 b2
 unfold vT
 split
 ·simp
 ·exact this
theorem zij (s:List UInt8) (c:Int):(sgT s c).length≤s.length+1:=by
 unfold sgT
 split
 ·simp
 ·split
  ·omega
  ·simp
theorem zhL {id:Nat} {Q:Exit→Act→World→Prop} {a:Act} {w:World} (h:Q .normal a w):Exit.inBlock id Q (.exit id) a w:=by
 unfold Exit.inBlock
 simp [h]
section
variable {X:Cx} {rn:Nat→Nat} {s rt v:List UInt8} {i:Nat} {x:Nm} {c:Int} {a:Act} {w:World} {Q:Exit→Act→World→Prop} {post:Ending→World→Prop}
theorem zna (ls:s.length≤1000000) (lv:v.length≤1000) (lr:rt.length≤10) (hS:St fpN (fpS1 rn s rt v i) a) (hM:MemOk X rn (fpM1 x c) w)
  (hQ:∀ a' w',St fpN (fpS rn (sgT s c++((if v = [49]∧rt ≠ [] then [] else v)++rt)) i) a'→MemOk X rn (fpM x) w'→Q .normal a' w') :
  wpL Tryz.prog ((cPre 2 fp1).drop 7) (Exit.then (fun a w=>(cAt 2 fp1).wp Tryz.prog (Exit.then (fun a w=>wpL Tryz.prog (cPost 2 fp1) Q a w) Q) a w) Q) a w:=by
 have tail:∀ v' a1 w1,v'.length≤1000→v'=(if v = [49]∧rt ≠ [] then [] else v)→St fpN (fpS1 rn s rt v' i) a1→MemOk X rn (fpM1 x c) w1→(cAt 2 fp1).wp Tryz.prog (Exit.then (fun a w=>wpL Tryz.prog (cPost 2 fp1) Q a w) Q) a1 w1:=by
  intro v' a1 w1 lv' hv' hS1 hM1
  rw [← hv'] at hQ
  have lsg:=zij s c
  refine zaA ?_
  by_cases h:c<0
  ·have e:sgT s c=s ++ [45]:=by unfold sgT;rw [if_pos h]
   rw [e] at hQ lsg
   exact zoJ (by omega) hS1 hM1 (decide_eq_true h) (fun a2 w2 h1 h2=>zam (zis (by omega) (by omega) lr h1 h2 hQ))
  ·have hsg:sg c=false:=decide_eq_false h
   by_cases hs:s = []
   ·have e:sgT s c=s:=by unfold sgT;rw [if_neg h,if_pos hs]
    rw [e] at hQ lsg
    exact zn8 (by omega) hS1 hM1 hsg hs (fun a2 w2 h1 h2=>zam (zis (by omega) (by omega) lr h1 h2 hQ))
   ·have e:sgT s c=s ++ [43]:=by unfold sgT;rw [if_neg h,if_neg hs]
    rw [e] at hQ lsg
    exact zpp (by omega) hS1 hM1 hsg hs (fun a2 w2 h1 h2=>zam (zis (by omega) (by omega) lr h1 h2 hQ))
 by_cases hv:v = [49]
 ·by_cases hr:rt = []
  ·exact zlV hS hM hv hr (fun a1 w1 h1 h2=>zam (tail v a1 w1 lv (by rw [if_neg (fun h=>h.2 hr)]) h1 h2))
  ·exact zli hS hM hv hr (fun a1 w1 h1 h2=>zam (tail [] a1 w1 (by simp) (by rw [if_pos ⟨hv,hr⟩]) h1 h2))
 ·exact zlH hS hM hv (fun a1 w1 h1 h2=>zam (tail v a1 w1 lv (by rw [if_neg (fun h=>hv h.1)]) h1 h2))
theorem zrs:cPre 2 fp1=(cPre 2 fp1).take 2++(cPre 2 fp1).drop 2:=by kernel_rfl
theorem zrr:(cPre 2 fp1).drop 2=((cPre 2 fp1).drop 2).take 5++(cPre 2 fp1).drop 7:=by kernel_rfl
theorem zqm (h:wpL Tryz.prog ((cPre 2 fp1).take 2) (Exit.then (fun a w=>wpL Tryz.prog ((cPre 2 fp1).drop 2) (Exit.then (fun a w=>(cAt 2 fp1).wp Tryz.prog (Exit.then (fun a w=>wpL Tryz.prog (cPost 2 fp1) Q a w) Q) a w) Q) a w) Q) a w):fp1.wp Tryz.prog Q a w:=by
 refine zaT 2 kr ?_
 rw [zrs]
 refine zdX _ _ ?_
 refine zcn _ h ?_
 intro ex a w h
 cases ex <;> exact h
theorem zpl (h:wpL Tryz.prog (cPre 1 fpR) (Exit.then (fun a w=>fp1.wp Tryz.prog (Exit.inBlock 1 (Exit.then (fun a w=>wpL Tryz.prog (cPost 1 fpR) Q a w) Q)) a w) Q) a w):fpR.wp Tryz.prog Q a w:=by
 refine zaT 1 kr ?_
 refine zcn _ h ?_
 intro ex a w h
 cases ex
 case normal=>exact zdU 1 kr h
 all_goals exact h
theorem zoM {w0:World} (ht:HasTab w0) (hX:X=⟨w0,[]⟩) (hi:i<4) (ls:s.length≤100000) (lr:(rtT i).length≤10) (ox:Ok x) (bx:BN 20 x) (bc:Bd 20 (cofT x i)) (hS:St fpN (fpS rn s i) a) (hM:MemOk X rn (fpM x) w)
  (hQ:∀ rn' a' w',St fpN (fpS rn' (stepT s (rtT i) (cofT x i) x.d) (i+1)) a'→MemOk X rn' (fpM x) w'→Q .normal a' w'):fpR.wp Tryz.prog Q a w:=by
 subst hX
 refine zpl (zsC hi hS hM fun a1 w1 hS1 hM1=>zam ?_)
 refine zqm (zqN hi hS1 hM1 fun rn' a2 w2 hS2 hM2=>zam ?_)
 have fin:∀ a2 w2,St fpN (fpS rn' (stepT s (rtT i) (cofT x i) x.d) i) a2→MemOk ⟨w0,[]⟩ rn' (fpM x) w2→wpL Tryz.prog (cPost 1 fpR) Q a2 w2:=fun a2 w2 h1 h2=>zrv hi h1 h2 (hQ rn')
 clear hS hM hS1 hM1 hQ
 generalize cofT x i=c at *
 generalize rtT i=rt at *
 by_cases hc:c=0
 ·refine zqv hS2 hM2 (zmE hc) fun a2 w2 h1 h2=>?_
  show Exit.inBlock 1 (Exit.then (fun a w=>wpL Tryz.prog (cPost 1 fpR) Q a w) Q) (.exit 1) a2 w2
  refine zhL (zam (fin a2 w2 ?_ h2))
  unfold stepT
  rw [if_pos hc]
  exact h1
 ·have F:=cf hc ox.pos bc bx.h4
  have e:stepT s rt c x.d=sgT s c++((if valT ((c.natAbs:Int).fdiv (gcT c x.d)) (x.d.fdiv (gcT c x.d)) = [49]∧rt ≠ [] then [] else valT ((c.natAbs:Int).fdiv (gcT c x.d)) (x.d.fdiv (gcT c x.d)))++rt):=by
   unfold stepT
   rw [if_neg hc]
   rfl
  rw [e] at fin
  clear e
  have bca:Bd 20 (c.natAbs:Int):=bc.le (y:=(c.natAbs:Int)) (by simp)
  have G:=fun w=>zfy c x.d w (bc.mono (by omega)) (bx.h4.mono (by omega))
  have A:=fun w=>zqX c w
  have O1:=fun w=>zcg (c.natAbs:Int) (gcT c x.d) w (bca.mono (by omega)) (F.bg.mono (by omega)) F.g0
  have O2:=fun w=>zcg x.d (gcT c x.d) w (bx.h4.mono (by omega)) (F.bg.mono (by omega)) F.g0
  have P1:=fun w' (hc:Chg [] w0 w')=>zhM ((c.natAbs:Int).fdiv (gcT c x.d)) w' (F.bn.mono (by omega)) (ht.below (Chg.bl0 hc))
  have P2:=fun w' (hc:Chg [] w0 w')=>zhM (x.d.fdiv (gcT c x.d)) w' (F.be.mono (by omega)) (ht.below (Chg.bl0 hc))
  have ln:=zcQ (by have:=F.n1;omega) F.bn
  have le:=zcQ (by have:=F.e1;omega) F.be
  have lv:=zi3 (by have:=F.n1;omega) F.bn (by have:=F.e1;omega) F.be
  rw [zrr]
  refine zdX _ _ ?_
  by_cases h1:x.d.fdiv (gcT c x.d)=1
  ·rw [h1] at O2 fin lv
   have e2:valT ((c.natAbs:Int).fdiv (gcT c x.d)) 1=Lib.itoa ((c.natAbs:Int).fdiv (gcT c x.d)):=by unfold valT;rw [if_pos rfl]
   rw [e2] at fin lv
   exact zrB hS2 hM2 (zdV hc) G A O1 O2 P1 (fun a2 w2 g1 g2=>zam (zna (by omega) (by omega) lr g1 g2 (fun a3 w3 k1 k2=>zbk (zam (fin a3 w3 k1 k2)))))
  ·have e2:valT ((c.natAbs:Int).fdiv (gcT c x.d)) (x.d.fdiv (gcT c x.d))=Lib.itoa ((c.natAbs:Int).fdiv (gcT c x.d))++47 :: Lib.itoa (x.d.fdiv (gcT c x.d)):=by unfold valT;rw [if_neg h1]
   rw [e2] at fin lv
   exact zrM hS2 hM2 (zdV hc) G A O1 O2 h1 (by omega) (by omega) P1 P2 (fun a2 w2 g1 g2=>zam (zna (by omega) (by omega) lr g1 g2 (fun a3 w3 k1 k2=>zbk (zam (fin a3 w3 k1 k2)))))
end
theorem znf {s rt:List UInt8} {c d:Int} (lr:rt.length≤10) (hd:0<d) (bc:Bd 20 c) (bd:Bd 20 d):(stepT s rt c d).length≤s.length+140:=by
 unfold stepT
 split
 ·omega
 ·rename_i hc
  have F:=cf hc hd bc bd
  have lv:=zrI (rt:=rt) (by have:=F.n1;omega) F.bn (by have:=F.e1;omega) F.be
  have ls:=zij s c
  rw [List.length_append,List.length_append]
  omega
theorem ziS (i:Nat):(rtT i).length≤10:=by
 unfold rtT
 split <;> simp
theorem zie {x:Nm} (b:BN 20 x) (i:Nat):Bd 20 (cofT x i):=by
 unfold cofT
 split
 ·exact b.h0
 ·exact b.h1
 ·exact b.h2
 ·exact b.h3
theorem zgi {x:Nm} (ox:Ok x) (b:BN 20 x):∀ i,(accT x i).length≤140 * i
 | 0=>Nat.le_refl _
 | i+1=>by
  have:=zgi ox b i
  have h:=znf (s:=accT x i) (ziS i) ox.pos (zie b i) b.h4
  show (stepT _ _ _ _).length≤_
  omega
theorem zeo (x:Nm) (w:World) (ht:HasTab w) (ox:Ok x) (bx:BN 20 x):Calls Tryz.prog 53 #[vN x] w (RetV (.string ⟨(printT x).toArray⟩) w):=by
 have V:=fun w=>zbb x w (bx.mono (by omega)) ox
 refine zbp [vN x] (fn:=Tryz.f53) (c:=fpC) kr kr nle ?_
 intro a hS
 refine zaT 0 kr ?_
 have key:∀ (rn:Nat→Nat) a1 w1,St fpN (fpS rn [] 0) a1→MemOk ⟨w,[]⟩ rn (fpM x) w1→(cAt 0 fpC).wp Tryz.prog (Exit.then (fun a2 w2=>wpL Tryz.prog (cPost 0 fpC) (bodyPost Tryz.prog Tryz.f53 (RetV (.string ⟨(printT x).toArray⟩) w)) a2 w2) (bodyPost Tryz.prog Tryz.f53 (RetV (.string ⟨(printT x).toArray⟩) w))) a1 w1:=by
  intro rn a1 w1 hS1 hM1
  refine zbD 0 kr kr (fun n a' w'=>∃ rn i,4 - i=n∧i≤4∧St fpN (fpS rn (accT x i) i) a'∧MemOk ⟨w,[]⟩ rn (fpM x) w') 4 ⟨rn,0,rfl,by omega,hS1,hM1⟩ ?_
  clear hS1 hM1
  rintro n a2 w2 ⟨rn,i,rfl,hi,hS2,hM2⟩
  have la:=zgi ox bx i
  show fpR.wp _ _ a2 w2
  rcases Nat.lt_or_ge i 4 with h4 | h4
  ·exact zoM ht rfl h4 (by omega) (ziS i) ox bx (zie bx i) hS2 hM2 (fun rn' a3 w3 h1 h2=>⟨4 - (i+1),by omega,rn',i+1,rfl,by omega,h1,h2⟩)
  ·obtain rfl:i=4:=by omega
   refine zaA (zrF hS2 hM2 fun a3 w3 h1 h2=>zbP (zam ?_))
   unfold printT
   by_cases h:accT x 4 = []
   ·rw [if_pos h]
    exact zpa h1 h2 h (fun w' hc=>⟨rfl,hc.below (Nat.le_refl _) (fun x h=>by cases h)⟩)
   ·rw [if_neg h]
    exact zom h1 h2 h (fun w' hc=>⟨rfl,hc.below (Nat.le_refl _) (fun x h=>by cases h)⟩)
 unfold fpS fpM at key
 refine vf (X:=⟨w,[]⟩) [] fpN (cPre 0 fpC) (fun r=>[(0,(vN x,0))]) (fun r=>[]) 0 (fun _=>0) (hS) (⟨Chg.refl _ _,fun k x h=>(by cases h),fun k k' x x' h=>by cases h⟩) [.f] [cV (V)] (VEx.n) (fun r=>[(1,(.pointer (some ⟨r 0,0,none⟩),1)),(3,(.string ⟨#[]⟩,0)),(14,(.slice (some ⟨r 6,0,none⟩) 4 4,7)),(15,(.int .i64 (4),0)),(16,(.int .i64 (((0:Nat):Int)),0))]) [] (fun r=>[(0,(26,xcN x)),(6,(9,rts))]) ?_
 intro rn a1 w1 hr hS1 hK1 hM1
 exact key rn a1 w1 hS1 hM1

theorem groot0 (w:World):Calls Tryz.prog 117 #[.int .i64 0] w (RetV (.string ⟨#[]⟩) w):=by
 exact zac kr Tryz.func117 rfl [.int .i64 0] nle [] [] []
noncomputable def grN:Nat:=Tryz.f56.ntmps
noncomputable def grC:Code:=Tryz.f56.body.getD .skip
noncomputable def gr0:Code:=cB 0 grC
noncomputable def grR:Code:=cI (cI gr0)
noncomputable def gr1:Code:=cI (cAt 1 grR)
def grM (x:Nm):Mem:=[(0,(26,xcN x))]
def grS (rn:Nat→Nat) (s:List UInt8) (i:Nat):Env:=[(1,(.pointer (some ⟨rn 0,0,none⟩),1)),(3,(.string ⟨s.toArray⟩,0)),(4,(.int .i64 (i:Int),0))]
def grS1 (rn:Nat→Nat) (s:List UInt8) (i:Nat):Env:=grS rn s i ++ [(5,(.pointer (some ⟨rn 104,0,none⟩),105)),(7,(.pointer (some ⟨rn 123,0,none⟩),124)),(8,(.pointer (some ⟨rn 124,0,none⟩),125))]
def grM1 (x:Nm) (c n d:Int):Mem:=grM x ++ [(104,(23,cI1 c)),(123,(23,cI1 n)),(124,(23,cI1 d))]
section
variable {X:Cx} {rn:Nat→Nat} {s rt v:List UInt8} {i:Nat} {x:Nm} {c n d:Int} {a:Act} {w:World} {Q:Exit→Act→World→Prop} {post:Ending→World→Prop}
def grS2 (rn:Nat→Nat) (s:List UInt8) (i:Nat):Env:=grS rn s i ++ [(5,(.pointer (some ⟨rn 104,0,none⟩),105))]
def grM2 (x:Nm) (c:Int):Mem:=grM x ++ [(104,(23,cI1 c))]
theorem zsy (hi:i<4) (hS:St grN (grS rn s i) a) (hM:MemOk X rn (grM x) w) (hQ:∀ a' w',St grN (grS rn s i) a'→MemOk X rn (grM x) w'→Q .normal a' w'):wpL Tryz.prog (cPre 1 grR) Q a w:=by
 unfold grS grM at *
 have h:=zsD hi
 refine vk (X:=X) [] grN (cPre 1 grR) (fun r=>[(1,(.pointer (some ⟨r 0,0,none⟩),1)),(3,(.string ⟨s.toArray⟩,0)),(4,(.int .i64 ((i:Int)),0))]) (fun r=>[(0,(26,xcN x))]) 100 (rn) (hS) (hM) [(.p _ true h)] [] (VEx.n) (fun r=>[(1,(.pointer (some ⟨r 0,0,none⟩),1)),(3,(.string ⟨s.toArray⟩,0)),(4,(.int .i64 ((i:Int)),0))]) [] (fun r=>[(0,(26,xcN x))]) ?_
 intro a3 w3 hS3 hK3 hM3
 exact hQ a3 w3 hS3 hM3
theorem zrw (hi:i<4) (hS:St grN (grS rn s i) a) (hM:MemOk X rn (grM x) w) (hQ:∀ a' w',St grN (grS rn s (i+1)) a'→MemOk X rn (grM x) w'→Q .normal a' w'):wpL Tryz.prog (cPost 1 grR) Q a w:=by
 unfold grS grM at *
 have v1:=zrH hi
 refine vk (X:=X) [(6,1)] grN (cPost 1 grR) (fun r=>[(1,(.pointer (some ⟨r 0,0,none⟩),1)),(3,(.string ⟨s.toArray⟩,0)),(4,(.int .i64 ((i:Int)),0))]) (fun r=>[(0,(26,xcN x))]) 100 (rn) (hS) (hM) [] [lE .i64 ((((i:Int)):Int)+((1):Int)) (((i+1:Nat):Int)) (v1)] (VEx.n) (fun r=>[(1,(.pointer (some ⟨r 0,0,none⟩),1)),(3,(.string ⟨s.toArray⟩,0)),(4,(.int .i64 (((i+1:Nat):Int)),0))]) [] (fun r=>[(0,(26,xcN x))]) ?_
 intro a3 w3 hS3 hK3 hM3
 exact hQ a3 w3 hS3 hM3
theorem zoT (hS:St grN (grS rn s 0) a) (hM:MemOk X rn (grM x) w) (hQ:∀ rn' a' w',St grN (grS2 rn' s 0) a'→MemOk X rn' (grM2 x x.c0) w'→Q .normal a' w'):wpL Tryz.prog ((cPre 2 gr1).take 1) Q a w:=by
 unfold grS grM at *
 unfold grS2 grM2 grS grM at hQ
 refine vf (X:=X) [] grN ((cPre 2 gr1).take 1) (fun r=>[(1,(.pointer (some ⟨r 0,0,none⟩),1)),(3,(.string ⟨s.toArray⟩,0)),(4,(.int .i64 (0),0))]) (fun r=>[(0,(26,xcN x))]) 100 (rn) (hS) (hM) [] [] (VEx.n) (fun r=>[(1,(.pointer (some ⟨r 0,0,none⟩),1)),(3,(.string ⟨s.toArray⟩,0)),(4,(.int .i64 (0),0)),(5,(.pointer (some ⟨r 104,0,none⟩),105))]) [] (fun r=>[(0,(26,xcN x)),(104,(23,cI1 x.c0))]) ?_
 intro rn' a3 w3 hr hS3 hK3 hM3
 exact hQ rn' a3 w3 hS3 hM3
theorem zos (hS:St grN (grS rn s 1) a) (hM:MemOk X rn (grM x) w) (hQ:∀ rn' a' w',St grN (grS2 rn' s 1) a'→MemOk X rn' (grM2 x x.c1) w'→Q .normal a' w'):wpL Tryz.prog ((cPre 2 gr1).take 1) Q a w:=by
 unfold grS grM at *
 unfold grS2 grM2 grS grM at hQ
 refine vf (X:=X) [] grN ((cPre 2 gr1).take 1) (fun r=>[(1,(.pointer (some ⟨r 0,0,none⟩),1)),(3,(.string ⟨s.toArray⟩,0)),(4,(.int .i64 (1),0))]) (fun r=>[(0,(26,xcN x))]) 100 (rn) (hS) (hM) [] [] (VEx.n) (fun r=>[(1,(.pointer (some ⟨r 0,0,none⟩),1)),(3,(.string ⟨s.toArray⟩,0)),(4,(.int .i64 (1),0)),(5,(.pointer (some ⟨r 104,0,none⟩),105))]) [] (fun r=>[(0,(26,xcN x)),(104,(23,cI1 x.c1))]) ?_
 intro rn' a3 w3 hr hS3 hK3 hM3
 exact hQ rn' a3 w3 hS3 hM3
theorem znL (hS:St grN (grS rn s 2) a) (hM:MemOk X rn (grM x) w) (hQ:∀ rn' a' w',St grN (grS2 rn' s 2) a'→MemOk X rn' (grM2 x x.c2) w'→Q .normal a' w'):wpL Tryz.prog ((cPre 2 gr1).take 1) Q a w:=by
 unfold grS grM at *
 unfold grS2 grM2 grS grM at hQ
 refine vf (X:=X) [] grN ((cPre 2 gr1).take 1) (fun r=>[(1,(.pointer (some ⟨r 0,0,none⟩),1)),(3,(.string ⟨s.toArray⟩,0)),(4,(.int .i64 (2),0))]) (fun r=>[(0,(26,xcN x))]) 100 (rn) (hS) (hM) [] [] (VEx.n) (fun r=>[(1,(.pointer (some ⟨r 0,0,none⟩),1)),(3,(.string ⟨s.toArray⟩,0)),(4,(.int .i64 (2),0)),(5,(.pointer (some ⟨r 104,0,none⟩),105))]) [] (fun r=>[(0,(26,xcN x)),(104,(23,cI1 x.c2))]) ?_
 intro rn' a3 w3 hr hS3 hK3 hM3
 exact hQ rn' a3 w3 hS3 hM3
theorem zpg (hS:St grN (grS rn s 3) a) (hM:MemOk X rn (grM x) w) (hQ:∀ rn' a' w',St grN (grS2 rn' s 3) a'→MemOk X rn' (grM2 x x.c3) w'→Q .normal a' w'):wpL Tryz.prog ((cPre 2 gr1).take 1) Q a w:=by
 unfold grS grM at *
 unfold grS2 grM2 grS grM at hQ
 refine vf (X:=X) [] grN ((cPre 2 gr1).take 1) (fun r=>[(1,(.pointer (some ⟨r 0,0,none⟩),1)),(3,(.string ⟨s.toArray⟩,0)),(4,(.int .i64 (3),0))]) (fun r=>[(0,(26,xcN x))]) 100 (rn) (hS) (hM) [] [] (VEx.n) (fun r=>[(1,(.pointer (some ⟨r 0,0,none⟩),1)),(3,(.string ⟨s.toArray⟩,0)),(4,(.int .i64 (3),0)),(5,(.pointer (some ⟨r 104,0,none⟩),105))]) [] (fun r=>[(0,(26,xcN x)),(104,(23,cI1 x.c3))]) ?_
 intro rn' a3 w3 hr hS3 hK3 hM3
 exact hQ rn' a3 w3 hS3 hM3
theorem zqd (hi:i<4) (hS:St grN (grS rn s i) a) (hM:MemOk X rn (grM x) w) (hQ:∀ rn' a' w',St grN (grS2 rn' s i) a'→MemOk X rn' (grM2 x (cofT x i)) w'→Q .normal a' w'):wpL Tryz.prog ((cPre 2 gr1).take 1) Q a w:=by
 have hc:i=0∨i=1∨i=2∨i=3:=by omega
 rcases hc with rfl | rfl | rfl | rfl
 ·exact zoT hS hM hQ
 ·exact zos hS hM hQ
 ·exact znL hS hM hQ
 ·exact zpg hS hM hQ
theorem zqq (hS:St grN (grS2 rn s i) a) (hM:MemOk X rn (grM2 x c) w) (S0:∀ w,Calls Tryz.prog 118 #[vI c] w (RetN 0 w)) (hQ:∀ a' w',St grN (grS rn s i) a'→MemOk X rn (grM x) w'→Q (.exit 1) a' w'):wpL Tryz.prog ((cPre 2 gr1).drop 1) Q a w:=by
 unfold grS2 grM2 grS grM at *
 refine vk (X:=X) [] grN ((cPre 2 gr1).drop 1) (fun r=>[(1,(.pointer (some ⟨r 0,0,none⟩),1)),(3,(.string ⟨s.toArray⟩,0)),(4,(.int .i64 ((i:Int)),0)),(5,(.pointer (some ⟨r 104,0,none⟩),105))]) (fun r=>[(0,(26,xcN x)),(104,(23,cI1 c))]) 106 (rn) (hS) (hM) [.t] [cV (S0)] (VEx.x 1) (fun r=>[(1,(.pointer (some ⟨r 0,0,none⟩),1)),(3,(.string ⟨s.toArray⟩,0)),(4,(.int .i64 ((i:Int)),0))]) [] (fun r=>[(0,(26,xcN x))]) ?_
 intro a3 w3 hS3 hK3 hM3
 exact hQ a3 w3 hS3 hM3
theorem zsk {g n0 sc:Int} (hS:St grN (grS2 rn s i) a) (hM:MemOk X rn (grM2 x c) w) (S0:∀ w,Calls Tryz.prog 118 #[vI c] w (RetN sc w)) (hs:(sc == 0)=false)
  (G:∀ w,Calls Tryz.prog 119 #[vI c,vI x.d] w (RetI g w)) (A:∀ w,Calls Tryz.prog 121 #[vI c] w (RetI n0 w)) (O1:∀ w,Calls Tryz.prog 120 #[vI n0,vI g] w (RetI n w)) (O2:∀ w,Calls Tryz.prog 120 #[vI x.d,vI g] w (RetI d w))
  (hQ:∀ rn' a' w',St grN (grS1 rn' s i) a'→MemOk X rn' (grM1 x c n d) w'→Q .normal a' w'):wpL Tryz.prog ((cPre 2 gr1).drop 1) Q a w:=by
 unfold grS2 grM2 grS grM at *
 unfold grS1 grM1 grS grM at hQ
 refine vf (X:=X) [] grN ((cPre 2 gr1).drop 1) (fun r=>[(1,(.pointer (some ⟨r 0,0,none⟩),1)),(3,(.string ⟨s.toArray⟩,0)),(4,(.int .i64 ((i:Int)),0)),(5,(.pointer (some ⟨r 104,0,none⟩),105))]) (fun r=>[(0,(26,xcN x)),(104,(23,cI1 c))]) 106 (rn) (hS) (hM) [(.p _ false hs)] [cV (S0),cV (G),cV (A),cV (O1),cV (O2)] (VEx.n) (fun r=>[(1,(.pointer (some ⟨r 0,0,none⟩),1)),(3,(.string ⟨s.toArray⟩,0)),(4,(.int .i64 ((i:Int)),0)),(5,(.pointer (some ⟨r 104,0,none⟩),105)),(7,(.pointer (some ⟨r 123,0,none⟩),124)),(8,(.pointer (some ⟨r 124,0,none⟩),125))]) [] (fun r=>[(0,(26,xcN x)),(104,(23,cI1 c)),(123,(23,cI1 n)),(124,(23,cI1 d))]) ?_
 intro rn' a3 w3 hr hS3 hK3 hM3
 exact hQ rn' a3 w3 hS3 hM3
theorem zn5 {sc:Int} (ls:s.length≤4000000) (hS:St grN (grS1 rn s i) a) (hM:MemOk X rn (grM1 x c n d) w) (S0:∀ w,Calls Tryz.prog 118 #[vI c] w (RetN sc w)) (h1:decide (sc<0)=true) (hQ:∀ a' w',St grN (grS1 rn (s ++ [45]) i) a'→MemOk X rn (grM1 x c n d) w'→Q .normal a' w'):wpL Tryz.prog [cAt 2 gr1] Q a w:=by
 unfold grS1 grM1 grS grM at *
 have e3:=zaN s [45] (by omega) (by simp)
 generalize s ++ [45]=z at *
 skip
 refine vk (X:=X) [(12,1)] grN [cAt 2 gr1] (fun r=>[(1,(.pointer (some ⟨r 0,0,none⟩),1)),(3,(.string ⟨s.toArray⟩,0)),(4,(.int .i64 ((i:Int)),0)),(5,(.pointer (some ⟨r 104,0,none⟩),105)),(7,(.pointer (some ⟨r 123,0,none⟩),124)),(8,(.pointer (some ⟨r 124,0,none⟩),125))]) (fun r=>[(0,(26,xcN x)),(104,(23,cI1 c)),(123,(23,cI1 n)),(124,(23,cI1 d))]) 200 (rn) (hS) (hM) [(.p _ true h1)] [cV (S0),lV (Op.stringOp .add ⟨s.toArray⟩ ⟨#[45]⟩) (.string ⟨z.toArray⟩) (fun w hC=>e3 w)] (VEx.n) (fun r=>[(1,(.pointer (some ⟨r 0,0,none⟩),1)),(3,(.string ⟨z.toArray⟩,0)),(4,(.int .i64 ((i:Int)),0)),(5,(.pointer (some ⟨r 104,0,none⟩),105)),(7,(.pointer (some ⟨r 123,0,none⟩),124)),(8,(.pointer (some ⟨r 124,0,none⟩),125))]) [] (fun r=>[(0,(26,xcN x)),(104,(23,cI1 c)),(123,(23,cI1 n)),(124,(23,cI1 d))]) ?_
 intro a3 w3 hS3 hK3 hM3
 exact hQ a3 w3 hS3 hM3
theorem zn6 {sc:Int} (ls:s.length≤4000000) (hS:St grN (grS1 rn s i) a) (hM:MemOk X rn (grM1 x c n d) w) (S0:∀ w,Calls Tryz.prog 118 #[vI c] w (RetN sc w)) (h1:decide (sc<0)=false) (h2:s ≠ []) (hQ:∀ a' w',St grN (grS1 rn (s ++ [43]) i) a'→MemOk X rn (grM1 x c n d) w'→Q .normal a' w'):wpL Tryz.prog [cAt 2 gr1] Q a w:=by
 unfold grS1 grM1 grS grM at *
 have e2:(!((ByteArray.mk s.toArray).toList == (ByteArray.mk #[]).toList))=true:=by rw [zaJ];simpa using h2
 have e3:=zaN s [43] (by omega) (by simp)
 generalize s ++ [43]=z at *
 refine vk (X:=X) [(13,1),(14,1)] grN [cAt 2 gr1] (fun r=>[(1,(.pointer (some ⟨r 0,0,none⟩),1)),(3,(.string ⟨s.toArray⟩,0)),(4,(.int .i64 ((i:Int)),0)),(5,(.pointer (some ⟨r 104,0,none⟩),105)),(7,(.pointer (some ⟨r 123,0,none⟩),124)),(8,(.pointer (some ⟨r 124,0,none⟩),125))]) (fun r=>[(0,(26,xcN x)),(104,(23,cI1 c)),(123,(23,cI1 n)),(124,(23,cI1 d))]) 200 (rn) (hS) (hM) [(.p _ false h1),.t] [cV (S0),lP (.bool (!((ByteArray.mk s.toArray).toList == (ByteArray.mk #[]).toList))) (.bool true) (congrArg Value.bool e2),lV (Op.stringOp .add ⟨s.toArray⟩ ⟨#[43]⟩) (.string ⟨z.toArray⟩) (fun w hC=>e3 w)] (VEx.n) (fun r=>[(1,(.pointer (some ⟨r 0,0,none⟩),1)),(3,(.string ⟨z.toArray⟩,0)),(4,(.int .i64 ((i:Int)),0)),(5,(.pointer (some ⟨r 104,0,none⟩),105)),(7,(.pointer (some ⟨r 123,0,none⟩),124)),(8,(.pointer (some ⟨r 124,0,none⟩),125))]) [] (fun r=>[(0,(26,xcN x)),(104,(23,cI1 c)),(123,(23,cI1 n)),(124,(23,cI1 d))]) ?_
 intro a3 w3 hS3 hK3 hM3
 exact hQ a3 w3 hS3 hM3
theorem zoN {sc:Int} (ls:s.length≤4000000) (hS:St grN (grS1 rn s i) a) (hM:MemOk X rn (grM1 x c n d) w) (S0:∀ w,Calls Tryz.prog 118 #[vI c] w (RetN sc w)) (h1:decide (sc<0)=false) (h2:s = []) (hQ:∀ a' w',St grN (grS1 rn s i) a'→MemOk X rn (grM1 x c n d) w'→Q .normal a' w'):wpL Tryz.prog [cAt 2 gr1] Q a w:=by
 unfold grS1 grM1 grS grM at *
 have e2:(!((ByteArray.mk s.toArray).toList == (ByteArray.mk #[]).toList))=false:=by rw [zaJ,h2];rfl
 skip
 skip
 refine vk (X:=X) [(13,1)] grN [cAt 2 gr1] (fun r=>[(1,(.pointer (some ⟨r 0,0,none⟩),1)),(3,(.string ⟨s.toArray⟩,0)),(4,(.int .i64 ((i:Int)),0)),(5,(.pointer (some ⟨r 104,0,none⟩),105)),(7,(.pointer (some ⟨r 123,0,none⟩),124)),(8,(.pointer (some ⟨r 124,0,none⟩),125))]) (fun r=>[(0,(26,xcN x)),(104,(23,cI1 c)),(123,(23,cI1 n)),(124,(23,cI1 d))]) 200 (rn) (hS) (hM) [(.p _ false h1),.f] [cV (S0),lP (.bool (!((ByteArray.mk s.toArray).toList == (ByteArray.mk #[]).toList))) (.bool false) (congrArg Value.bool e2)] (VEx.n) (fun r=>[(1,(.pointer (some ⟨r 0,0,none⟩),1)),(3,(.string ⟨s.toArray⟩,0)),(4,(.int .i64 ((i:Int)),0)),(5,(.pointer (some ⟨r 104,0,none⟩),105)),(7,(.pointer (some ⟨r 123,0,none⟩),124)),(8,(.pointer (some ⟨r 124,0,none⟩),125))]) [] (fun r=>[(0,(26,xcN x)),(104,(23,cI1 c)),(123,(23,cI1 n)),(124,(23,cI1 d))]) ?_
 intro a3 w3 hS3 hK3 hM3
 exact hQ a3 w3 hS3 hM3
theorem zly {pn:List UInt8} (ls:s.length≤1000000) (lp:pn.length≤1000) (lr:rt.length≤10) (GR:∀ w,Calls Tryz.prog 117 #[.int .i64 (i:Int)] w (RetV (.string ⟨rt.toArray⟩) w)) (hi:((i:Int) == 0)=true) (hS:St grN (grS1 rn s i) a) (hM:MemOk X rn (grM1 x c n 1) w) (P1:∀ w,Chg X.L X.w0 w→Calls Tryz.prog 122 #[vI n] w (RetV (.string ⟨pn.toArray⟩) w))
  (hQ:∀ a' w',St grN (grS rn ((s++pn)++rt) i) a'→MemOk X rn (grM x) w'→Q .normal a' w'):wpL Tryz.prog (cPost 2 gr1) Q a w:=by
 unfold grS1 grM1 grS grM at *
 have O:=fun w=>zar 1 w (by omega) (by omega)
 have e1:=zaN s pn (by omega) (by omega)
 have e2:=zaN (s++pn) rt (by rw [List.length_append];omega) (by omega)
 generalize s++pn=z1 at *
 generalize z1++rt=z2 at *
 refine vk (X:=X) [(17,3),(18,2),(20,3)] grN (cPost 2 gr1) (fun r=>[(1,(.pointer (some ⟨r 0,0,none⟩),1)),(3,(.string ⟨s.toArray⟩,0)),(4,(.int .i64 ((i:Int)),0)),(5,(.pointer (some ⟨r 104,0,none⟩),105)),(7,(.pointer (some ⟨r 123,0,none⟩),124)),(8,(.pointer (some ⟨r 124,0,none⟩),125))]) (fun r=>[(0,(26,xcN x)),(104,(23,cI1 c)),(123,(23,cI1 n)),(124,(23,cI1 1))]) 200 (rn) (hS) (hM) [(.p _ true hi),(.p _ true hi),(.p _ true hi),(.p _ true hi),.t,.t,.t,.t,.t,.f] [cV (O),cW P1,lV (Op.stringOp .add ⟨s.toArray⟩ ⟨pn.toArray⟩) (.string ⟨z1.toArray⟩) (fun w hC=>e1 w),lV _ (.bool false) (fun w hC=>zcm (1) (.tmp 64) (.tmp 65) w),cV (GR),lV (Op.stringOp .add ⟨z1.toArray⟩ ⟨rt.toArray⟩) (.string ⟨z2.toArray⟩) (fun w hC=>e2 w)] (VEx.n) (fun r=>[(1,(.pointer (some ⟨r 0,0,none⟩),1)),(3,(.string ⟨z2.toArray⟩,0)),(4,(.int .i64 ((i:Int)),0))]) [] (fun r=>[(0,(26,xcN x))]) ?_
 intro a3 w3 hS3 hK3 hM3
 exact hQ a3 w3 hS3 hM3
theorem zmF {pn:List UInt8} (ls:s.length≤1000000) (lp:pn.length≤1000) (lr:rt.length≤10) (GR:∀ w,Calls Tryz.prog 117 #[.int .i64 (i:Int)] w (RetV (.string ⟨rt.toArray⟩) w)) (hi:((i:Int) == 0)=false) (hn:n≠1) (hS:St grN (grS1 rn s i) a) (hM:MemOk X rn (grM1 x c n 1) w) (P1:∀ w,Chg X.L X.w0 w→Calls Tryz.prog 122 #[vI n] w (RetV (.string ⟨pn.toArray⟩) w))
  (hQ:∀ a' w',St grN (grS rn ((s++pn)++rt) i) a'→MemOk X rn (grM x) w'→Q .normal a' w'):wpL Tryz.prog (cPost 2 gr1) Q a w:=by
 unfold grS1 grM1 grS grM at *
 have O:=fun w=>zar 1 w (by omega) (by omega)
 have e1:=zaN s pn (by omega) (by omega)
 have e2:=zaN (s++pn) rt (by rw [List.length_append];omega) (by omega)
 generalize s++pn=z1 at *
 generalize z1++rt=z2 at *
 refine vk (X:=X) [(16,5),(17,3),(18,2),(20,3)] grN (cPost 2 gr1) (fun r=>[(1,(.pointer (some ⟨r 0,0,none⟩),1)),(3,(.string ⟨s.toArray⟩,0)),(4,(.int .i64 ((i:Int)),0)),(5,(.pointer (some ⟨r 104,0,none⟩),105)),(7,(.pointer (some ⟨r 123,0,none⟩),124)),(8,(.pointer (some ⟨r 124,0,none⟩),125))]) (fun r=>[(0,(26,xcN x)),(104,(23,cI1 c)),(123,(23,cI1 n)),(124,(23,cI1 1))]) 200 (rn) (hS) (hM) [(.p _ false hi),(.p _ false hi),(.p _ false hi),(.p _ false hi),.t,.t,.t,.t,.t,.f] [cV (O),lV _ (.bool true) (fun w hC=>zb1 (n) (1) (hn) (.tmp 51) (.tmp 52) w),cW P1,lV (Op.stringOp .add ⟨s.toArray⟩ ⟨pn.toArray⟩) (.string ⟨z1.toArray⟩) (fun w hC=>e1 w),lV _ (.bool false) (fun w hC=>zcm (1) (.tmp 64) (.tmp 65) w),cV (GR),lV (Op.stringOp .add ⟨z1.toArray⟩ ⟨rt.toArray⟩) (.string ⟨z2.toArray⟩) (fun w hC=>e2 w)] (VEx.n) (fun r=>[(1,(.pointer (some ⟨r 0,0,none⟩),1)),(3,(.string ⟨z2.toArray⟩,0)),(4,(.int .i64 ((i:Int)),0))]) [] (fun r=>[(0,(26,xcN x))]) ?_
 intro a3 w3 hS3 hK3 hM3
 exact hQ a3 w3 hS3 hM3
theorem zm6 {pn pd:List UInt8} (ls:s.length≤1000000) (lp:pn.length≤1000) (lq:pd.length≤1000) (lr:rt.length≤10) (GR:∀ w,Calls Tryz.prog 117 #[.int .i64 (i:Int)] w (RetV (.string ⟨rt.toArray⟩) w)) (hi:((i:Int) == 0)=true) (hS:St grN (grS1 rn s i) a) (hM:MemOk X rn (grM1 x c n d) w) (hd:d≠1) (P1:∀ w,Chg X.L X.w0 w→Calls Tryz.prog 122 #[vI n] w (RetV (.string ⟨pn.toArray⟩) w)) (P2:∀ w,Chg X.L X.w0 w→Calls Tryz.prog 122 #[vI d] w (RetV (.string ⟨pd.toArray⟩) w))
  (hQ:∀ a' w',St grN (grS rn (((s++pn)++(47 :: pd))++rt) i) a'→MemOk X rn (grM x) w'→Q .normal a' w'):wpL Tryz.prog (cPost 2 gr1) Q a w:=by
 unfold grS1 grM1 grS grM at *
 have O:=fun w=>zar 1 w (by omega) (by omega)
 have e0:∀ w,(Op.stringOp .add ⟨#[47]⟩ ⟨pd.toArray⟩).run Tryz.prog w = .ok (.string ⟨(47 :: pd).toArray⟩) w:=zaN [47] pd (by simp) (by omega)
 have e1:=zaN s pn (by omega) (by omega)
 have e2:=zaN (s++pn) (47 :: pd) (by rw [List.length_append];omega) (by rw [List.length_cons];omega)
 have e3:=zaN ((s++pn)++(47 :: pd)) rt (by rw [List.length_append,List.length_append,List.length_cons];omega) (by omega)
 generalize 47 :: pd=q at *
 generalize s++pn=z1 at *
 generalize z1++q=z2 at *
 generalize z2++rt=z3 at *
 refine vk (X:=X) [(17,3),(18,2),(19,3),(19,4),(20,3)] grN (cPost 2 gr1) (fun r=>[(1,(.pointer (some ⟨r 0,0,none⟩),1)),(3,(.string ⟨s.toArray⟩,0)),(4,(.int .i64 ((i:Int)),0)),(5,(.pointer (some ⟨r 104,0,none⟩),105)),(7,(.pointer (some ⟨r 123,0,none⟩),124)),(8,(.pointer (some ⟨r 124,0,none⟩),125))]) (fun r=>[(0,(26,xcN x)),(104,(23,cI1 c)),(123,(23,cI1 n)),(124,(23,cI1 d))]) 200 (rn) (hS) (hM) [(.p _ true hi),(.p _ true hi),(.p _ true hi),(.p _ true hi),.t,.t,.t,.t,.t,.t] [cV (O),cW P1,lV (Op.stringOp .add ⟨s.toArray⟩ ⟨pn.toArray⟩) (.string ⟨z1.toArray⟩) (fun w hC=>e1 w),lV _ (.bool true) (fun w hC=>zb1 (d) (1) (hd) (.tmp 64) (.tmp 65) w),cW P2,lV (Op.stringOp .add ⟨#[47]⟩ ⟨pd.toArray⟩) (.string ⟨q.toArray⟩) (fun w hC=>e0 w),lV (Op.stringOp .add ⟨z1.toArray⟩ ⟨q.toArray⟩) (.string ⟨z2.toArray⟩) (fun w hC=>e2 w),cV (GR),lV (Op.stringOp .add ⟨z2.toArray⟩ ⟨rt.toArray⟩) (.string ⟨z3.toArray⟩) (fun w hC=>e3 w)] (VEx.n) (fun r=>[(1,(.pointer (some ⟨r 0,0,none⟩),1)),(3,(.string ⟨z3.toArray⟩,0)),(4,(.int .i64 ((i:Int)),0))]) [] (fun r=>[(0,(26,xcN x))]) ?_
 intro a3 w3 hS3 hK3 hM3
 exact hQ a3 w3 hS3 hM3
theorem znp {pn pd:List UInt8} (ls:s.length≤1000000) (lp:pn.length≤1000) (lq:pd.length≤1000) (lr:rt.length≤10) (GR:∀ w,Calls Tryz.prog 117 #[.int .i64 (i:Int)] w (RetV (.string ⟨rt.toArray⟩) w)) (hi:((i:Int) == 0)=false) (hn:n≠1) (hS:St grN (grS1 rn s i) a) (hM:MemOk X rn (grM1 x c n d) w) (hd:d≠1) (P1:∀ w,Chg X.L X.w0 w→Calls Tryz.prog 122 #[vI n] w (RetV (.string ⟨pn.toArray⟩) w)) (P2:∀ w,Chg X.L X.w0 w→Calls Tryz.prog 122 #[vI d] w (RetV (.string ⟨pd.toArray⟩) w))
  (hQ:∀ a' w',St grN (grS rn (((s++pn)++(47 :: pd))++rt) i) a'→MemOk X rn (grM x) w'→Q .normal a' w'):wpL Tryz.prog (cPost 2 gr1) Q a w:=by
 unfold grS1 grM1 grS grM at *
 have O:=fun w=>zar 1 w (by omega) (by omega)
 have e0:∀ w,(Op.stringOp .add ⟨#[47]⟩ ⟨pd.toArray⟩).run Tryz.prog w = .ok (.string ⟨(47 :: pd).toArray⟩) w:=zaN [47] pd (by simp) (by omega)
 have e1:=zaN s pn (by omega) (by omega)
 have e2:=zaN (s++pn) (47 :: pd) (by rw [List.length_append];omega) (by rw [List.length_cons];omega)
 have e3:=zaN ((s++pn)++(47 :: pd)) rt (by rw [List.length_append,List.length_append,List.length_cons];omega) (by omega)
 generalize 47 :: pd=q at *
 generalize s++pn=z1 at *
 generalize z1++q=z2 at *
 generalize z2++rt=z3 at *
 refine vk (X:=X) [(16,5),(17,3),(18,2),(19,3),(19,4),(20,3)] grN (cPost 2 gr1) (fun r=>[(1,(.pointer (some ⟨r 0,0,none⟩),1)),(3,(.string ⟨s.toArray⟩,0)),(4,(.int .i64 ((i:Int)),0)),(5,(.pointer (some ⟨r 104,0,none⟩),105)),(7,(.pointer (some ⟨r 123,0,none⟩),124)),(8,(.pointer (some ⟨r 124,0,none⟩),125))]) (fun r=>[(0,(26,xcN x)),(104,(23,cI1 c)),(123,(23,cI1 n)),(124,(23,cI1 d))]) 200 (rn) (hS) (hM) [(.p _ false hi),(.p _ false hi),(.p _ false hi),(.p _ false hi),.t,.t,.t,.t,.t,.t] [cV (O),lV _ (.bool true) (fun w hC=>zb1 (n) (1) (hn) (.tmp 51) (.tmp 52) w),cW P1,lV (Op.stringOp .add ⟨s.toArray⟩ ⟨pn.toArray⟩) (.string ⟨z1.toArray⟩) (fun w hC=>e1 w),lV _ (.bool true) (fun w hC=>zb1 (d) (1) (hd) (.tmp 64) (.tmp 65) w),cW P2,lV (Op.stringOp .add ⟨#[47]⟩ ⟨pd.toArray⟩) (.string ⟨q.toArray⟩) (fun w hC=>e0 w),lV (Op.stringOp .add ⟨z1.toArray⟩ ⟨q.toArray⟩) (.string ⟨z2.toArray⟩) (fun w hC=>e2 w),cV (GR),lV (Op.stringOp .add ⟨z2.toArray⟩ ⟨rt.toArray⟩) (.string ⟨z3.toArray⟩) (fun w hC=>e3 w)] (VEx.n) (fun r=>[(1,(.pointer (some ⟨r 0,0,none⟩),1)),(3,(.string ⟨z3.toArray⟩,0)),(4,(.int .i64 ((i:Int)),0))]) [] (fun r=>[(0,(26,xcN x))]) ?_
 intro a3 w3 hS3 hK3 hM3
 exact hQ a3 w3 hS3 hM3
theorem zmK {pn pd:List UInt8} (ls:s.length≤1000000) (lp:pn.length≤1000) (lq:pd.length≤1000) (lr:rt.length≤10) (GR:∀ w,Calls Tryz.prog 117 #[.int .i64 (i:Int)] w (RetV (.string ⟨rt.toArray⟩) w)) (hi:((i:Int) == 0)=false) (hS:St grN (grS1 rn s i) a) (hM:MemOk X rn (grM1 x c 1 d) w) (hd:d≠1) (P1:∀ w,Chg X.L X.w0 w→Calls Tryz.prog 122 #[vI 1] w (RetV (.string ⟨pn.toArray⟩) w)) (P2:∀ w,Chg X.L X.w0 w→Calls Tryz.prog 122 #[vI d] w (RetV (.string ⟨pd.toArray⟩) w))
  (hQ:∀ a' w',St grN (grS rn (((s++pn)++(47 :: pd))++rt) i) a'→MemOk X rn (grM x) w'→Q .normal a' w'):wpL Tryz.prog (cPost 2 gr1) Q a w:=by
 unfold grS1 grM1 grS grM at *
 have O:=fun w=>zar 1 w (by omega) (by omega)
 have e0:∀ w,(Op.stringOp .add ⟨#[47]⟩ ⟨pd.toArray⟩).run Tryz.prog w = .ok (.string ⟨(47 :: pd).toArray⟩) w:=zaN [47] pd (by simp) (by omega)
 have e1:=zaN s pn (by omega) (by omega)
 have e2:=zaN (s++pn) (47 :: pd) (by rw [List.length_append];omega) (by rw [List.length_cons];omega)
 have e3:=zaN ((s++pn)++(47 :: pd)) rt (by rw [List.length_append,List.length_append,List.length_cons];omega) (by omega)
 generalize 47 :: pd=q at *
 generalize s++pn=z1 at *
 generalize z1++q=z2 at *
 generalize z2++rt=z3 at *
 refine vk (X:=X) [(16,5),(16,10),(17,3),(18,2),(19,3),(19,4),(20,3)] grN (cPost 2 gr1) (fun r=>[(1,(.pointer (some ⟨r 0,0,none⟩),1)),(3,(.string ⟨s.toArray⟩,0)),(4,(.int .i64 ((i:Int)),0)),(5,(.pointer (some ⟨r 104,0,none⟩),105)),(7,(.pointer (some ⟨r 123,0,none⟩),124)),(8,(.pointer (some ⟨r 124,0,none⟩),125))]) (fun r=>[(0,(26,xcN x)),(104,(23,cI1 c)),(123,(23,cI1 1)),(124,(23,cI1 d))]) 200 (rn) (hS) (hM) [(.p _ false hi),(.p _ false hi),(.p _ false hi),(.p _ false hi),.f,.f,.f,.f,.t,.t] [cV (O),lV _ (.bool false) (fun w hC=>zcm (1) (.tmp 51) (.tmp 52) w),lV _ (.bool true) (fun w hC=>zb1 (d) (1) (hd) (.tmp 56) (.tmp 57) w),cW P1,lV (Op.stringOp .add ⟨s.toArray⟩ ⟨pn.toArray⟩) (.string ⟨z1.toArray⟩) (fun w hC=>e1 w),lV _ (.bool true) (fun w hC=>zb1 (d) (1) (hd) (.tmp 64) (.tmp 65) w),cW P2,lV (Op.stringOp .add ⟨#[47]⟩ ⟨pd.toArray⟩) (.string ⟨q.toArray⟩) (fun w hC=>e0 w),lV (Op.stringOp .add ⟨z1.toArray⟩ ⟨q.toArray⟩) (.string ⟨z2.toArray⟩) (fun w hC=>e2 w),cV (GR),lV (Op.stringOp .add ⟨z2.toArray⟩ ⟨rt.toArray⟩) (.string ⟨z3.toArray⟩) (fun w hC=>e3 w)] (VEx.n) (fun r=>[(1,(.pointer (some ⟨r 0,0,none⟩),1)),(3,(.string ⟨z3.toArray⟩,0)),(4,(.int .i64 ((i:Int)),0))]) [] (fun r=>[(0,(26,xcN x))]) ?_
 intro a3 w3 hS3 hK3 hM3
 exact hQ a3 w3 hS3 hM3
theorem zoC (ls:s.length≤1000000) (lr:rt.length≤10) (GR:∀ w,Calls Tryz.prog 117 #[.int .i64 (i:Int)] w (RetV (.string ⟨rt.toArray⟩) w)) (hi:((i:Int) == 0)=false) (hS:St grN (grS1 rn s i) a) (hM:MemOk X rn (grM1 x c 1 1) w)
  (hQ:∀ a' w',St grN (grS rn (s++rt) i) a'→MemOk X rn (grM x) w'→Q .normal a' w'):wpL Tryz.prog (cPost 2 gr1) Q a w:=by
 unfold grS1 grM1 grS grM at *
 have O:=fun w=>zar 1 w (by omega) (by omega)
 have e2:=zaN s rt (by omega) (by omega)
 generalize s++rt=z2 at *
 refine vk (X:=X) [(16,5),(16,10),(18,2),(20,3)] grN (cPost 2 gr1) (fun r=>[(1,(.pointer (some ⟨r 0,0,none⟩),1)),(3,(.string ⟨s.toArray⟩,0)),(4,(.int .i64 ((i:Int)),0)),(5,(.pointer (some ⟨r 104,0,none⟩),105)),(7,(.pointer (some ⟨r 123,0,none⟩),124)),(8,(.pointer (some ⟨r 124,0,none⟩),125))]) (fun r=>[(0,(26,xcN x)),(104,(23,cI1 c)),(123,(23,cI1 1)),(124,(23,cI1 1))]) 200 (rn) (hS) (hM) [(.p _ false hi),(.p _ false hi),(.p _ false hi),(.p _ false hi),.f,.f,.f,.f,.f,.f] [cV (O),lV _ (.bool false) (fun w hC=>zcm (1) (.tmp 51) (.tmp 52) w),lV _ (.bool false) (fun w hC=>zcm (1) (.tmp 56) (.tmp 57) w),lV _ (.bool false) (fun w hC=>zcm (1) (.tmp 64) (.tmp 65) w),cV (GR),lV (Op.stringOp .add ⟨s.toArray⟩ ⟨rt.toArray⟩) (.string ⟨z2.toArray⟩) (fun w hC=>e2 w)] (VEx.n) (fun r=>[(1,(.pointer (some ⟨r 0,0,none⟩),1)),(3,(.string ⟨z2.toArray⟩,0)),(4,(.int .i64 ((i:Int)),0))]) [] (fun r=>[(0,(26,xcN x))]) ?_
 intro a3 w3 hS3 hK3 hM3
 exact hQ a3 w3 hS3 hM3
theorem zrS (hS:St grN (grS rn s 4) a) (hM:MemOk X rn (grM x) w) (hQ:∀ a' w',St grN [(3,(.string ⟨s.toArray⟩,0))] a'→MemOk X rn (grM x) w'→Q (.exit 0) a' w'):wpL Tryz.prog [grR] Q a w:=by
 unfold grS grM at *
 refine vk (X:=X) [] grN [grR] (fun r=>[(1,(.pointer (some ⟨r 0,0,none⟩),1)),(3,(.string ⟨s.toArray⟩,0)),(4,(.int .i64 (4),0))]) (fun r=>[(0,(26,xcN x))]) 100 (rn) (hS) (hM) [.f] [] (VEx.x 0) (fun r=>[(3,(.string ⟨s.toArray⟩,0))]) [] (fun r=>[(0,(26,xcN x))]) ?_
 intro a3 w3 hS3 hK3 hM3
 exact hQ a3 w3 hS3 hM3
theorem znW (hS:St grN [(3,(.string ⟨s.toArray⟩,0))] a) (hM:MemOk X rn (grM x) w) (h:s = []) (hp:∀ w',Chg X.L X.w0 w'→post (.returned (.string ⟨#[48]⟩)) w'):wpL Tryz.prog (cPost 0 grC) (bodyPost Tryz.prog Tryz.f56 post) a w:=by
 unfold grM at *
 have e2:((ByteArray.mk s.toArray).toList == (ByteArray.mk #[]).toList)=true:=by rw [zaJ,h];rfl
 refine vk (X:=X) [(21,1)] grN (cPost 0 grC) (fun r=>[(3,(.string ⟨s.toArray⟩,0))]) (fun r=>[(0,(26,xcN x))]) 100 (rn) (hS) (hM) [.t] [lP (.bool ((ByteArray.mk s.toArray).toList == (ByteArray.mk #[]).toList)) (.bool true) (congrArg Value.bool e2)] (VEx.r) (fun r=>[(2,(.string ⟨#[48]⟩,0))]) [] (fun r=>[(0,(26,xcN x))]) ?_
 intro a3 w3 hS3 hK3 hM3
 exact za4 (fn:=Tryz.f56) hS3 hM3 (.string ⟨#[48]⟩) (fun g=>by kernel_rfl) (hp w3 hM3.below)
theorem zoY (hS:St grN [(3,(.string ⟨s.toArray⟩,0))] a) (hM:MemOk X rn (grM x) w) (h:s ≠ []) (hp:∀ w',Chg X.L X.w0 w'→post (.returned (.string ⟨s.toArray⟩)) w'):wpL Tryz.prog (cPost 0 grC) (bodyPost Tryz.prog Tryz.f56 post) a w:=by
 unfold grM at *
 have e2:((ByteArray.mk s.toArray).toList == (ByteArray.mk #[]).toList)=false:=by rw [zaJ];simpa using h
 refine vk (X:=X) [(21,1)] grN (cPost 0 grC) (fun r=>[(3,(.string ⟨s.toArray⟩,0))]) (fun r=>[(0,(26,xcN x))]) 100 (rn) (hS) (hM) [.f] [lP (.bool ((ByteArray.mk s.toArray).toList == (ByteArray.mk #[]).toList)) (.bool false) (congrArg Value.bool e2)] (VEx.r) (fun r=>[(2,(.string ⟨s.toArray⟩,0))]) [] (fun r=>[(0,(26,xcN x))]) ?_
 intro a3 w3 hS3 hK3 hM3
 exact za4 (fn:=Tryz.f56) hS3 hM3 (.string ⟨s.toArray⟩) (fun g=>by kernel_rfl) (hp w3 hM3.below)
end

theorem znO:Lib.itoa 1 = [49]:=by decide +kernel
theorem ziM {n:Int} (h:1≤n) (e:Lib.itoa n = [49]):n=1:=by
 rw [zff (by omega)] at e
 have h1:=(zjI n.natAbs).1
 rw [e] at h1
 have h2:numL [49]=1:=by decide
 omega
theorem ziV {n d:Int} (h:1≤n):valT n d = [49]↔n=1∧d=1:=by
 unfold valT
 constructor
 ·intro e
  split at e
  ·rename_i hd
   exact ⟨ziM h e,hd⟩
  ·have:=congrArg List.length e
   rw [List.length_append,List.length_cons] at this
   have h2:=zgn n.natAbs
   rw [zff (by omega)] at this
   simp at this
   omega
 ·rintro ⟨rfl,rfl⟩
  rw [if_pos rfl,znO]
section
variable {X:Cx} {rn:Nat→Nat} {s rt v:List UInt8} {i:Nat} {x:Nm} {c n d:Int} {a:Act} {w:World} {Q:Exit→Act→World→Prop} {post:Ending→World→Prop}
theorem zr3 (h:wpL Tryz.prog (cPre 2 gr1) (Exit.then (fun a w=>(cAt 2 gr1).wp Tryz.prog (Exit.then (fun a w=>wpL Tryz.prog (cPost 2 gr1) Q a w) Q) a w) Q) a w):gr1.wp Tryz.prog Q a w:=zaT 2 kr h
theorem zo7 (h:wpL Tryz.prog (cPre 1 grR) (Exit.then (fun a w=>gr1.wp Tryz.prog (Exit.inBlock 1 (Exit.then (fun a w=>wpL Tryz.prog (cPost 1 grR) Q a w) Q)) a w) Q) a w):grR.wp Tryz.prog Q a w:=by
 refine zaT 1 kr ?_
 refine zcn _ h ?_
 intro ex a w h
 cases ex
 case normal=>exact zdU 1 kr h
 all_goals exact h
theorem zrD (ls:s.length≤1000000) (hc:c≠0) (hS:St grN (grS1 rn s i) a) (hM:MemOk X rn (grM1 x c n d) w)
  (hQ:∀ a' w',St grN (grS1 rn (sgT s c) i) a'→MemOk X rn (grM1 x c n d) w'→wpL Tryz.prog (cPost 2 gr1) Q a' w'):(cAt 2 gr1).wp Tryz.prog (Exit.then (fun a w=>wpL Tryz.prog (cPost 2 gr1) Q a w) Q) a w:=by
 refine zaA ?_
 have S0:=fun w=>zbm c w
 unfold sgT at hQ
 by_cases h:c<0
 ·rw [if_pos h] at hQ
  exact zn5 (by omega) hS hM S0 (decide_eq_true (Int.sign_neg_iff.2 h)) (fun a2 w2 h1 h2=>zam (hQ a2 w2 h1 h2))
 ·rw [if_neg h] at hQ
  have hd:decide (c.sign<0)=false:=decide_eq_false (by rw [Int.sign_neg_iff];exact h)
  by_cases hs:s = []
  ·rw [if_pos hs] at hQ
   exact zoN (by omega) hS hM S0 hd hs (fun a2 w2 h1 h2=>zam (hQ a2 w2 h1 h2))
  ·rw [if_neg hs] at hQ
   exact zn6 (by omega) hS hM S0 hd hs (fun a2 w2 h1 h2=>zam (hQ a2 w2 h1 h2))
theorem zr1:cPre 2 gr1=(cPre 2 gr1).take 1++(cPre 2 gr1).drop 1:=by kernel_rfl
theorem znu (i:Nat) (hi:i<4) (w:World):Calls Tryz.prog 117 #[.int .i64 (i:Int)] w (RetV (.string ⟨(rtT i).toArray⟩) w):=by
 have hc:i=0∨i=1∨i=2∨i=3:=by omega
 rcases hc with rfl | rfl | rfl | rfl
 ·exact groot0 w
 ·exact groot1 w
 ·exact groot2 w
 ·exact groot3 w
theorem zoB {w0:World} (hX:X=⟨w0,[]⟩) (hi:i<4) (ls:s.length≤100000) (ox:Ok x) (bx:BN 20 x) (hS:St grN (grS rn s i) a) (hM:MemOk X rn (grM x) w)
  (hQ:∀ rn' a' w',St grN (grS rn' (stepT s (rtT i) (cofT x i) x.d) (i+1)) a'→MemOk X rn' (grM x) w'→Q .normal a' w'):grR.wp Tryz.prog Q a w:=by
 subst hX
 have GR:=znu i hi
 have lr:=ziS i
 have bc:=zie bx i
 have ir:i=0↔rtT i = []:=by
  unfold rtT
  split
  ·simp
  ·simp
  ·simp
  ·rename_i h _ _
   exact ⟨fun e=>(h e).elim,fun e=>by cases e⟩
 refine zo7 (zsy hi hS hM fun a1 w1 hS1 hM1=>zam (zr3 ?_))
 rw [zr1]
 refine zdX _ _ (zqd hi hS1 hM1 fun rn' a2 w2 hS2 hM2=>zam ?_)
 have fin:∀ rn' a2 w2,St grN (grS rn' (stepT s (rtT i) (cofT x i) x.d) i) a2→MemOk ⟨w0,[]⟩ rn' (grM x) w2→wpL Tryz.prog (cPost 1 grR) Q a2 w2:=fun rn' a2 w2 h1 h2=>zrw hi h1 h2 (hQ rn')
 clear hS hM hS1 hM1 hQ
 generalize cofT x i=c at *
 generalize rtT i=rt at *
 have S0:=fun w=>zbm c w
 by_cases hc:c=0
 ·rw [show c.sign=0 by rw [hc];rfl] at S0
  refine zqq hS2 hM2 S0 fun a2 w2 h1 h2=>?_
  show Exit.inBlock 1 (Exit.then (fun a w=>wpL Tryz.prog (cPost 1 grR) Q a w) Q) (.exit 1) a2 w2
  refine zhL (zam (fin rn' a2 w2 ?_ h2))
  unfold stepT
  rw [if_pos hc]
  exact h1
 ·have F:=cf hc ox.pos bc bx.h4
  have e:stepT s rt c x.d=sgT s c++(vT rt ((c.natAbs:Int).fdiv (gcT c x.d)) (x.d.fdiv (gcT c x.d))++rt):=by
   unfold stepT
   rw [if_neg hc]
  rw [e] at fin
  clear e
  have bca:Bd 20 (c.natAbs:Int):=bc.le (y:=(c.natAbs:Int)) (by simp)
  have G:=fun w=>zaH c x.d w (bc.mono (by omega)) (bx.h4.mono (by omega))
  have A:=fun w=>zjw c w
  have O1:=fun w=>zcf (c.natAbs:Int) (gcT c x.d) w (bca.mono (by omega)) (F.bg.mono (by omega)) F.g0
  have O2:=fun w=>zcf x.d (gcT c x.d) w (bx.h4.mono (by omega)) (F.bg.mono (by omega)) F.g0
  have P1:=fun w' (hc:Chg [] w0 w')=>zf8 ((c.natAbs:Int).fdiv (gcT c x.d)) w' (F.bn.mono (by omega))
  have P2:=fun w' (hc:Chg [] w0 w')=>zf8 (x.d.fdiv (gcT c x.d)) w' (F.be.mono (by omega))
  have hs0:(c.sign == 0)=false:=by
   have:c.sign≠0:=fun h=>hc (Int.sign_eq_zero_iff_zero.1 h)
   simpa using this
  have n1:=F.n1
  have ln:=zcQ (by have:=F.n1;omega) F.bn
  have le:=zcQ (by have:=F.e1;omega) F.be
  have lsg:=zij s c
  have hv:=ziV (d:=x.d.fdiv (gcT c x.d)) n1
  refine zsk hS2 hM2 S0 hs0 G A O1 O2 fun rn' a2 w2 hS2 hM2=>zam (zrD (by omega) hc hS2 hM2 fun a3 w3 hS3 hM3=>?_)
  clear G A O1 O2 S0
  have fin:=fin rn'
  unfold vT at fin
  generalize (c.natAbs:Int).fdiv (gcT c x.d)=n at *
  generalize x.d.fdiv (gcT c x.d)=d at *
  generalize sgT s c=s1 at *
  have out:∀ z a4 w4,z=s1++((if valT n d = [49]∧rt ≠ [] then [] else valT n d)++rt)→St grN (grS rn' z i) a4→MemOk ⟨w0,[]⟩ rn' (grM x) w4→(Exit.inBlock 1 (Exit.then (fun a w=>wpL Tryz.prog (cPost 1 grR) Q a w) Q)) .normal a4 w4:=by
   rintro z a4 w4 rfl h1 h2
   exact zbk (zam (fin a4 w4 h1 h2))
  have it:i=0→((i:Int) == 0)=true:=fun h=>by rw [h];rfl
  have jf:i≠0→((i:Int) == 0)=false:=fun h=>by simpa using h
  by_cases hd:d=1
  ·subst hd
   have e2:valT n 1=Lib.itoa n:=by unfold valT;rw [if_pos rfl]
   by_cases h0:i=0
   ·have hr:=ir.1 h0
    exact zly (by omega) (by omega) lr GR (it h0) hS3 hM3 P1 (fun a4 w4=>out _ a4 w4 (by rw [if_neg (fun h=>h.2 hr),e2,List.append_assoc]))
   ·by_cases hn:n=1
    ·subst hn
     exact zoC (by omega) lr GR (jf h0) hS3 hM3 (fun a4 w4=>out _ a4 w4 (by rw [if_pos ⟨hv.2 ⟨rfl,rfl⟩,fun h=>h0 (ir.2 h)⟩];rfl))
    ·exact zmF (by omega) (by omega) lr GR (jf h0) hn hS3 hM3 P1 (fun a4 w4=>out _ a4 w4 (by rw [if_neg (fun h=>hn (hv.1 h.1).1),e2,List.append_assoc]))
  ·have e2:valT n d=Lib.itoa n++47 :: Lib.itoa d:=by unfold valT;rw [if_neg hd]
   have h49:¬ (valT n d = [49]∧rt ≠ []):=fun h=>hd (hv.1 h.1).2
   have ez:((s1++Lib.itoa n)++(47 :: Lib.itoa d))++rt=s1++((if valT n d = [49]∧rt ≠ [] then [] else valT n d)++rt):=by rw [if_neg h49,e2];simp only [List.append_assoc]
   by_cases h0:i=0
   ·exact zm6 (by omega) (by omega) (by omega) lr GR (it h0) hS3 hM3 hd P1 P2 (fun a4 w4=>out _ a4 w4 ez)
   ·by_cases hn:n=1
    ·subst hn
     exact zmK (by omega) (by omega) (by omega) lr GR (jf h0) hS3 hM3 hd P1 P2 (fun a4 w4=>out _ a4 w4 ez)
    ·exact znp (by omega) (by omega) (by omega) lr GR (jf h0) hn hS3 hM3 hd P1 P2 (fun a4 w4=>out _ a4 w4 ez)
end
theorem zkq (x:Nm) (w:World) (ox:Ok x) (bx:BN 20 x):Calls Tryz.prog 56 #[vN x] w (RetV (.string ⟨(printT x).toArray⟩) w):=by
 have V:=fun w=>zaF x w (bx.mono (by omega)) ox
 refine zbp [vN x] (fn:=Tryz.f56) (c:=grC) kr kr nle ?_
 intro a hS
 refine zaT 0 kr ?_
 have key:∀ (rn:Nat→Nat) a1 w1,St grN (grS rn [] 0) a1→MemOk ⟨w,[]⟩ rn (grM x) w1→(cAt 0 grC).wp Tryz.prog (Exit.then (fun a2 w2=>wpL Tryz.prog (cPost 0 grC) (bodyPost Tryz.prog Tryz.f56 (RetV (.string ⟨(printT x).toArray⟩) w)) a2 w2) (bodyPost Tryz.prog Tryz.f56 (RetV (.string ⟨(printT x).toArray⟩) w))) a1 w1:=by
  intro rn a1 w1 hS1 hM1
  refine zbD 0 kr kr (fun n a' w'=>∃ rn i,4 - i=n∧i≤4∧St grN (grS rn (accT x i) i) a'∧MemOk ⟨w,[]⟩ rn (grM x) w') 4 ⟨rn,0,rfl,by omega,hS1,hM1⟩ ?_
  clear hS1 hM1
  rintro n a2 w2 ⟨rn,i,rfl,hi,hS2,hM2⟩
  have la:=zgi ox bx i
  show grR.wp _ _ a2 w2
  rcases Nat.lt_or_ge i 4 with h4 | h4
  ·exact zoB rfl h4 (by omega) ox bx hS2 hM2 (fun rn' a3 w3 h1 h2=>⟨4 - (i+1),by omega,rn',i+1,rfl,by omega,h1,h2⟩)
  ·obtain rfl:i=4:=by omega
   refine zaA (zrS hS2 hM2 fun a3 w3 h1 h2=>zbP (zam ?_))
   unfold printT
   by_cases h:accT x 4 = []
   ·rw [if_pos h]
    exact znW h1 h2 h (fun w' hc=>⟨rfl,hc.below (Nat.le_refl _) (fun x h=>by cases h)⟩)
   ·rw [if_neg h]
    exact zoY h1 h2 h (fun w' hc=>⟨rfl,hc.below (Nat.le_refl _) (fun x h=>by cases h)⟩)
 unfold grS grM at key
 refine vf (X:=⟨w,[]⟩) [] grN (cPre 0 grC) (fun r=>[(0,(vN x,0))]) (fun r=>[]) 0 (fun _=>0) (hS) (⟨Chg.refl _ _,fun k x h=>(by cases h),fun k k' x x' h=>by cases h⟩) [.f] [cV (V)] (VEx.n) (fun r=>[(1,(.pointer (some ⟨r 0,0,none⟩),1)),(3,(.string ⟨#[]⟩,0)),(4,(.int .i64 (((0:Nat):Int)),0))]) [] (fun r=>[(0,(26,xcN x))]) ?_
 intro rn a1 w1 hr hS1 hK1 hM1
 exact key rn a1 w1 hS1 hM1

def Stop (q:List UInt8):Prop:=∀ c r,q=c :: r→isD c=false
theorem zrX {a q:List UInt8} (ha:DigL a) (hq:Stop q):dgs (a++q)=a∧dgr (a++q)=q:=by
 unfold dgs dgr
 induction a with
 | nil =>
  cases q with
  | nil=>exact ⟨rfl,rfl⟩
  | cons c r =>
   have:=hq c r rfl
   rw [List.nil_append,List.takeWhile_cons,List.dropWhile_cons,this]
   exact ⟨rfl,rfl⟩
 | cons c a ih =>
  obtain ⟨h1,h2⟩:=ih (fun x hx=>ha x (List.mem_cons_of_mem _ hx))
  have hc:isD c=true:=(zcP c).2 (ha c List.mem_cons_self)
  rw [List.cons_append,List.takeWhile_cons,List.dropWhile_cons,hc]
  simp only [if_true]
  rw [h1,h2]
  exact ⟨rfl,rfl⟩
theorem zjP {n:Int} (h:0≤n):DigL (Lib.itoa n)∧Lib.itoa n ≠ []∧numL (Lib.itoa n)=n.natAbs∧pOk (Lib.itoa n)=true:=by
 rw [zff h]
 obtain ⟨h1,h2,h3⟩:=zjI n.natAbs
 have h4:=zgn n.natAbs
 have hne:Lib.decDigits n.natAbs ≠ []:=by intro e;rw [e] at h4;simp at h4
 refine ⟨h2,hne,h1,decide_eq_true ⟨hne,fun e=>?_⟩⟩
 by_cases hz:n=0
 ·rw [hz,show (0:Int).natAbs=0 from rfl,Lib.decDigits_one (by decide)];rfl
 ·exact absurd e (h3 (by omega))
theorem znl {n:Int} (h:0≤n) (b:Bd 20 n) {q:List UInt8} (hq:Stop q):dgs (Lib.itoa n++q)=Lib.itoa n∧dgr (Lib.itoa n++q)=q∧(numP (Lib.itoa n):Int)=n∧intE (Lib.itoa n) 0=0:=by
 obtain ⟨h1,h2,h3,h4⟩:=zjP h
 obtain ⟨h5,h6⟩:=zrX h1 hq
 refine ⟨h5,h6,?_,?_⟩
 ·unfold numP
  rw [if_pos h4,h3]
  omega
 ·unfold intE
  rw [if_pos ⟨h4,zcQ h b⟩]
def Stop' (q:List UInt8):Prop:=∀ c r,q=c :: r→isD c=false∧c≠47∧c≠46
theorem zg6 {n e:Int} (hn:0≤n) (bn:Bd 20 n) (he:1≤e) (be:Bd 20 e) {q:List UInt8} (hq:Stop' q):valN (valT n e++q) 0=(valD n e,q,0):=by
 have hq1:Stop q:=fun c r h=>(hq c r h).1
 unfold valT
 by_cases h1:e=1
 ·rw [if_pos h1]
  obtain ⟨g1,g2,g3,g4⟩:=znl hn bn hq1
  unfold valN
  rw [g1,g2,g3,g4]
  cases q with
  | nil=>simp only;rw [h1]
  | cons c r =>
   obtain ⟨k1,k2,k3⟩:=hq c r rfl
   simp only
   rw [if_neg k2,if_neg k3,h1]
 ·rw [if_neg h1,List.append_assoc,List.cons_append]
  obtain ⟨g1,g2,g3,g4⟩:=znl (q:=47 :: (Lib.itoa e++q)) hn bn (fun c r h=>by injection h with h _;rw [← h];decide)
  obtain ⟨k1,k2,k3,k4⟩:=znl (by omega) be hq1
  unfold valN
  rw [g1,g2,g3,g4]
  simp only [if_true]
  rw [k1,k2,k3,k4,if_neg (by omega)]
def TC (r:List UInt8):Prop:=∀ c q,r=c :: q→c=43∨c=45
theorem TC.stop {r:List UInt8} (h:TC r):Stop' r:=fun c q e=>by
 rcases h c q e with rfl | rfl <;> decide
theorem TC.root {r:List UInt8} (h:TC r):rootS r=none:=zm9 fun q e=>by
 rcases h 114 q e with h | h <;> exact absurd h (by decide)
theorem zhx {n e:Int} (hn:0≤n) (q:List UInt8):∃ c r,valT n e++q=c :: r∧48≤c.toNat∧c.toNat≤57:=by
 obtain ⟨h1,h2,_,_⟩:=zjP hn
 unfold valT
 cases hh:Lib.itoa n with
 | nil=>exact absurd hh h2
 | cons c r =>
  have hc:=h1 c (by rw [hh];exact List.mem_cons_self)
  split
  ·exact ⟨c,r++q,rfl,hc⟩
  ·exact ⟨c,r++47 :: Lib.itoa e++q,rfl,hc⟩
theorem zhF {n e:Int} (hn:0≤n) (q:List UInt8):rootS (valT n e++q)=none:=zm9 fun r h=>by
 obtain ⟨c,r',h1,h2,h3⟩:=zhx (e:=e) hn q
 rw [h1] at h
 injection h with h _
 subst h
 exact absurd h3 (by decide)
def kI:Nat→Int
 | 1=>2
 | 2=>3
 | 3=>6
 | _=>1
def tN (i:Nat) (n e:Int):Nm:=if i=0 then mulN (valD n e) (intN 1) else mulN (valD n e) (rootN (kI i))
theorem term0 {n e:Int} (hn:0≤n) (bn:Bd 20 n) (he:1≤e) (be:Bd 20 e) {r:List UInt8} (hr:TC r):termN (vT [] n e++([]++r)) 0=(tN 0 n e,r,0):=by
 have e1:vT [] n e=valT n e:=by unfold vT;rw [if_neg (fun h=>h.2 rfl)]
 rw [e1,List.nil_append]
 unfold termN
 rw [zhF hn,zg6 hn bn he be hr.stop]
 simp only
 rw [hr.root]
 rfl
theorem zq6 (i:Nat) (hi:i=1∨i=2∨i=3) (r:List UInt8):rootS (rtT i++r)=some (kI i,r)∧Stop' (rtT i++r)∧rtT i ≠ []:=by
 rcases hi with rfl | rfl | rfl
 all_goals exact ⟨rfl,fun c q h=>by injection h with h _;subst h;decide,by decide⟩
theorem termI (i:Nat) (hi:i=1∨i=2∨i=3) {n e:Int} (hn:1≤n) (bn:Bd 20 n) (he:1≤e) (be:Bd 20 e) {r:List UInt8} (hr:TC r):termN (vT (rtT i) n e++(rtT i++r)) 0=(tN i n e,r,0):=by
 obtain ⟨k1,k2,k3⟩:=zq6 i hi r
 have ht:tN i n e=mulN (valD n e) (rootN (kI i)):=by
  unfold tN
  rw [if_neg (by omega)]
 rw [ht]
 unfold vT
 by_cases h:valT n e = [49]
 ·obtain ⟨rfl,rfl⟩:=(ziV hn).1 h
  rw [if_pos ⟨h,k3⟩,List.nil_append]
  unfold termN
  rw [k1,zjJ,znk (zaG _)]
 ·rw [if_neg (fun g=>h g.1)]
  unfold termN
  rw [zhF (by omega),zg6 (by omega) bn he be k2]
  simp only
  rw [k1]
def partN (i:Nat) (c d:Int):Nm :=
 match i with
 | 0=>⟨c,0,0,0,d⟩
 | 1=>⟨0,c,0,0,d⟩
 | 2=>⟨0,0,c,0,d⟩
 | _=>⟨0,0,0,c,d⟩
theorem znS (x:Nm) (h:x.d≠0):toK (partN 0 x.c0 x.d)+(toK (partN 1 x.c1 x.d)+(toK (partN 2 x.c2 x.d)+(toK (partN 3 x.c3 x.d)+0)))=toK x:=by
 have h':=rne h
 apply K.ext <;> simp only [K.add_def,K.zero_def,toK,partN] <;> push_cast <;> grind
theorem zoZ (i:Nat) (c d:Int):toK (partN i (-c) d) = -toK (partN i c d):=by
 unfold partN
 split <;> (apply K.ext <;> simp only [K.neg_def,toK] <;> push_cast <;> grind)
theorem zfx (i:Nat) (d:Int) (h:d≠0):toK (partN i 0 d)=0:=by
 have h':=rne h
 unfold partN
 split <;> (apply K.ext <;> simp only [K.zero_def,toK] <;> push_cast <;> grind)
theorem zkM (i:Nat) {n e c d:Int} (he:e≠0) (hd:d≠0) (h:n * d=c * e):toK (partN i n e)=toK (partN i c d):=by
 have h0:(0:Int) * d=0 * e:=by simp
 unfold partN
 split <;> exact K.ext ((zbI he hd).2 (by assumption)) ((zbI he hd).2 (by assumption)) ((zbI he hd).2 (by assumption)) ((zbI he hd).2 (by assumption))
theorem zrQ (i:Nat) {n e:Int} (he:e≠0):Ok (tN i n e):=by
 unfold tN
 split
 ·exact zbv (zcr he) (zaW 1)
 ·exact zbv (zcr he) (zaG _)
theorem zeO {n e:Int} (he:e≠0):toK (valD n e)=toK ⟨n,0,0,0,e⟩:=zgj (x:=⟨n,0,0,0,e⟩) he
theorem zpZ (i:Nat) (hi:i<4) {n e:Int} (he:e≠0):toK (tN i n e)=toK (partN i n e):=by
 have he':=rne he
 have hc:i=0∨i=1∨i=2∨i=3:=by omega
 rcases hc with rfl | rfl | rfl | rfl
 ·show toK (mulN (valD n e) (intN 1))=_
  rw [zh9 (zcr he),zeO he]
  rfl
 ·show toK (mulN (valD n e) (rootN 2))=_
  rw [zc9 (zcr he) (zaG _),zeO he]
  apply K.ext <;> simp only [K.mul_def,toK,partN,rootN,intN] <;> push_cast <;> grind
 ·show toK (mulN (valD n e) (rootN 3))=_
  rw [zc9 (zcr he) (zaG _),zeO he]
  apply K.ext <;> simp only [K.mul_def,toK,partN,rootN,intN] <;> push_cast <;> grind
 ·show toK (mulN (valD n e) (rootN 6))=_
  rw [zc9 (zcr he) (zaG _),zeO he]
  apply K.ext <;> simp only [K.mul_def,toK,partN,rootN,intN] <;> push_cast <;> grind

def bodyT (i:Nat) (c d:Int):List UInt8:=vT (rtT i) ((c.natAbs:Int).fdiv (gcT c d)) (d.fdiv (gcT c d))++rtT i
def sgB (c:Int):UInt8:=if c<0 then 45 else 43
def tlT (d:Int):List (Nat × Int)→List UInt8
 | []=>[]
 | p :: L=>if p.2=0 then tlT d L else sgB p.2 :: (bodyT p.1 p.2 d++tlT d L)
def accL (d:Int) (s:List UInt8) (L:List (Nat × Int)):List UInt8:=L.foldl (fun s p=>stepT s (rtT p.1) p.2 d) s
theorem zmP (d:Int):∀ (L:List (Nat × Int)) (s:List UInt8),s ≠ []→accL d s L=s++tlT d L
 | [],s,_=>by simp [accL,tlT]
 | p :: L,s,hs=>by
  have e:accL d s (p :: L)=accL d (stepT s (rtT p.1) p.2 d) L:=rfl
  rw [e]
  unfold tlT stepT
  by_cases hc:p.2=0
  ·rw [if_pos hc,if_pos hc]
   exact zmP d L s hs
  ·rw [if_neg hc,if_neg hc]
   have e2:sgT s p.2=s ++ [sgB p.2]:=by
    unfold sgT sgB
    by_cases h:p.2<0
    ·rw [if_pos h,if_pos h]
    ·rw [if_neg h,if_neg hs,if_neg h]
   rw [e2,zmP d L _ (by simp)]
   unfold bodyT
   simp only [List.append_assoc,List.singleton_append,List.cons_append,List.nil_append]
theorem zqe (d:Int):∀ L,TC (tlT d L)
 | []=>fun c q h=>by cases h
 | p :: L=>by
  unfold tlT
  split
  ·exact zqe d L
  ·intro c q h
   injection h with h _
   subst h
   unfold sgB
   split
   ·exact .inr rfl
   ·exact .inl rfl
def sumK (d:Int):List (Nat × Int)→K
 | []=>0
 | p :: L=>toK (partN p.1 p.2 d)+sumK d L
def GoodL (L:List (Nat × Int)):Prop:=∀ p,p ∈ L→p.1<4∧Bd 20 p.2
theorem zhz (i:Nat) (hi:i<4) {c d:Int} (hc:c≠0) (hd:0<d) (bc:Bd 20 c) (bd:Bd 20 d) {r:List UInt8} (hr:TC r) :
  ∃ t,termN (bodyT i c d++r) 0=(t,r,0)∧Ok t∧toK t=toK (partN i (c.natAbs:Int) d):=by
 have F:=cf hc hd bc bd
 have e1:d.fdiv (gcT c d)≠0:=by have:=F.e1;omega
 refine ⟨tN i ((c.natAbs:Int).fdiv (gcT c d)) (d.fdiv (gcT c d)),?_,zrQ i e1,?_⟩
 ·unfold bodyT
  rw [List.append_assoc]
  have hcase:i=0∨(i=1∨i=2∨i=3):=by omega
  rcases hcase with rfl | h
  ·exact term0 (by have:=F.n1;omega) F.bn F.e1 F.be hr
  ·exact termI i h F.n1 F.bn F.e1 F.be hr
 ·rw [zpZ i hi e1]
  exact zkM i e1 (by omega) F.cross
theorem zo9 (i:Nat) {c d:Int} {t:Nm} (ot:Ok t) (h:toK t=toK (partN i (c.natAbs:Int) d)):toK (if decide (c<0)=true then negN t else t)=toK (partN i c d):=by
 by_cases hc:c<0
 ·rw [decide_eq_true hc,if_pos rfl,ziz,h,show (c.natAbs:Int) = -c by omega,zoZ,K.neg_neg]
 ·rw [decide_eq_false hc,if_neg (by decide),h,show (c.natAbs:Int)=c by omega]
theorem zjx (f:Nat) (s:Nm) (os:Ok s) (i:Nat) (hi:i<4) {c d:Int} (hc:c≠0) (hd:0<d) (bc:Bd 20 c) (bd:Bd 20 d) {r:List UInt8} (hr:TC r) :
  ∃ s',parP (f+1) s (decide (c<0)) (bodyT i c d++r) 0=parK f s' r 0∧Ok s'∧toK s'=toK s+toK (partN i c d):=by
 obtain ⟨t,h1,h2,h3⟩:=zhz i hi hc hd bc bd hr
 have h4:=zo9 i h2 h3
 have o4:=negB (decide (c<0)) h2
 refine ⟨addN s (if decide (c<0)=true then negN t else t),?_,zek os o4,by rw [zgg os o4,h4]⟩
 rw [zlu,h1]
 simp only
 rw [if_neg (by decide)]
theorem zgx (d:Int) (hd:0<d) (bd:Bd 20 d):∀ (L:List (Nat × Int)) (f:Nat) (s:Nm),GoodL L→L.length≤f→Ok s→∃ s',parK f s (tlT d L) 0=(s',0)∧Ok s'∧toK s'=toK s+sumK d L
 | [],f,s,_,_,os=>⟨s,rfl,os,by unfold sumK;rw [K.add_zero]⟩
 | p :: L,f,s,hg,hf,os=>by
  obtain ⟨g1,g2⟩:=hg p List.mem_cons_self
  have hg':GoodL L:=fun q hq=>hg q (List.mem_cons_of_mem _ hq)
  rw [List.length_cons] at hf
  unfold tlT sumK
  by_cases hc:p.2=0
  ·rw [if_pos hc,hc,zfx p.1 d (by omega),K.add_comm 0,K.add_zero]
   exact zgx d hd bd L f s hg' (by omega) os
  ·rw [if_neg hc]
   obtain ⟨f',rfl⟩:∃ f',f=f'+1:=⟨f - 1,by omega⟩
   obtain ⟨s1,h1,h2,h3⟩:=zjx f' s os p.1 g1 hc hd g2 bd (zqe d L)
   obtain ⟨s2,k1,k2,k3⟩:=zgx d hd bd L f' s1 hg' (by omega) h2
   refine ⟨s2,?_,k2,by rw [k3,h3,K.add_assoc]⟩
   have e:parK (f'+1) s (sgB p.2 :: (bodyT p.1 p.2 d++tlT d L)) 0=parP (f'+1) s (decide (p.2<0)) (bodyT p.1 p.2 d++tlT d L) 0:=by
    unfold parK sgB
    by_cases h:p.2<0
    ·rw [if_pos h,decide_eq_true h]
     rfl
    ·rw [if_neg h,decide_eq_false h]
     rfl
   rw [e,h1,k1]
theorem zhy (d:Int) (hd:0<d):∀ (L:List (Nat × Int)),GoodL L→(accL d [] L = []∧sumK d L=0)∨∃ i c L',i<4∧c≠0∧Bd 20 c∧GoodL L'∧L'.length≤L.length∧accL d [] L=(if c<0 then [45] else [])++(bodyT i c d++tlT d L')∧sumK d L=toK (partN i c d)+sumK d L'
 | [],_=>.inl ⟨rfl,rfl⟩
 | p :: L,hg=>by
  obtain ⟨g1,g2⟩:=hg p List.mem_cons_self
  have hg':GoodL L:=fun q hq=>hg q (List.mem_cons_of_mem _ hq)
  have e:accL d [] (p :: L)=accL d (stepT [] (rtT p.1) p.2 d) L:=rfl
  have es:sumK d (p :: L)=toK (partN p.1 p.2 d)+sumK d L:=rfl
  rw [e,es]
  unfold stepT
  by_cases hc:p.2=0
  ·rw [if_pos hc,hc,zfx p.1 d (by omega),K.add_comm 0,K.add_zero]
   rcases zhy d hd L hg' with h | ⟨i,c,L',h1,h2,h3,h4,h5,h6,h7⟩
   ·exact .inl h
   ·exact .inr ⟨i,c,L',h1,h2,h3,h4,by rw [List.length_cons];omega,h6,h7⟩
  ·rw [if_neg hc]
   refine .inr ⟨p.1,p.2,L,g1,hc,g2,hg',by simp,?_,rfl⟩
   have e2:sgT [] p.2=(if p.2<0 then [45] else []):=by
    unfold sgT
    by_cases h:p.2<0
    ·rw [if_pos h,if_pos h];rfl
    ·rw [if_neg h,if_pos rfl,if_neg h]
   rw [e2]
   have hne:(if p.2<0 then [45] else [])++(vT (rtT p.1) ((p.2.natAbs:Int).fdiv (gcT p.2 d)) (d.fdiv (gcT p.2 d))++rtT p.1) ≠ []:=by
    intro h
    obtain ⟨_,h⟩:=List.append_eq_nil_iff.1 h
    obtain ⟨h1,h2⟩:=List.append_eq_nil_iff.1 h
    unfold vT at h1
    split at h1
    ·rename_i h3
     exact h3.2 h2
    ·unfold valT at h1
     have h4:=zgn ((p.2.natAbs:Int).fdiv (gcT p.2 d)).natAbs
     have h5:0≤(p.2.natAbs:Int).fdiv (gcT p.2 d):=Int.fdiv_nonneg (by omega) (by unfold gcT;omega)
     split at h1
     ·rw [zff h5] at h1
      rw [h1] at h4
      simp at h4
     ·exact absurd (congrArg List.length h1) (by simp)
   rw [zmP d L _ hne]
   unfold bodyT
   simp only [List.append_assoc]
theorem zmQ (i:Nat) (c d:Int) (q r:List UInt8):bodyT i c d++q≠45 :: r:=by
 intro h
 have h5:0≤(c.natAbs:Int).fdiv (gcT c d):=Int.fdiv_nonneg (by omega) (by unfold gcT;omega)
 unfold bodyT vT at h
 split at h
 ·rename_i hh
  rw [List.nil_append] at h
  unfold rtT at h hh
  split at h
  ·exact hh.2 rfl
  all_goals
   injection h with h _
   exact absurd h (by decide)
 ·rw [List.append_assoc] at h
  obtain ⟨c',r',h1,h2,h3⟩:=zhx (e:=d.fdiv (gcT c d)) h5 (rtT i++q)
  rw [h1] at h
  injection h with h _
  subst h
  exact absurd h2 (by decide)
theorem zj9 (x:Nm) (ox:Ok x) (bx:BN 20 x) (hl:(printT x).length≤400):parF (printT x)=(x,0):=by
 have hd:=ox.pos
 have e0:accT x 4=accL x.d [] [(0,x.c0),(1,x.c1),(2,x.c2),(3,x.c3)]:=rfl
 have hg:GoodL [(0,x.c0),(1,x.c1),(2,x.c2),(3,x.c3)]:=fun p hp=>by
  simp only [List.mem_cons,List.not_mem_nil,or_false] at hp
  rcases hp with rfl | rfl | rfl | rfl
  ·exact ⟨show (0:Nat)<4 by decide,bx.h0⟩
  ·exact ⟨show (1:Nat)<4 by decide,bx.h1⟩
  ·exact ⟨show (2:Nat)<4 by decide,bx.h2⟩
  ·exact ⟨show (3:Nat)<4 by decide,bx.h3⟩
 have hs:sumK x.d [(0,x.c0),(1,x.c1),(2,x.c2),(3,x.c3)]=toK x:=znS x ox.ne
 have z0:toK (intN 0)=0:=zqw
 unfold parF
 rw [if_neg (by omega)]
 unfold printT
 rw [e0]
 rcases zhy x.d hd _ hg with ⟨h1,h2⟩ | ⟨i,c,L',h1,h2,h3,h4,h5,h6,h7⟩
 ·rw [if_pos h1]
  rw [hs] at h2
  have ht:=term0 (n:=0) (e:=1) (r:=[]) (by omega) (Bd.zero _) (by omega) (Bd.one (by omega)) (fun c q h=>by cases h)
  have e48:vT [] 0 1++([] ++ []) = [48]:=by decide +kernel
  rw [e48] at ht
  have ot:=zrQ 0 (n:=0) (e:=1) (by decide)
  have kt:toK (tN 0 0 1)=0:=by rw [zpZ 0 (by decide) (by decide),zfx 0 1 (by decide)]
  show parP (400+1) (intN 0) false [48] 0=(x,0)
  rw [zlu,ht]
  simp only
  rw [if_neg (by decide),if_neg (by decide)]
  have e:addN (intN 0) (tN 0 0 1)=x:=zcH (zek (zaW 0) ot) ox (by rw [zgg (zaW 0) ot,z0,kt,K.add_zero,h2])
  rw [e]
  rfl
 ·have hne:accL x.d [] [(0,x.c0),(1,x.c1),(2,x.c2),(3,x.c3)] ≠ []:=by
   rw [h6]
   intro h
   obtain ⟨k1,k2⟩:=List.append_eq_nil_iff.1 h
   have k3:=(List.append_eq_nil_iff.1 k2).1
   obtain ⟨t,ht,_,_⟩:=zhz i h1 h2 hd h3 bx.h4 (r:=[45]) (fun c q h=>by injection h with h _;exact .inr h.symm)
   rw [k3] at ht
   have:=congrArg (fun p=>p.2.2) ht
   have h45:(termN ([] ++ [45]) 0).2.2=4:=by decide +kernel
   rw [h45] at this
   exact absurd (show (4:Int)=0 from this) (by decide)
  rw [if_neg hne,h6]
  have hsg:sgnL ((if c<0 then [45] else [])++(bodyT i c x.d++tlT x.d L'))=(decide (c<0),bodyT i c x.d++tlT x.d L'):=by
   by_cases hc:c<0
   ·rw [if_pos hc,decide_eq_true hc]
    rfl
   ·rw [if_neg hc,decide_eq_false hc,List.nil_append]
    unfold sgnL
    split
    ·rename_i c' r he
     rw [if_neg (fun h=>zmQ i c x.d (tlT x.d L') r (by rw [he,h])),he]
    ·rename_i he
     rw [he]
  rw [hsg]
  simp only
  simp only [List.length_cons,List.length_nil] at h5
  obtain ⟨s1,k1,k2,k3⟩:=zjx 400 (intN 0) (zaW 0) i h1 h2 hd h3 bx.h4 (zqe x.d L')
  obtain ⟨s2,m1,m2,m3⟩:=zgx x.d hd bx.h4 L' 400 s1 h4 (by omega) k2
  show parP (400+1) _ _ _ _=_
  rw [k1,m1]
  have e:s2=x:=zcH m2 ox (by rw [m3,k3,z0,K.add_comm 0,K.add_zero,← h7,hs])
  rw [e]
end Go.Proofs.YtegnalgjjmpcmaaGreatDoor
