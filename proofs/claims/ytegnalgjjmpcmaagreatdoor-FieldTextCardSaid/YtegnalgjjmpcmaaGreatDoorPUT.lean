import Derived.Test.YtegnalgjjmpcmaaGreatDoorPUS
import Derived.Test.YtegnalgjjmpcmaaGreatDoorPUFieM
import Derived.Test.YtegnalgjjmpcmaaGreatDoorPUFieN
import Derived.Test.YtegnalgjjmpcmaaGreatDoorPUPoly
/- Reading numbers: integers and prefixes (reference). -/
set_option linter.unusedVariables false
set_option linter.unusedSimpArgs false
set_option maxRecDepth 100000
set_option maxHeartbeats 8000000
namespace Go.Proofs.YtegnalgjjmpcmaaGreatDoor
open Go Go.RowKit
def gintN (l:List UInt8):Int:=if 60<(dgs l).length then 0 else numP (dgs l)
def gintR (l:List UInt8):List UInt8:=if 60<(dgs l).length then l else dgr l
def gintB (l:List UInt8):Bool:=if 60<(dgs l).length then false else pOk (dgs l)
noncomputable def giN:Nat:=Tryz.f166.ntmps
noncomputable def giC:Code:=Tryz.f166.body.getD .skip
noncomputable def gi0:Code:=cB 0 giC
def cZ1':Array Value:=#[.bool false,.string ⟨#[]⟩]
theorem zeD (l:List UInt8) (w:World) (hl:l.length≤400):Calls Tryz.prog 166 #[.string ⟨l.toArray⟩] w (RetV (.tuple #[vI (gintN l),.string ⟨(gintR l).toArray⟩,.bool (gintB l)]) w):=by
 have hsz:((ByteArray.mk l.toArray).size:Int)=(l.length:Int):=by simp [ByteArray.size]
 refine zbp [.string ⟨l.toArray⟩] (fn:=Tryz.f166) (c:=giC) kr kr nle ?_
 intro a hS
 refine zaT 0 kr ?_
 refine vf (X:=⟨w,[]⟩) [] giN (cPre 0 giC) (fun r=>[(0,(.string ⟨l.toArray⟩,0))]) (fun r=>[]) 0 (fun _=>0) (hS) (⟨Chg.refl _ _,fun k x h=>(by cases h),fun k k' x x' h=>by cases h⟩) [] [] (VEx.n) (fun r=>[(0,(.string ⟨l.toArray⟩,0)),(2,(.pointer (some ⟨r 0,0,none⟩),1)),(5,(.int .i64 (((0:Nat):Int)),0))]) [] (fun r=>[(0,(23,cZ1'))]) ?_
 intro rn a1 w1 hr hS1 hK1 hM1
 clear hS hK1
 refine zbD 0 kr kr (fun n a' w'=>∃ j,(dgs l).length - j=n∧j≤(dgs l).length∧St giN [(0,(.string ⟨l.toArray⟩,0)),(2,(.pointer (some ⟨rn 0,0,none⟩),1)),(5,(.int .i64 (j:Int),0))] a'∧MemOk ⟨w,[]⟩ rn [(0,(23,cZ1'))] w') ((dgs l).length - 0) ⟨0,rfl,by omega,hS1,hM1⟩ ?_
 clear hS1 hM1
 have hd:=zcO l
 rintro n a2 w2 ⟨j,rfl,hj,hS2,hM2⟩
 refine zaA ?_
 rcases Nat.lt_or_ge j (dgs l).length with hjk | hjk
 ·have h1:decide ((j:Int)<((ByteArray.mk l.toArray).size:Int))=true:=decide_eq_true (by omega)
  have hB:=zf9 l j (by omega)
  obtain ⟨c1,c2⟩:=(zcP _).1 (zmJ l j hjk (by omega))
  generalize (l[j]'(by omega)).toNat=c at *
  have h2:decide ((48:Int)≤(c:Int))=true:=decide_eq_true (by omega)
  have h3:decide ((c:Int)≤57)=true:=decide_eq_true (by omega)
  have v1:IntKind.i64.wrap ((j:Int)+1)=((j+1:Nat):Int):=by rw [wr64 (by omega) (by omega)];omega
  refine vk (X:=⟨w,[]⟩) [(2,7),(2,13),(3,1)] giN [cI (cI gi0)] (fun r=>[(0,(.string ⟨l.toArray⟩,0)),(2,(.pointer (some ⟨r 0,0,none⟩),1)),(5,(.int .i64 ((j:Int)),0))]) (fun r=>[(0,(23,cZ1'))]) 100 (rn) (hS2) (hM2) [(.p _ true h1),(.p _ true h1),(.p _ true h1),(.p _ true h1),(.p _ true h1),(.p _ true h2),(.p _ true h2),(.p _ true h2),(.p _ true h2),(.p _ true h2),(.p _ true h3)] [lV (Instr.index 9 (.string ⟨l.toArray⟩) (.int .i64 (j:Int))) (.int .u8 (c:Int)) (fun w hC=>hB w),lV (Instr.index 9 (.string ⟨l.toArray⟩) (.int .i64 (j:Int))) (.int .u8 (c:Int)) (fun w hC=>hB w),lE .i64 ((((j:Int)):Int)+((1):Int)) (((j+1:Nat):Int)) (v1)] (VEx.n) (fun r=>[(0,(.string ⟨l.toArray⟩,0)),(2,(.pointer (some ⟨r 0,0,none⟩),1)),(5,(.int .i64 (((j+1:Nat):Int)),0))]) [] (fun r=>[(0,(23,cZ1'))]) ?_
  intro a3 w3 hS3 hK3 hM3
  exact ⟨(dgs l).length - (j+1),by omega,j+1,rfl,by omega,hS3,hM3⟩
 ·have hfin:∀ a3 w3,St giN [(0,(.string ⟨l.toArray⟩,0)),(2,(.pointer (some ⟨rn 0,0,none⟩),1)),(5,(.int .i64 (j:Int),0))] a3→MemOk ⟨w,[]⟩ rn [(0,(23,cZ1'))] w3→wpL Tryz.prog (cPost 0 giC) (bodyPost Tryz.prog Tryz.f166 (RetV (.tuple #[vI (gintN l),.string ⟨(gintR l).toArray⟩,.bool (gintB l)]) w)) a3 w3:=by
   intro a3 w3 hS3 hM3
   unfold gintN gintR gintB
   by_cases h60:60<(dgs l).length
   ·have h:decide ((60:Int)<(j:Int))=true:=decide_eq_true (by omega)
    rw [if_pos h60,if_pos h60,if_pos h60,zbY]
    refine vk (X:=⟨w,[]⟩) [] giN (cPost 0 giC) (fun r=>[(0,(.string ⟨l.toArray⟩,0)),(2,(.pointer (some ⟨r 0,0,none⟩),1)),(5,(.int .i64 ((j:Int)),0))]) (fun r=>[(0,(23,cZ1'))]) 200 (rn) (hS3) (hM3) [(.p _ true h)] [] (VEx.r) (fun r=>[(2,(.pointer (some ⟨r 0,0,none⟩),1)),(3,(.string ⟨l.toArray⟩,0)),(4,(.bool false,0))]) [] (fun r=>[(0,(23,cZ1'))]) ?_
    intro a4 w4 hS4 hK4 hM4
    exact za4 (fn:=Tryz.f166) hS4 hM4 (.tuple #[.agg #[.bool false,.string ⟨#[]⟩],.string ⟨l.toArray⟩,.bool false]) (fun g=>by kernel_rfl) ⟨rfl,hM4.below.below (Nat.le_refl _) (fun x h=>by cases h)⟩
   ·have h:decide ((60:Int)<(j:Int))=false:=decide_eq_false (by omega)
    rw [if_neg h60,if_neg h60,if_neg h60]
    have s1:=zgN l j (by omega)
    have s2:=zd0 l j (by omega)
    have ej:j=(dgs l).length:=by omega
    have P:=fun w=>zkD (dgs l) w (zcJ l) (by omega)
    rw [show l.take j=dgs l by rw [ej,zeG]] at s1
    rw [show l.drop j=dgr l by rw [ej,zeJ]] at s2
    clear ej
    generalize dgs l=ds at *
    generalize dgr l=dr at *
    generalize (numP ds:Int)=n at *
    cases hp:pOk ds
    all_goals rw [hp] at P
    ·simp only [Bool.false_eq_true,if_false] at P
     refine vk (X:=⟨w,[]⟩) [(6,2),(7,3)] giN (cPost 0 giC) (fun r=>[(0,(.string ⟨l.toArray⟩,0)),(2,(.pointer (some ⟨r 0,0,none⟩),1)),(5,(.int .i64 ((j:Int)),0))]) (fun r=>[(0,(23,cZ1'))]) 200 (rn) (hS3) (hM3) [(.p _ false h)] [lV (Instr.sliceAt 9 (.string ⟨l.toArray⟩) none (some (.int .i64 (j:Int))) none) (.string ⟨ds.toArray⟩) (fun w hC=>s1 w),cV (P),lV (Instr.sliceAt 9 (.string ⟨l.toArray⟩) (some (.int .i64 (j:Int))) none none) (.string ⟨dr.toArray⟩) (fun w hC=>s2 w)] (VEx.r) (fun r=>[(2,(.pointer (some ⟨r 0,0,none⟩),1)),(3,(.string ⟨dr.toArray⟩,0)),(4,(.bool false,0))]) [] (fun r=>[(0,(23,#[.bool (sg n),.string (mg n)]))]) ?_
     intro a4 w4 hS4 hK4 hM4
     exact za4 (fn:=Tryz.f166) hS4 hM4 (.tuple #[vI n,.string ⟨dr.toArray⟩,.bool false]) (fun g=>by kernel_rfl) ⟨rfl,hM4.below.below (Nat.le_refl _) (fun x h=>by cases h)⟩
    ·simp only [if_true] at P
     refine vk (X:=⟨w,[]⟩) [(6,2),(7,3)] giN (cPost 0 giC) (fun r=>[(0,(.string ⟨l.toArray⟩,0)),(2,(.pointer (some ⟨r 0,0,none⟩),1)),(5,(.int .i64 ((j:Int)),0))]) (fun r=>[(0,(23,cZ1'))]) 200 (rn) (hS3) (hM3) [(.p _ false h)] [lV (Instr.sliceAt 9 (.string ⟨l.toArray⟩) none (some (.int .i64 (j:Int))) none) (.string ⟨ds.toArray⟩) (fun w hC=>s1 w),cV (P),lV (Instr.sliceAt 9 (.string ⟨l.toArray⟩) (some (.int .i64 (j:Int))) none none) (.string ⟨dr.toArray⟩) (fun w hC=>s2 w)] (VEx.r) (fun r=>[(2,(.pointer (some ⟨r 0,0,none⟩),1)),(3,(.string ⟨dr.toArray⟩,0)),(4,(.bool true,0))]) [] (fun r=>[(0,(23,#[.bool (sg n),.string (mg n)]))]) ?_
     intro a4 w4 hS4 hK4 hM4
     exact za4 (fn:=Tryz.f166) hS4 hM4 (.tuple #[vI n,.string ⟨dr.toArray⟩,.bool true]) (fun g=>by kernel_rfl) ⟨rfl,hM4.below.below (Nat.le_refl _) (fun x h=>by cases h)⟩
  have ej:j=(dgs l).length:=by omega
  rcases Nat.lt_or_ge (dgs l).length l.length with hlt | hge
  ·have h1:decide ((j:Int)<((ByteArray.mk l.toArray).size:Int))=true:=decide_eq_true (by omega)
   have hB:=zf9 l j (by omega)
   have hc2:¬ (48≤(l[j]'(by omega)).toNat∧(l[j]'(by omega)).toNat≤57):=by
    subst ej
    rw [← zcP,zh7 l hlt];decide
   generalize (l[j]'(by omega)).toNat=c at *
   by_cases h48:48≤c
   ·have h2:decide ((48:Int)≤(c:Int))=true:=decide_eq_true (by omega)
    have h3:decide ((c:Int)≤57)=false:=decide_eq_false (by omega)
    refine vk (X:=⟨w,[]⟩) [(2,7),(2,13)] giN [cI (cI gi0)] (fun r=>[(0,(.string ⟨l.toArray⟩,0)),(2,(.pointer (some ⟨r 0,0,none⟩),1)),(5,(.int .i64 ((j:Int)),0))]) (fun r=>[(0,(23,cZ1'))]) 100 (rn) (hS2) (hM2) [(.p _ true h1),(.p _ true h1),(.p _ true h1),(.p _ true h1),(.p _ true h1),(.p _ true h2),(.p _ true h2),(.p _ true h2),(.p _ true h2),(.p _ true h2),(.p _ false h3)] [lV (Instr.index 9 (.string ⟨l.toArray⟩) (.int .i64 (j:Int))) (.int .u8 (c:Int)) (fun w hC=>hB w),lV (Instr.index 9 (.string ⟨l.toArray⟩) (.int .i64 (j:Int))) (.int .u8 (c:Int)) (fun w hC=>hB w)] (VEx.x 0) (fun r=>[(0,(.string ⟨l.toArray⟩,0)),(2,(.pointer (some ⟨r 0,0,none⟩),1)),(5,(.int .i64 ((j:Int)),0))]) [] (fun r=>[(0,(23,cZ1'))]) ?_
    intro a3 w3 hS3 hK3 hM3
    exact zbP (zam (hfin a3 w3 hS3 hM3))
   ·have h2:decide ((48:Int)≤(c:Int))=false:=decide_eq_false (by omega)
    refine vk (X:=⟨w,[]⟩) [(2,7)] giN [cI (cI gi0)] (fun r=>[(0,(.string ⟨l.toArray⟩,0)),(2,(.pointer (some ⟨r 0,0,none⟩),1)),(5,(.int .i64 ((j:Int)),0))]) (fun r=>[(0,(23,cZ1'))]) 100 (rn) (hS2) (hM2) [(.p _ true h1),(.p _ true h1),(.p _ true h1),(.p _ true h1),(.p _ true h1),(.p _ false h2),(.p _ false h2),(.p _ false h2),(.p _ false h2),(.p _ false h2),.f] [lV (Instr.index 9 (.string ⟨l.toArray⟩) (.int .i64 (j:Int))) (.int .u8 (c:Int)) (fun w hC=>hB w)] (VEx.x 0) (fun r=>[(0,(.string ⟨l.toArray⟩,0)),(2,(.pointer (some ⟨r 0,0,none⟩),1)),(5,(.int .i64 ((j:Int)),0))]) [] (fun r=>[(0,(23,cZ1'))]) ?_
    intro a3 w3 hS3 hK3 hM3
    exact zbP (zam (hfin a3 w3 hS3 hM3))
  ·have h1:decide ((j:Int)<((ByteArray.mk l.toArray).size:Int))=false:=decide_eq_false (by omega)
   refine vk (X:=⟨w,[]⟩) [] giN [cI (cI gi0)] (fun r=>[(0,(.string ⟨l.toArray⟩,0)),(2,(.pointer (some ⟨r 0,0,none⟩),1)),(5,(.int .i64 ((j:Int)),0))]) (fun r=>[(0,(23,cZ1'))]) 100 (rn) (hS2) (hM2) [(.p _ false h1),(.p _ false h1),(.p _ false h1),(.p _ false h1),(.p _ false h1),.f,.f,.f,.f,.f,.f] [] (VEx.x 0) (fun r=>[(0,(.string ⟨l.toArray⟩,0)),(2,(.pointer (some ⟨r 0,0,none⟩),1)),(5,(.int .i64 ((j:Int)),0))]) [] (fun r=>[(0,(23,cZ1'))]) ?_
   intro a3 w3 hS3 hK3 hM3
   exact zbP (zam (hfin a3 w3 hS3 hM3))
theorem za5 (l p:List UInt8) (w:World):Calls Tryz.prog 115 #[.string ⟨l.toArray⟩,.string ⟨p.toArray⟩] w (RetV (.bool (Lib.hasPrefix l p)) w):=by
 have hs1:((ByteArray.mk l.toArray).size:Int)=(l.length:Int):=by simp [ByteArray.size]
 have hs2:((ByteArray.mk p.toArray).size:Int)=(p.length:Int):=by simp [ByteArray.size]
 by_cases h:p.length≤l.length
 ·have h1:decide (((ByteArray.mk p.toArray).size:Int)≤((ByteArray.mk l.toArray).size:Int))=true:=decide_eq_true (by omega)
  have sl:∀ w,(Instr.sliceAt 9 (.string ⟨l.toArray⟩) none (some (.int .i64 ((ByteArray.mk p.toArray).size:Int))) none).run Tryz.prog w = .ok (.string ⟨(l.take p.length).toArray⟩) w:=fun w=>by
   rw [hs2]
   exact zgN l p.length h w
  have hb:=zfl (l.take p.length) p
  have e:(l.take p.length == p)=Lib.hasPrefix l p:=by
   unfold Lib.hasPrefix
   rw [Bool.eq_iff_iff,List.isPrefixOf_iff_prefix,beq_iff_eq,List.prefix_iff_eq_take]
   exact eq_comm
  rw [e] at hb
  clear e
  generalize Lib.hasPrefix l p=bb at *
  generalize l.take p.length=q at *
  exact zac kr Tryz.func115 rfl [.string ⟨l.toArray⟩,.string ⟨p.toArray⟩] nle [(1,9),(1,11)] [(.p _ true h1),(.p _ true h1),(.p _ true h1),(.p _ true h1),(.p _ true h1),(.p _ true h1),(.p _ true h1)] [lV (Instr.sliceAt 9 (.string ⟨l.toArray⟩) none (some (.int .i64 ((ByteArray.mk p.toArray).size:Int))) none) (.string ⟨q.toArray⟩) (fun w hC=>sl w),lP (.bool ((ByteArray.mk q.toArray).toList == (ByteArray.mk p.toArray).toList)) (.bool bb) (congrArg Value.bool hb)]
 ·have h1:decide (((ByteArray.mk p.toArray).size:Int)≤((ByteArray.mk l.toArray).size:Int))=false:=decide_eq_false (by omega)
  have e:Lib.hasPrefix l p=false:=by
   cases hh:Lib.hasPrefix l p with
   | false=>rfl
   | true =>
    unfold Lib.hasPrefix at hh
    rw [List.isPrefixOf_iff_prefix] at hh
    exact absurd hh.length_le h
  rw [e]
  exact zac kr Tryz.func115 rfl [.string ⟨l.toArray⟩,.string ⟨p.toArray⟩] nle [] [(.p _ false h1),(.p _ false h1),(.p _ false h1),(.p _ false h1),(.p _ false h1),(.p _ false h1),(.p _ false h1)] []

theorem gmk1 {n d:Int} (w:World) (hn:Bd 80000000 n) (hd:Bd 80000000 d) (h0:d≠0):Calls Tryz.prog 59 #[.agg #[.bool (sg n),.string (mg n),.bool false,.string ⟨#[]⟩,.bool false,.string ⟨#[]⟩,.bool false,.string ⟨#[]⟩],vI d] w (RetV (.tuple #[vN (valD n d),.int .i64 0]) w):=by
 have hz:Bd 80000000 0:=(show Bd 1 0 by unfold Bd;decide).mono (by omega)
 have h:=zl7 ⟨n,0,0,0,d⟩ w ⟨hn,hz,hz,hz,hd⟩ h0
 unfold vA4 at h
 unfold valD
 simpa only [sg0,mg0] using h
theorem gmk0 {n:Int} (w:World):Calls Tryz.prog 59 #[.agg #[.bool (sg n),.string (mg n),.bool false,.string ⟨#[]⟩,.bool false,.string ⟨#[]⟩,.bool false,.string ⟨#[]⟩],vI 0] w (RetV (.tuple #[vZ,.int .i64 10]) w):=by
 have h:=zlI n 0 0 0 w
 unfold vA4 at h
 simpa only [sg0,mg0] using h
theorem zjJ (n:Int):valD n 1=intN n:=zoK (zaW n)
theorem slice1 (c:UInt8) (r:List UInt8) (w:World):(Instr.sliceAt 9 (.string ⟨(c :: r).toArray⟩) (some (.int .i64 1)) none none).run Tryz.prog w = .ok (.string ⟨r.toArray⟩) w:=zd0 (c :: r) 1 (by simp) w
theorem slice2 (c d:UInt8) (r:List UInt8) (w:World):(Instr.sliceAt 9 (.string ⟨(c :: d :: r).toArray⟩) (some (.int .i64 2)) none none).run Tryz.prog w = .ok (.string ⟨r.toArray⟩) w:=zd0 (c :: d :: r) 2 (by simp) w
theorem za8 (c:UInt8) (r:List UInt8) (w:World):Calls Tryz.prog 115 #[.string ⟨(c :: r).toArray⟩,.string ⟨#[c]⟩] w (RetV (.bool true) w):=by
 have h:=za5 (c :: r) [c] w
 have e:Lib.hasPrefix (c :: r) [c]=true:=(zb8 [c] r).1
 rwa [e] at h
theorem za1 (c:UInt8) (l:List UInt8) (w:World) (hn:∀ r,l≠c :: r):Calls Tryz.prog 115 #[.string ⟨l.toArray⟩,.string ⟨#[c]⟩] w (RetV (.bool false) w):=by
 have h:=za5 l [c] w
 rwa [(zcT [c] l hn).1] at h
def gvN (l:List UInt8):Value × List UInt8 × Int :=
 if gintB l=false then (vZ,gintR l,4)
 else match gintR l with
  | c :: r =>
   if c=47 then (if gintB r=false then (vZ,47 :: r,4) else if gintN r=0 then (vZ,gintR r,10) else (vN (valD (gintN l) (gintN r)),gintR r,0))
   else if c=46 then (if dgs r = []∨20<(dgs r).length then (vZ,r,4) else (vN (valD (gintN l * 10 ^ (dgs r).length+(numL (dgs r):Int)) (10 ^ (dgs r).length)),dgr r,0))
   else (vN (valD (gintN l) 1),c :: r,0)
  | []=>(vN (valD (gintN l) 1),[],0)
theorem zk5 (l l2:List UInt8) (n:Int) (w:World) (G1:∀ w,Calls Tryz.prog 166 #[.string ⟨l.toArray⟩] w (RetV (.tuple #[vI n,.string ⟨l2.toArray⟩,.bool false]) w)):Calls Tryz.prog 116 #[.string ⟨l.toArray⟩] w (RetV (.tuple #[vZ,.string ⟨l2.toArray⟩,.int .i64 4]) w):=by
 have O:=fun w=>zar 1 w (by omega) (by omega)
 exact zac kr Tryz.func116 rfl [.string ⟨l.toArray⟩] nle [] [.t] [cV (O),cV (G1)]
theorem ziQ (l r r2:List UInt8) (n d:Int) (w:World) (G1:∀ w,Calls Tryz.prog 166 #[.string ⟨l.toArray⟩] w (RetV (.tuple #[vI n,.string ⟨(47 :: r).toArray⟩,.bool true]) w)) (G2:∀ w,Calls Tryz.prog 166 #[.string ⟨r.toArray⟩] w (RetV (.tuple #[vI d,.string ⟨r2.toArray⟩,.bool false]) w)):Calls Tryz.prog 116 #[.string ⟨l.toArray⟩] w (RetV (.tuple #[vZ,.string ⟨(47 :: r).toArray⟩,.int .i64 4]) w):=by
 have O:=fun w=>zar 1 w (by omega) (by omega)
 have S1:=fun w=>za8 47 r w
 have sl:=slice1 47 r
 generalize 47 :: r=l2 at *
 exact zac kr Tryz.func116 rfl [.string ⟨l.toArray⟩] nle [(6,1)] [.f,.t,.t] [cV (O),cV (G1),cV (S1),lV (Instr.sliceAt 9 (.string ⟨l2.toArray⟩) (some (.int .i64 1)) none none) (.string ⟨r.toArray⟩) (fun w hC=>sl w),cV (G2)]
theorem zho (l r r2:List UInt8) (n d:Int) (x:Nm) (w:World) (G1:∀ w,Calls Tryz.prog 166 #[.string ⟨l.toArray⟩] w (RetV (.tuple #[vI n,.string ⟨(47 :: r).toArray⟩,.bool true]) w)) (G2:∀ w,Calls Tryz.prog 166 #[.string ⟨r.toArray⟩] w (RetV (.tuple #[vI d,.string ⟨r2.toArray⟩,.bool true]) w))
  (M:∀ w,Calls Tryz.prog 59 #[.agg #[.bool (sg n),.string (mg n),.bool false,.string ⟨#[]⟩,.bool false,.string ⟨#[]⟩,.bool false,.string ⟨#[]⟩],vI d] w (RetV (.tuple #[vN x,.int .i64 0]) w)):Calls Tryz.prog 116 #[.string ⟨l.toArray⟩] w (RetV (.tuple #[vN x,.string ⟨r2.toArray⟩,.int .i64 0]) w):=by
 have O:=fun w=>zar 1 w (by omega) (by omega)
 have S1:=fun w=>za8 47 r w
 have sl:=slice1 47 r
 generalize 47 :: r=l2 at *
 exact zac kr Tryz.func116 rfl [.string ⟨l.toArray⟩] nle [(6,1)] [.f,.t,.f] [cV (O),cV (G1),cV (S1),lV (Instr.sliceAt 9 (.string ⟨l2.toArray⟩) (some (.int .i64 1)) none none) (.string ⟨r.toArray⟩) (fun w hC=>sl w),cV (G2),cV (M)]
theorem zkK (l r r2:List UInt8) (n:Int) (w:World) (G1:∀ w,Calls Tryz.prog 166 #[.string ⟨l.toArray⟩] w (RetV (.tuple #[vI n,.string ⟨(47 :: r).toArray⟩,.bool true]) w)) (G2:∀ w,Calls Tryz.prog 166 #[.string ⟨r.toArray⟩] w (RetV (.tuple #[vI 0,.string ⟨r2.toArray⟩,.bool true]) w)) :
  Calls Tryz.prog 116 #[.string ⟨l.toArray⟩] w (RetV (.tuple #[vZ,.string ⟨r2.toArray⟩,.int .i64 10]) w):=by
 have O:=fun w=>zar 1 w (by omega) (by omega)
 have S1:=fun w=>za8 47 r w
 have M:=fun w=>gmk0 (n:=n) w
 have sl:=slice1 47 r
 generalize 47 :: r=l2 at *
 exact zac kr Tryz.func116 rfl [.string ⟨l.toArray⟩] nle [(6,1)] [.f,.t,.f] [cV (O),cV (G1),cV (S1),lV (Instr.sliceAt 9 (.string ⟨l2.toArray⟩) (some (.int .i64 1)) none none) (.string ⟨r.toArray⟩) (fun w hC=>sl w),cV (G2),cV (M)]
theorem zeE (l l2:List UInt8) (n:Int) (w:World) (G1:∀ w,Calls Tryz.prog 166 #[.string ⟨l.toArray⟩] w (RetV (.tuple #[vI n,.string ⟨l2.toArray⟩,.bool true]) w)) (h1:∀ r,l2≠47 :: r) (h2:∀ r,l2≠46 :: r) :
  Calls Tryz.prog 116 #[.string ⟨l.toArray⟩] w (RetV (.tuple #[vN (valD n 1),.string ⟨l2.toArray⟩,.int .i64 0]) w):=by
 have O:=fun w=>zar 1 w (by omega) (by omega)
 have S1:=fun w=>za1 47 l2 w h1
 have S2:=fun w=>za1 46 l2 w h2
 have e:vN (valD n 1) = .agg #[.bool (sg n),.string (mg n),.bool false,.string ⟨#[]⟩,.bool false,.string ⟨#[]⟩,.bool false,.string ⟨#[]⟩,.bool (sg 1),.string (mg 1)]:=by
  rw [zjJ]
  unfold intN vN
  simp only [sg0,mg0]
 rw [e]
 exact zac kr Tryz.func116 rfl [.string ⟨l.toArray⟩] nle [] [.f,.f,.t] [cV (O),cV (G1),cV (S1),cV (S2)]
noncomputable def gvNn:Nat:=Tryz.f116.ntmps
noncomputable def gvC:Code:=Tryz.f116.body.getD .skip
noncomputable def gv0:Code:=cB 0 gvC
def gvM (n q:Int):Mem:=[(0,(26,zcN)),(12,(23,cI1 n)),(27,(23,cI1 q))]
def gvS (rn:Nat→Nat) (r:List UInt8) (j:Nat):Env:=[(0,(.string ⟨r.toArray⟩,0)),(2,(.pointer (some ⟨rn 0,0,none⟩),1)),(6,(.pointer (some ⟨rn 12,0,none⟩),13)),(13,(.pointer (some ⟨rn 27,0,none⟩),28)),(14,(.int .i64 (j:Int),0))]
theorem zqO (X:Cx) (rn:Nat→Nat) (l:List UInt8) (j c d:Nat) (n q n1 n2 q2:Int) (a:Act) (w:World) {Q:Exit→Act→World→Prop} (hS:St gvNn (gvS rn l j) a) (hM:MemOk X rn (gvM n q) w) (hj:j<1000000)
  (h1:decide ((j:Int)<((ByteArray.mk l.toArray).size:Int))=true) (hB:∀ w,(Instr.index 9 (.string ⟨l.toArray⟩) (.int .i64 (j:Int))).run Tryz.prog w = .ok (.int .u8 (c:Int)) w) (hc1:c=48+d) (hd:d≤9)
  (M1:∀ w,Calls Tryz.prog 96 #[vI n,vI 10] w (RetI n1 w)) (A1:∀ w,Calls Tryz.prog 98 #[vI n1,vI (d:Int)] w (RetI n2 w)) (M2:∀ w,Calls Tryz.prog 96 #[vI q,vI 10] w (RetI q2 w))
  (hQ:∀ a' w',St gvNn (gvS rn l (j+1)) a'→MemOk X rn (gvM n2 q2) w'→Q .normal a' w'):wpL Tryz.prog [cI (cI gv0)] Q a w:=by
 unfold gvS gvM at *
 have h2:decide ((48:Int)≤(c:Int))=true:=decide_eq_true (by omega)
 have h3:decide ((c:Int)≤57)=true:=decide_eq_true (by omega)
 have v1:IntKind.i64.wrap ((j:Int)+1)=((j+1:Nat):Int):=by rw [wr64 (by omega) (by omega)];omega
 have v2:IntKind.u8.wrap ((c:Int) - 48)=(d:Int):=by rw [wrb8 (by omega) (by omega)];omega
 have C8:=conv8 d (by omega)
 have O10:=fun w=>zar 10 w (by omega) (by omega)
 have OD:=fun w=>zar (d:Int) w (by omega) (by omega)
 clear hc1 hd hj
 refine vk (X:=X) [(15,7),(15,13),(16,5),(16,6),(16,7),(18,1)] gvNn [cI (cI gv0)] (fun r=>[(0,(.string ⟨l.toArray⟩,0)),(2,(.pointer (some ⟨r 0,0,none⟩),1)),(6,(.pointer (some ⟨r 12,0,none⟩),13)),(13,(.pointer (some ⟨r 27,0,none⟩),28)),(14,(.int .i64 ((j:Int)),0))]) (fun r=>[(0,(26,zcN)),(12,(23,cI1 n)),(27,(23,cI1 q))]) 100 (rn) (hS) (hM) [(.p _ true h1),(.p _ true h1),(.p _ true h1),(.p _ true h1),(.p _ true h1),(.p _ true h2),(.p _ true h2),(.p _ true h2),(.p _ true h2),(.p _ true h2),(.p _ true h3)] [lV (Instr.index 9 (.string ⟨l.toArray⟩) (.int .i64 (j:Int))) (.int .u8 (c:Int)) (fun w hC=>hB w),lV (Instr.index 9 (.string ⟨l.toArray⟩) (.int .i64 (j:Int))) (.int .u8 (c:Int)) (fun w hC=>hB w),cV (O10),cV (M1),lV (Instr.index 9 (.string ⟨l.toArray⟩) (.int .i64 (j:Int))) (.int .u8 (c:Int)) (fun w hC=>hB w),lE .u8 ((((c:Int)):Int) - ((48):Int)) ((d:Int)) (v2),lV (convert 5 3 (.int .u8 (d:Int))) (.int .i64 (d:Int)) (fun w hh=>C8 w),cV (OD),cV (A1),cV (O10),cV (M2),lE .i64 ((((j:Int)):Int)+((1):Int)) (((j+1:Nat):Int)) (v1)] (VEx.n) (fun r=>[(0,(.string ⟨l.toArray⟩,0)),(2,(.pointer (some ⟨r 0,0,none⟩),1)),(6,(.pointer (some ⟨r 12,0,none⟩),13)),(13,(.pointer (some ⟨r 27,0,none⟩),28)),(14,(.int .i64 (((j+1:Nat):Int)),0))]) [] (fun r=>[(0,(26,zcN)),(12,(23,cI1 n2)),(27,(23,cI1 q2))]) ?_
 intro a3 w3 hS3 hK3 hM3
 exact hQ a3 w3 hS3 hM3
theorem zoW (X:Cx) (rn:Nat→Nat) (l:List UInt8) (j:Nat) (n q:Int) (a:Act) (w:World) {Q:Exit→Act→World→Prop} (hS:St gvNn (gvS rn l j) a) (hM:MemOk X rn (gvM n q) w) (h1:decide ((j:Int)<((ByteArray.mk l.toArray).size:Int))=false)
  (hQ:∀ a' w',St gvNn (gvS rn l j) a'→MemOk X rn (gvM n q) w'→Q (.exit 0) a' w'):wpL Tryz.prog [cI (cI gv0)] Q a w:=by
 unfold gvS gvM at *
 refine vk (X:=X) [] gvNn [cI (cI gv0)] (fun r=>[(0,(.string ⟨l.toArray⟩,0)),(2,(.pointer (some ⟨r 0,0,none⟩),1)),(6,(.pointer (some ⟨r 12,0,none⟩),13)),(13,(.pointer (some ⟨r 27,0,none⟩),28)),(14,(.int .i64 ((j:Int)),0))]) (fun r=>[(0,(26,zcN)),(12,(23,cI1 n)),(27,(23,cI1 q))]) 100 (rn) (hS) (hM) [(.p _ false h1),(.p _ false h1),(.p _ false h1),(.p _ false h1),(.p _ false h1),.f,.f,.f,.f,.f,.f] [] (VEx.x 0) (fun r=>[(0,(.string ⟨l.toArray⟩,0)),(2,(.pointer (some ⟨r 0,0,none⟩),1)),(6,(.pointer (some ⟨r 12,0,none⟩),13)),(13,(.pointer (some ⟨r 27,0,none⟩),28)),(14,(.int .i64 ((j:Int)),0))]) [] (fun r=>[(0,(26,zcN)),(12,(23,cI1 n)),(27,(23,cI1 q))]) ?_
 intro a3 w3 hS3 hK3 hM3
 exact hQ a3 w3 hS3 hM3
theorem znP (X:Cx) (rn:Nat→Nat) (l:List UInt8) (j:Nat) (n q:Int) (a:Act) (w:World) {Q:Exit→Act→World→Prop} (hS:St gvNn (gvS rn l j) a) (hM:MemOk X rn (gvM n q) w) (c:Nat) (h1:decide ((j:Int)<((ByteArray.mk l.toArray).size:Int))=true) (hB:∀ w,(Instr.index 9 (.string ⟨l.toArray⟩) (.int .i64 (j:Int))).run Tryz.prog w = .ok (.int .u8 (c:Int)) w) (h2:decide ((48:Int)≤(c:Int))=false)
  (hQ:∀ a' w',St gvNn (gvS rn l j) a'→MemOk X rn (gvM n q) w'→Q (.exit 0) a' w'):wpL Tryz.prog [cI (cI gv0)] Q a w:=by
 unfold gvS gvM at *
 refine vk (X:=X) [(15,7)] gvNn [cI (cI gv0)] (fun r=>[(0,(.string ⟨l.toArray⟩,0)),(2,(.pointer (some ⟨r 0,0,none⟩),1)),(6,(.pointer (some ⟨r 12,0,none⟩),13)),(13,(.pointer (some ⟨r 27,0,none⟩),28)),(14,(.int .i64 ((j:Int)),0))]) (fun r=>[(0,(26,zcN)),(12,(23,cI1 n)),(27,(23,cI1 q))]) 100 (rn) (hS) (hM) [(.p _ true h1),(.p _ true h1),(.p _ true h1),(.p _ true h1),(.p _ true h1),(.p _ false h2),(.p _ false h2),(.p _ false h2),(.p _ false h2),(.p _ false h2),.f] [lV (Instr.index 9 (.string ⟨l.toArray⟩) (.int .i64 (j:Int))) (.int .u8 (c:Int)) (fun w hC=>hB w)] (VEx.x 0) (fun r=>[(0,(.string ⟨l.toArray⟩,0)),(2,(.pointer (some ⟨r 0,0,none⟩),1)),(6,(.pointer (some ⟨r 12,0,none⟩),13)),(13,(.pointer (some ⟨r 27,0,none⟩),28)),(14,(.int .i64 ((j:Int)),0))]) [] (fun r=>[(0,(26,zcN)),(12,(23,cI1 n)),(27,(23,cI1 q))]) ?_
 intro a3 w3 hS3 hK3 hM3
 exact hQ a3 w3 hS3 hM3
theorem zo6 (X:Cx) (rn:Nat→Nat) (l:List UInt8) (j:Nat) (n q:Int) (a:Act) (w:World) {Q:Exit→Act→World→Prop} (hS:St gvNn (gvS rn l j) a) (hM:MemOk X rn (gvM n q) w) (c:Nat) (h1:decide ((j:Int)<((ByteArray.mk l.toArray).size:Int))=true) (hB:∀ w,(Instr.index 9 (.string ⟨l.toArray⟩) (.int .i64 (j:Int))).run Tryz.prog w = .ok (.int .u8 (c:Int)) w) (h2:decide ((48:Int)≤(c:Int))=true) (h3:decide ((c:Int)≤57)=false)
  (hQ:∀ a' w',St gvNn (gvS rn l j) a'→MemOk X rn (gvM n q) w'→Q (.exit 0) a' w'):wpL Tryz.prog [cI (cI gv0)] Q a w:=by
 unfold gvS gvM at *
 refine vk (X:=X) [(15,7),(15,13)] gvNn [cI (cI gv0)] (fun r=>[(0,(.string ⟨l.toArray⟩,0)),(2,(.pointer (some ⟨r 0,0,none⟩),1)),(6,(.pointer (some ⟨r 12,0,none⟩),13)),(13,(.pointer (some ⟨r 27,0,none⟩),28)),(14,(.int .i64 ((j:Int)),0))]) (fun r=>[(0,(26,zcN)),(12,(23,cI1 n)),(27,(23,cI1 q))]) 100 (rn) (hS) (hM) [(.p _ true h1),(.p _ true h1),(.p _ true h1),(.p _ true h1),(.p _ true h1),(.p _ true h2),(.p _ true h2),(.p _ true h2),(.p _ true h2),(.p _ true h2),(.p _ false h3)] [lV (Instr.index 9 (.string ⟨l.toArray⟩) (.int .i64 (j:Int))) (.int .u8 (c:Int)) (fun w hC=>hB w),lV (Instr.index 9 (.string ⟨l.toArray⟩) (.int .i64 (j:Int))) (.int .u8 (c:Int)) (fun w hC=>hB w)] (VEx.x 0) (fun r=>[(0,(.string ⟨l.toArray⟩,0)),(2,(.pointer (some ⟨r 0,0,none⟩),1)),(6,(.pointer (some ⟨r 12,0,none⟩),13)),(13,(.pointer (some ⟨r 27,0,none⟩),28)),(14,(.int .i64 ((j:Int)),0))]) [] (fun r=>[(0,(26,zcN)),(12,(23,cI1 n)),(27,(23,cI1 q))]) ?_
 intro a3 w3 hS3 hK3 hM3
 exact hQ a3 w3 hS3 hM3
theorem zq8 (X:Cx) (rn:Nat→Nat) (l:List UInt8) (j:Nat) (n q:Int) (a:Act) (w:World) (post:Ending→World→Prop) (hS:St gvNn (gvS rn l j) a) (hM:MemOk X rn (gvM n q) w) (h1:((j:Int) == 0)=true)
  (hp:∀ w',Chg X.L X.w0 w'→post (.returned (.tuple #[vZ,.string ⟨l.toArray⟩,.int .i64 4])) w'):wpL Tryz.prog (cPost 0 gvC) (bodyPost Tryz.prog Tryz.f116 post) a w:=by
 unfold gvS gvM at *
 refine vk (X:=X) [] gvNn (cPost 0 gvC) (fun r=>[(0,(.string ⟨l.toArray⟩,0)),(2,(.pointer (some ⟨r 0,0,none⟩),1)),(6,(.pointer (some ⟨r 12,0,none⟩),13)),(13,(.pointer (some ⟨r 27,0,none⟩),28)),(14,(.int .i64 ((j:Int)),0))]) (fun r=>[(0,(26,zcN)),(12,(23,cI1 n)),(27,(23,cI1 q))]) 200 (rn) (hS) (hM) [(.p _ true h1),(.p _ true h1),(.p _ true h1),.t] [] (VEx.r) (fun r=>[(2,(.pointer (some ⟨r 0,0,none⟩),1)),(3,(.string ⟨l.toArray⟩,0)),(4,(.int .i64 (4),0))]) [] (fun r=>[(0,(26,zcN))]) ?_
 intro a4 w4 hS4 hK4 hM4
 exact za4 (fn:=Tryz.f116) hS4 hM4 (.tuple #[vZ,.string ⟨l.toArray⟩,.int .i64 4]) (fun g=>by kernel_rfl) (hp w4 hM4.below)
theorem zre (X:Cx) (rn:Nat→Nat) (l:List UInt8) (j:Nat) (n q:Int) (a:Act) (w:World) (post:Ending→World→Prop) (hS:St gvNn (gvS rn l j) a) (hM:MemOk X rn (gvM n q) w) (h1:((j:Int) == 0)=false) (h2:decide ((20:Int)<(j:Int))=true)
  (hp:∀ w',Chg X.L X.w0 w'→post (.returned (.tuple #[vZ,.string ⟨l.toArray⟩,.int .i64 4])) w'):wpL Tryz.prog (cPost 0 gvC) (bodyPost Tryz.prog Tryz.f116 post) a w:=by
 unfold gvS gvM at *
 refine vk (X:=X) [] gvNn (cPost 0 gvC) (fun r=>[(0,(.string ⟨l.toArray⟩,0)),(2,(.pointer (some ⟨r 0,0,none⟩),1)),(6,(.pointer (some ⟨r 12,0,none⟩),13)),(13,(.pointer (some ⟨r 27,0,none⟩),28)),(14,(.int .i64 ((j:Int)),0))]) (fun r=>[(0,(26,zcN)),(12,(23,cI1 n)),(27,(23,cI1 q))]) 200 (rn) (hS) (hM) [(.p _ false h1),(.p _ false h1),(.p _ false h1),(.p _ true h2)] [] (VEx.r) (fun r=>[(2,(.pointer (some ⟨r 0,0,none⟩),1)),(3,(.string ⟨l.toArray⟩,0)),(4,(.int .i64 (4),0))]) [] (fun r=>[(0,(26,zcN))]) ?_
 intro a4 w4 hS4 hK4 hM4
 exact za4 (fn:=Tryz.f116) hS4 hM4 (.tuple #[vZ,.string ⟨l.toArray⟩,.int .i64 4]) (fun g=>by kernel_rfl) (hp w4 hM4.below)
theorem zp7 (X:Cx) (rn:Nat→Nat) (l z:List UInt8) (j:Nat) (n q:Int) (x:Nm) (a:Act) (w:World) (post:Ending→World→Prop) (hS:St gvNn (gvS rn l j) a) (hM:MemOk X rn (gvM n q) w)
  (h1:((j:Int) == 0)=false) (h2:decide ((20:Int)<(j:Int))=false) (s2:∀ w,(Instr.sliceAt 9 (.string ⟨l.toArray⟩) (some (.int .i64 (j:Int))) none none).run Tryz.prog w = .ok (.string ⟨z.toArray⟩) w)
  (M:∀ w,Calls Tryz.prog 59 #[.agg #[.bool (sg n),.string (mg n),.bool false,.string ⟨#[]⟩,.bool false,.string ⟨#[]⟩,.bool false,.string ⟨#[]⟩],vI q] w (RetV (.tuple #[vN x,.int .i64 0]) w))
  (hp:∀ w',Chg X.L X.w0 w'→post (.returned (.tuple #[vN x,.string ⟨z.toArray⟩,.int .i64 0])) w'):wpL Tryz.prog (cPost 0 gvC) (bodyPost Tryz.prog Tryz.f116 post) a w:=by
 unfold gvS gvM at *
 refine vk (X:=X) [(22,3)] gvNn (cPost 0 gvC) (fun r=>[(0,(.string ⟨l.toArray⟩,0)),(2,(.pointer (some ⟨r 0,0,none⟩),1)),(6,(.pointer (some ⟨r 12,0,none⟩),13)),(13,(.pointer (some ⟨r 27,0,none⟩),28)),(14,(.int .i64 ((j:Int)),0))]) (fun r=>[(0,(26,zcN)),(12,(23,cI1 n)),(27,(23,cI1 q))]) 200 (rn) (hS) (hM) [(.p _ false h1),(.p _ false h1),(.p _ false h1),(.p _ false h2)] [cV (M),lV (Instr.sliceAt 9 (.string ⟨l.toArray⟩) (some (.int .i64 (j:Int))) none none) (.string ⟨z.toArray⟩) (fun w hC=>s2 w)] (VEx.r) (fun r=>[(2,(.pointer (some ⟨r 0,0,none⟩),1)),(3,(.string ⟨z.toArray⟩,0)),(4,(.int .i64 (0),0))]) [] (fun r=>[(0,(26,xcN x))]) ?_
 intro a4 w4 hS4 hK4 hM4
 exact za4 (fn:=Tryz.f116) hS4 hM4 (.tuple #[vN x,.string ⟨z.toArray⟩,.int .i64 0]) (fun g=>by kernel_rfl) (hp w4 hM4.below)

theorem znE (l:List UInt8) (j:Nat) (h:j<l.length):numL (l.take (j+1))=numL (l.take j) * 10+(l[j].toNat - 48):=by
 rw [List.take_succ_eq_append_getElem h,zec]
theorem zja (l:List UInt8):Bd 60 (gintN l):=by
 unfold gintN
 split
 ·exact Bd.zero _
 ·exact (zfc (dgs l) (zcJ l)).mono (by omega)
theorem zkU (l q:List UInt8) (n:Int) (w:World) (hl:q.length≤400) (bn:Bd 60 n) (G1:∀ w,Calls Tryz.prog 166 #[.string ⟨l.toArray⟩] w (RetV (.tuple #[vI n,.string ⟨(46 :: q).toArray⟩,.bool true]) w)) :
  Calls Tryz.prog 116 #[.string ⟨l.toArray⟩] w (RetV (if dgs q = []∨20<(dgs q).length then .tuple #[vZ,.string ⟨q.toArray⟩,.int .i64 4] else .tuple #[vN (valD (n * 10 ^ (dgs q).length+(numL (dgs q):Int)) (10 ^ (dgs q).length)),.string ⟨(dgr q).toArray⟩,.int .i64 0]) w):=by
 obtain ⟨post,hpost⟩:∃ post,post=RetV (if dgs q = []∨20<(dgs q).length then .tuple #[vZ,.string ⟨q.toArray⟩,.int .i64 4] else .tuple #[vN (valD (n * 10 ^ (dgs q).length+(numL (dgs q):Int)) (10 ^ (dgs q).length)),.string ⟨(dgr q).toArray⟩,.int .i64 0]) w:=⟨_,rfl⟩
 rw [← hpost]
 have O:=fun w=>zar 1 w (by omega) (by omega)
 have S1:=fun w=>za1 47 (46 :: q) w (fun _ h=>by injection h with h _;exact absurd h (by decide))
 have S2:=fun w=>za8 46 q w
 have sl:=slice1 46 q
 refine zbp [.string ⟨l.toArray⟩] (fn:=Tryz.f116) (c:=gvC) kr kr nle ?_
 intro a hS
 refine zaT 0 kr ?_
 have e0:n * 10 ^ 0+(numL ((dgs q).take 0):Int)=n:=by simp [numL]
 have key:∀ (rn:Nat→Nat) a1 w1,St gvNn (gvS rn q 0) a1→MemOk ⟨w,[]⟩ rn (gvM n 1) w1→(cAt 0 gvC).wp Tryz.prog (Exit.then (fun a2 w2=>wpL Tryz.prog (cPost 0 gvC) (bodyPost Tryz.prog Tryz.f116 post) a2 w2) (bodyPost Tryz.prog Tryz.f116 post)) a1 w1:=by
  intro rn a1 w1 hS1 hM1
  have hd:=zcO q
  have dd:=zcJ q
  refine zbD 0 kr kr (fun k a' w'=>∃ j,(dgs q).length - j=k∧j≤(dgs q).length∧St gvNn (gvS rn q j) a'∧MemOk ⟨w,[]⟩ rn (gvM (n * 10 ^ j+(numL ((dgs q).take j):Int)) (10 ^ j)) w') ((dgs q).length - 0) ⟨0,rfl,by omega,hS1,by rw [e0];exact hM1⟩ ?_
  clear hS1 hM1
  rintro k a2 w2 ⟨j,rfl,hj,hS2,hM2⟩
  refine zaA ?_
  have hsz:((ByteArray.mk q.toArray).size:Int)=(q.length:Int):=by simp [ByteArray.size]
  rcases Nat.lt_or_ge j (dgs q).length with hjk | hjk
  ·have h1:decide ((j:Int)<((ByteArray.mk q.toArray).size:Int))=true:=decide_eq_true (by omega)
   have hB:=zf9 q j (by omega)
   have hg:(dgs q)[j]=q[j]'(by omega):=by
    have e:(dgs q)[j]?=q[j]?:=by rw [← zeG q,List.getElem?_take,if_pos hjk]
    rw [List.getElem?_eq_getElem hjk,List.getElem?_eq_getElem (by omega)] at e
    exact Option.some.inj e
   have hn:=znE (dgs q) j hjk
   rw [hg] at hn
   obtain ⟨c1,c2⟩:=(zcP _).1 (zmJ q j hjk (by omega))
   generalize (q[j]'(by omega)).toNat=c at *
   have bt:Bd (j+1) (numL ((dgs q).take j):Int):=(zfq ((dgs q).take j) (fun c hc=>dd c (List.mem_of_mem_take hc))).mono (by simp;omega)
   have b10:=ziX j
   have bb:Bd 1 (10:Int):=by unfold Bd;decide
   have bd:Bd 1 ((c - 48:Nat):Int):=by unfold Bd;rw [Int.natAbs_natCast];omega
   have bc:Bd 1000 (n * 10 ^ j+(numL ((dgs q).take j):Int)):=(((bn.mul b10).mono (show _≤999 by omega)).add (bt.mono (by omega))).mono (by omega)
   have M1:=fun w=>zax _ 10 w (bc.mono (by omega)) (bb.mono (by omega))
   have A1:=fun w=>zbM _ ((c - 48:Nat):Int) w ((bc.mul bb).mono (by omega)) (bd.mono (by omega))
   have M2:=fun w=>zax _ 10 w (b10.mono (by omega)) (bb.mono (by omega))
   refine zqO ⟨w,[]⟩ rn q j c (c - 48) _ _ _ _ _ a2 w2 hS2 hM2 (by omega) h1 hB (by omega) (by omega) M1 A1 M2 ?_
   intro a3 w3 hS3 hM3
   refine ⟨(dgs q).length - (j+1),by omega,j+1,rfl,by omega,hS3,?_⟩
   rw [hn,show (10:Int) ^ (j+1)=10 ^ j * 10 from Int.pow_succ _ _]
   have e:n * (10 ^ j * 10)+((numL ((dgs q).take j) * 10+(c - 48):Nat):Int)=(n * 10 ^ j+(numL ((dgs q).take j):Int)) * 10+((c - 48:Nat):Int):=by
    rw [Int.natCast_add,Int.natCast_mul]
    generalize (10:Int) ^ j=t
    generalize ((c - 48:Nat):Int)=u
    generalize (numL ((dgs q).take j):Int)=v
    grind
   rw [e]
   exact hM3
  ·obtain rfl:j=(dgs q).length:=by omega
   rw [List.take_length] at hM2
   have hfin:∀ a3 w3,St gvNn (gvS rn q (dgs q).length) a3→MemOk ⟨w,[]⟩ rn (gvM (n * 10 ^ (dgs q).length+(numL (dgs q):Int)) (10 ^ (dgs q).length)) w3→wpL Tryz.prog (cPost 0 gvC) (bodyPost Tryz.prog Tryz.f116 post) a3 w3:=by
    intro a3 w3 hS3 hM3
    by_cases h0:dgs q = []
    ·rw [if_pos (.inl h0)] at hpost
     have g1:(((dgs q).length:Int) == 0)=true:=by rw [h0];rfl
     exact zq8 ⟨w,[]⟩ rn q _ _ _ a3 w3 post hS3 hM3 g1 (fun w' hc=>by rw [hpost];exact ⟨rfl,hc.below (Nat.le_refl _) (fun x h=>by cases h)⟩)
    ·have g0:(dgs q).length≠0:=fun h=>h0 (List.eq_nil_of_length_eq_zero h)
     have g1:(((dgs q).length:Int) == 0)=false:=by simpa using g0
     by_cases h20:20<(dgs q).length
     ·rw [if_pos (.inr h20)] at hpost
      exact zre ⟨w,[]⟩ rn q _ _ _ a3 w3 post hS3 hM3 g1 (decide_eq_true (by omega)) (fun w' hc=>by rw [hpost];exact ⟨rfl,hc.below (Nat.le_refl _) (fun x h=>by cases h)⟩)
     ·rw [if_neg (fun h=>h.elim h0 h20)] at hpost
      have s2:=zd0 q (dgs q).length (by omega)
      rw [zeJ] at s2
      have b10:=ziX (dgs q).length
      have bt:=zfq (dgs q) dd
      have q0:(10:Int) ^ (dgs q).length≠0:=Int.pow_ne_zero (by decide)
      have M:=fun w=>gmk1 w ((((bn.mul b10).mono (show _≤999 by omega)).add (bt.mono (by omega))).mono (by omega)) (b10.mono (by omega)) q0
      exact zp7 ⟨w,[]⟩ rn q _ _ _ _ _ a3 w3 post hS3 hM3 g1 (decide_eq_false (by omega)) s2 M (fun w' hc=>by rw [hpost];exact ⟨rfl,hc.below (Nat.le_refl _) (fun x h=>by cases h)⟩)
   rcases Nat.lt_or_ge (dgs q).length q.length with hlt | hge
   ·have h1:decide (((dgs q).length:Int)<((ByteArray.mk q.toArray).size:Int))=true:=decide_eq_true (by omega)
    have hB:=zf9 q (dgs q).length hlt
    have hc2:¬ (48≤(q[(dgs q).length]'hlt).toNat∧(q[(dgs q).length]'hlt).toNat≤57):=by
     rw [← zcP,zh7 q hlt];decide
    generalize (q[(dgs q).length]'hlt).toNat=c at *
    by_cases h48:48≤c
    ·exact zo6 ⟨w,[]⟩ rn q _ _ _ a2 w2 hS2 hM2 c h1 hB (decide_eq_true (by omega)) (decide_eq_false (by omega)) (fun a3 w3 h3 h4=>zbP (zam (hfin a3 w3 h3 h4)))
    ·exact znP ⟨w,[]⟩ rn q _ _ _ a2 w2 hS2 hM2 c h1 hB (decide_eq_false (by omega)) (fun a3 w3 h3 h4=>zbP (zam (hfin a3 w3 h3 h4)))
   ·exact zoW ⟨w,[]⟩ rn q _ _ _ a2 w2 hS2 hM2 (decide_eq_false (by omega)) (fun a3 w3 h3 h4=>zbP (zam (hfin a3 w3 h3 h4)))
 unfold gvS gvM at key
 generalize 46 :: q=l2 at *
 refine vf (X:=⟨w,[]⟩) [(13,1)] gvNn (cPre 0 gvC) (fun r=>[(0,(.string ⟨l.toArray⟩,0))]) (fun r=>[]) 0 (fun _=>0) (hS) (⟨Chg.refl _ _,fun k x h=>(by cases h),fun k k' x x' h=>by cases h⟩) [.f,.f,.f] [cV (O),cV (G1),cV (S1),cV (S2),lV (Instr.sliceAt 9 (.string ⟨l2.toArray⟩) (some (.int .i64 1)) none none) (.string ⟨q.toArray⟩) (fun w hC=>sl w)] (VEx.n) (fun r=>[(0,(.string ⟨q.toArray⟩,0)),(2,(.pointer (some ⟨r 0,0,none⟩),1)),(6,(.pointer (some ⟨r 12,0,none⟩),13)),(13,(.pointer (some ⟨r 27,0,none⟩),28)),(14,(.int .i64 (((0:Nat):Int)),0))]) [] (fun r=>[(0,(26,zcN)),(12,(23,cI1 n)),(27,(23,cI1 1))]) ?_
 intro rn a1 w1 hr hS1 hK1 hM1
 exact key rn a1 w1 hS1 hM1
theorem zk1 (l:List UInt8) (w:World) (hl:l.length≤400):Calls Tryz.prog 116 #[.string ⟨l.toArray⟩] w (RetV (.tuple #[(gvN l).1,.string ⟨(gvN l).2.1.toArray⟩,.int .i64 (gvN l).2.2]) w):=by
 have G1:=fun w=>zeD l w hl
 have bn:=zja l
 have hR:(gintR l).length≤l.length:=by
  have:=zcO l
  unfold gintR
  split <;> omega
 unfold gvN
 cases hB:gintB l with
 | false =>
  rw [hB] at G1
  rw [if_pos rfl]
  exact zk5 l _ _ w G1
 | true =>
  rw [hB] at G1
  rw [if_neg (by decide)]
  cases hr:gintR l with
  | nil =>
   rw [hr] at G1
   exact zeE l [] _ w G1 (fun _ h=>by cases h) (fun _ h=>by cases h)
  | cons c r =>
   rw [hr] at G1 hR
   rw [List.length_cons] at hR
   have G2:=fun w=>zeD r w (by omega)
   have bd:=zja r
   simp only
   by_cases c1:c=47
   ·subst c1
    rw [if_pos rfl]
    cases hB2:gintB r with
    | false =>
     rw [hB2] at G2
     rw [if_pos rfl]
     exact ziQ l r _ _ _ w G1 G2
    | true =>
     rw [hB2] at G2
     rw [if_neg (by decide)]
     by_cases h0:gintN r=0
     ·rw [if_pos h0]
      rw [h0] at G2
      exact zkK l r _ _ w G1 G2
     ·rw [if_neg h0]
      exact zho l r _ _ _ _ w G1 G2 (fun w=>gmk1 w (bn.mono (by omega)) (bd.mono (by omega)) h0)
   ·rw [if_neg c1]
    by_cases c2:c=46
    ·subst c2
     rw [if_pos rfl]
     have h:=zkU l r _ w (by omega) bn G1
     split
     ·rename_i hh
      rwa [if_pos hh] at h
     ·rename_i hh
      rwa [if_neg hh] at h
    ·rw [if_neg c2]
     exact zeE l _ _ w G1 (fun _ h=>by injection h with h _;exact c1 h) (fun _ h=>by injection h with h _;exact c2 h)

theorem zdX {P:Program}:∀ (l m:List Code) {Q:Exit→Act→World→Prop} {a:Act} {w:World},wpL P l (Exit.then (fun a w=>wpL P m Q a w) Q) a w→wpL P (l++m) Q a w
 | [],m,Q,a,w,h=>h
 | c :: l,m,Q,a,w,h=>wp_mono (show c.wp P (Exit.then (fun a w=>wpL P l (Exit.then (fun a w=>wpL P m Q a w) Q) a w) (Exit.then (fun a w=>wpL P m Q a w) Q)) a w from h) (fun e a w h=>by
  cases e
  case normal=>exact zdX l m h
  all_goals exact h)
noncomputable def gqN:Nat:=Tryz.f55.ntmps
noncomputable def gqC:Code:=Tryz.f55.body.getD .skip
noncomputable def gq0:Code:=cB 0 gqC
noncomputable def gqR:Code:=cI (cI gq0)
noncomputable def gq1:Code:=cI (cAt 1 gqR)
def gqM (x:Nm):Mem:=[(0,(26,zcN)),(6,(26,xcN x))]
def gqMx (x v:Nm):Mem:=[(0,(26,zcN)),(6,(26,xcN x)),(101,(26,xcN v))]
def gqS (rn:Nat→Nat) (l:List UInt8) (bad:Int) (first:Bool):Env:=[(0,(.string ⟨l.toArray⟩,0)),(2,(.pointer (some ⟨rn 0,0,none⟩),1)),(4,(.pointer (some ⟨rn 6,0,none⟩),7)),(5,(.int .i64 bad,0)),(6,(.bool first,0))]
def gqS0 (rn:Nat→Nat) (l:List UInt8) (bad:Int):Env:=[(0,(.string ⟨l.toArray⟩,0)),(2,(.pointer (some ⟨rn 0,0,none⟩),1)),(4,(.pointer (some ⟨rn 6,0,none⟩),7)),(5,(.int .i64 bad,0))]
def gqS1 (rn:Nat→Nat) (l:List UInt8) (bad:Int) (mi:Bool):Env:=[(0,(.string ⟨l.toArray⟩,0)),(2,(.pointer (some ⟨rn 0,0,none⟩),1)),(4,(.pointer (some ⟨rn 6,0,none⟩),7)),(5,(.int .i64 bad,0)),(7,(.bool mi,0))]
def gqS2 (rn:Nat→Nat) (l:List UInt8) (bad:Int) (mi al:Bool):Env:=[(0,(.string ⟨l.toArray⟩,0)),(2,(.pointer (some ⟨rn 0,0,none⟩),1)),(4,(.pointer (some ⟨rn 6,0,none⟩),7)),(5,(.int .i64 bad,0)),(7,(.bool mi,0)),(8,(.pointer (some ⟨rn 101,0,none⟩),102)),(9,(.bool al,0))]
def gqS3 (rn:Nat→Nat) (l:List UInt8) (bad:Int) (mi al:Bool):Env:=[(0,(.string ⟨l.toArray⟩,0)),(2,(.pointer (some ⟨rn 0,0,none⟩),1)),(4,(.pointer (some ⟨rn 6,0,none⟩),7)),(5,(.int .i64 bad,0)),(7,(.bool mi,0)),(8,(.pointer (some ⟨rn 101,0,none⟩),102)),(9,(.bool al,0)),(13,(.int .i64 1,0))]
section
variable {X:Cx} {rn:Nat→Nat} {l:List UInt8} {bad:Int} {x:Nm} {mi:Bool} {a:Act} {w:World} {Q:Exit→Act→World→Prop} {post:Ending→World→Prop}
theorem zrY (hS:St gqN (gqS rn l bad true) a) (hM:MemOk X rn (gqM x) w) (hQ:∀ a' w',St gqN (gqS rn l bad true) a'→MemOk X rn (gqM x) w'→Q .normal a' w'):wpL Tryz.prog (cPre 1 gqR) Q a w:=by
 unfold gqS gqM at *
 refine vk (X:=X) [] gqN (cPre 1 gqR) (fun r=>[(0,(.string ⟨l.toArray⟩,0)),(2,(.pointer (some ⟨r 0,0,none⟩),1)),(4,(.pointer (some ⟨r 6,0,none⟩),7)),(5,(.int .i64 (bad),0)),(6,(.bool true,0))]) (fun r=>[(0,(26,zcN)),(6,(26,xcN x))]) 100 (rn) (hS) (hM) [.t,.t,.t,.t] [] (VEx.n) (fun r=>[(0,(.string ⟨l.toArray⟩,0)),(2,(.pointer (some ⟨r 0,0,none⟩),1)),(4,(.pointer (some ⟨r 6,0,none⟩),7)),(5,(.int .i64 (bad),0)),(6,(.bool true,0))]) [] (fun r=>[(0,(26,zcN)),(6,(26,xcN x))]) ?_
 intro a3 w3 hS3 hK3 hM3
 exact hQ a3 w3 hS3 hM3
theorem zr8 (hS:St gqN (gqS rn l bad false) a) (hM:MemOk X rn (gqM x) w) (hl:l.isEmpty=false) (hQ:∀ a' w',St gqN (gqS rn l bad false) a'→MemOk X rn (gqM x) w'→Q .normal a' w'):wpL Tryz.prog (cPre 1 gqR) Q a w:=by
 unfold gqS gqM at *
 have hz:=zaJ l
 rw [hl] at hz
 have hz2:(!((ByteArray.mk l.toArray).toList == (ByteArray.mk #[]).toList))=true:=by rw [hz];rfl
 refine vk (X:=X) [(6,3)] gqN (cPre 1 gqR) (fun r=>[(0,(.string ⟨l.toArray⟩,0)),(2,(.pointer (some ⟨r 0,0,none⟩),1)),(4,(.pointer (some ⟨r 6,0,none⟩),7)),(5,(.int .i64 (bad),0)),(6,(.bool false,0))]) (fun r=>[(0,(26,zcN)),(6,(26,xcN x))]) 100 (rn) (hS) (hM) [.f,.f,.f,.t] [lP (.bool (!((ByteArray.mk l.toArray).toList == (ByteArray.mk #[]).toList))) (.bool true) (congrArg Value.bool hz2)] (VEx.n) (fun r=>[(0,(.string ⟨l.toArray⟩,0)),(2,(.pointer (some ⟨r 0,0,none⟩),1)),(4,(.pointer (some ⟨r 6,0,none⟩),7)),(5,(.int .i64 (bad),0)),(6,(.bool false,0))]) [] (fun r=>[(0,(26,zcN)),(6,(26,xcN x))]) ?_
 intro a3 w3 hS3 hK3 hM3
 exact hQ a3 w3 hS3 hM3
theorem zsf (hS:St gqN (gqS rn [] bad false) a) (hM:MemOk X rn (gqM x) w) (hQ:∀ a' w',St gqN (gqS0 rn [] bad) a'→MemOk X rn (gqM x) w'→Q (.exit 0) a' w'):wpL Tryz.prog [gqR] Q a w:=by
 unfold gqS at hS
 unfold gqS0 gqM at *
 have hz:=zaJ []
 have hz2:(!((ByteArray.mk ([]:List UInt8).toArray).toList == (ByteArray.mk #[]).toList))=false:=by rw [hz];rfl
 refine vk (X:=X) [(6,3)] gqN [gqR] (fun r=>[(0,(.string ⟨[].toArray⟩,0)),(2,(.pointer (some ⟨r 0,0,none⟩),1)),(4,(.pointer (some ⟨r 6,0,none⟩),7)),(5,(.int .i64 (bad),0)),(6,(.bool false,0))]) (fun r=>[(0,(26,zcN)),(6,(26,xcN x))]) 100 (rn) (hS) (hM) [.f,.f,.f,.f] [lP (.bool (!((ByteArray.mk ([]:List UInt8).toArray).toList == (ByteArray.mk #[]).toList))) (.bool false) (congrArg Value.bool hz2)] (VEx.x 0) (fun r=>[(0,(.string ⟨[].toArray⟩,0)),(2,(.pointer (some ⟨r 0,0,none⟩),1)),(4,(.pointer (some ⟨r 6,0,none⟩),7)),(5,(.int .i64 (bad),0))]) [] (fun r=>[(0,(26,zcN)),(6,(26,xcN x))]) ?_
 intro a3 w3 hS3 hK3 hM3
 exact hQ a3 w3 hS3 hM3
theorem znC (hS:St gqN (gqS rn (45 :: l) bad true) a) (hM:MemOk X rn (gqM x) w) (hQ:∀ a' w',St gqN (gqS1 rn l bad true) a'→MemOk X rn (gqM x) w'→Q .normal a' w'):wpL Tryz.prog ((cPre 2 gq1).take 2) Q a w:=by
 unfold gqS at hS
 unfold gqS1 gqM at *
 have S1:=fun w=>za8 45 l w
 have sl:=slice1 45 l
 generalize 45 :: l=l2 at *
 refine vk (X:=X) [(10,1)] gqN ((cPre 2 gq1).take 2) (fun r=>[(0,(.string ⟨l2.toArray⟩,0)),(2,(.pointer (some ⟨r 0,0,none⟩),1)),(4,(.pointer (some ⟨r 6,0,none⟩),7)),(5,(.int .i64 (bad),0)),(6,(.bool true,0))]) (fun r=>[(0,(26,zcN)),(6,(26,xcN x))]) 100 (rn) (hS) (hM) [.t,.t,.t,.u,.u,.t,.t,.t] [cV (S1),lV (Instr.sliceAt 9 (.string ⟨l2.toArray⟩) (some (.int .i64 1)) none none) (.string ⟨l.toArray⟩) (fun w hC=>sl w)] (VEx.n) (fun r=>[(0,(.string ⟨l.toArray⟩,0)),(2,(.pointer (some ⟨r 0,0,none⟩),1)),(4,(.pointer (some ⟨r 6,0,none⟩),7)),(5,(.int .i64 (bad),0)),(7,(.bool true,0))]) [] (fun r=>[(0,(26,zcN)),(6,(26,xcN x))]) ?_
 intro a3 w3 hS3 hK3 hM3
 exact hQ a3 w3 hS3 hM3
theorem zmh (hS:St gqN (gqS rn (45 :: l) bad false) a) (hM:MemOk X rn (gqM x) w) (hQ:∀ a' w',St gqN (gqS1 rn l bad true) a'→MemOk X rn (gqM x) w'→Q .normal a' w'):wpL Tryz.prog ((cPre 2 gq1).take 2) Q a w:=by
 unfold gqS at hS
 unfold gqS1 gqM at *
 have S1:=fun w=>za8 45 l w
 have sl:=slice1 45 l
 generalize 45 :: l=l2 at *
 refine vk (X:=X) [(10,1)] gqN ((cPre 2 gq1).take 2) (fun r=>[(0,(.string ⟨l2.toArray⟩,0)),(2,(.pointer (some ⟨r 0,0,none⟩),1)),(4,(.pointer (some ⟨r 6,0,none⟩),7)),(5,(.int .i64 (bad),0)),(6,(.bool false,0))]) (fun r=>[(0,(26,zcN)),(6,(26,xcN x))]) 100 (rn) (hS) (hM) [.t,.t,.t,.u,.u,.t,.t,.t] [cV (S1),lV (Instr.sliceAt 9 (.string ⟨l2.toArray⟩) (some (.int .i64 1)) none none) (.string ⟨l.toArray⟩) (fun w hC=>sl w)] (VEx.n) (fun r=>[(0,(.string ⟨l.toArray⟩,0)),(2,(.pointer (some ⟨r 0,0,none⟩),1)),(4,(.pointer (some ⟨r 6,0,none⟩),7)),(5,(.int .i64 (bad),0)),(7,(.bool true,0))]) [] (fun r=>[(0,(26,zcN)),(6,(26,xcN x))]) ?_
 intro a3 w3 hS3 hK3 hM3
 exact hQ a3 w3 hS3 hM3
theorem zq9 (hS:St gqN (gqS rn l bad true) a) (hM:MemOk X rn (gqM x) w) (hl:∀ r,l≠45 :: r) (hQ:∀ a' w',St gqN (gqS1 rn l bad false) a'→MemOk X rn (gqM x) w'→Q .normal a' w'):wpL Tryz.prog ((cPre 2 gq1).take 2) Q a w:=by
 unfold gqS at hS
 unfold gqS1 gqM at *
 have S1:=fun w=>za1 45 l w hl
 refine vk (X:=X) [] gqN ((cPre 2 gq1).take 2) (fun r=>[(0,(.string ⟨l.toArray⟩,0)),(2,(.pointer (some ⟨r 0,0,none⟩),1)),(4,(.pointer (some ⟨r 6,0,none⟩),7)),(5,(.int .i64 (bad),0)),(6,(.bool true,0))]) (fun r=>[(0,(26,zcN)),(6,(26,xcN x))]) 100 (rn) (hS) (hM) [.f,.f,.f,.f,.f,.f,.f,.f,.f,.f] [cV (S1)] (VEx.n) (fun r=>[(0,(.string ⟨l.toArray⟩,0)),(2,(.pointer (some ⟨r 0,0,none⟩),1)),(4,(.pointer (some ⟨r 6,0,none⟩),7)),(5,(.int .i64 (bad),0)),(7,(.bool false,0))]) [] (fun r=>[(0,(26,zcN)),(6,(26,xcN x))]) ?_
 intro a3 w3 hS3 hK3 hM3
 exact hQ a3 w3 hS3 hM3
theorem zqs (hS:St gqN (gqS rn (43 :: l) bad false) a) (hM:MemOk X rn (gqM x) w) (hQ:∀ a' w',St gqN (gqS1 rn l bad false) a'→MemOk X rn (gqM x) w'→Q .normal a' w'):wpL Tryz.prog ((cPre 2 gq1).take 2) Q a w:=by
 unfold gqS at hS
 unfold gqS1 gqM at *
 have S1:=fun w=>za1 45 (43 :: l) w (fun _ h=>by injection h with h _;exact absurd h (by decide))
 have S2:=fun w=>za8 43 l w
 have sl:=slice1 43 l
 generalize 43 :: l=l2 at *
 refine vk (X:=X) [(10,1)] gqN ((cPre 2 gq1).take 2) (fun r=>[(0,(.string ⟨l2.toArray⟩,0)),(2,(.pointer (some ⟨r 0,0,none⟩),1)),(4,(.pointer (some ⟨r 6,0,none⟩),7)),(5,(.int .i64 (bad),0)),(6,(.bool false,0))]) (fun r=>[(0,(26,zcN)),(6,(26,xcN x))]) 100 (rn) (hS) (hM) [.f,.f,.f,.t,.t,.f,.t,.f,.t] [cV (S1),cV (S2),lV (Instr.sliceAt 9 (.string ⟨l2.toArray⟩) (some (.int .i64 1)) none none) (.string ⟨l.toArray⟩) (fun w hC=>sl w)] (VEx.n) (fun r=>[(0,(.string ⟨l.toArray⟩,0)),(2,(.pointer (some ⟨r 0,0,none⟩),1)),(4,(.pointer (some ⟨r 6,0,none⟩),7)),(5,(.int .i64 (bad),0)),(7,(.bool false,0))]) [] (fun r=>[(0,(26,zcN)),(6,(26,xcN x))]) ?_
 intro a3 w3 hS3 hK3 hM3
 exact hQ a3 w3 hS3 hM3
theorem zor (hS:St gqN (gqS rn l bad false) a) (hM:MemOk X rn (gqM x) w) (h1:∀ r,l≠45 :: r) (h2:∀ r,l≠43 :: r) (hq:∀ a' w',bodyPost Tryz.prog Tryz.f55 post .ret a' w'→Q .ret a' w') (hp:∀ w',Chg X.L X.w0 w'→post (.returned (.tuple #[vZ,.int .i64 4])) w'):wpL Tryz.prog ((cPre 2 gq1).take 2) Q a w:=by
 unfold gqS gqM at *
 have S1:=fun w=>za1 45 l w h1
 have S2:=fun w=>za1 43 l w h2
 refine vk (X:=X) [] gqN ((cPre 2 gq1).take 2) (fun r=>[(0,(.string ⟨l.toArray⟩,0)),(2,(.pointer (some ⟨r 0,0,none⟩),1)),(4,(.pointer (some ⟨r 6,0,none⟩),7)),(5,(.int .i64 (bad),0)),(6,(.bool false,0))]) (fun r=>[(0,(26,zcN)),(6,(26,xcN x))]) 100 (rn) (hS) (hM) [.f,.f,.f,.t,.t,.f,.t,.f,.f,.t] [cV (S1),cV (S2)] (VEx.r) (fun r=>[(2,(.pointer (some ⟨r 0,0,none⟩),1)),(3,(.int .i64 (4),0))]) [] (fun r=>[(0,(26,zcN))]) ?_
 intro a3 w3 hS3 hK3 hM3
 exact hq _ _ (za4 (fn:=Tryz.f55) hS3 hM3 (.tuple #[vZ,.int .i64 4]) (fun g=>by kernel_rfl) (hp w3 hM3.below))
theorem zi0 (hS:St gqN (gqS1 rn (114 :: l) bad mi) a) (hM:MemOk X rn (gqM x) w) (hQ:∀ rn' a' w',St gqN (gqS3 rn' (114 :: l) bad mi true) a'→MemOk X rn' (gqMx x (intN 1)) w'→Q .normal a' w'):wpL Tryz.prog ((cPre 2 gq1).drop 2) Q a w:=by
 unfold gqS1 gqM at *
 unfold gqS3 gqMx at hQ
 have S1:=fun w=>za8 114 l w
 have O:=fun w=>zc2 1 w (by omega) (by omega)
 generalize 114 :: l=l2 at *
 generalize intN 1=n1 at *
 refine vf (X:=X) [] gqN ((cPre 2 gq1).drop 2) (fun r=>[(0,(.string ⟨l2.toArray⟩,0)),(2,(.pointer (some ⟨r 0,0,none⟩),1)),(4,(.pointer (some ⟨r 6,0,none⟩),7)),(5,(.int .i64 (bad),0)),(7,(.bool mi,0))]) (fun r=>[(0,(26,zcN)),(6,(26,xcN x))]) 100 (rn) (hS) (hM) [.f] [cV (O),cV (S1)] (VEx.n) (fun r=>[(0,(.string ⟨l2.toArray⟩,0)),(2,(.pointer (some ⟨r 0,0,none⟩),1)),(4,(.pointer (some ⟨r 6,0,none⟩),7)),(5,(.int .i64 (bad),0)),(7,(.bool mi,0)),(8,(.pointer (some ⟨r 101,0,none⟩),102)),(9,(.bool true,0)),(13,(.int .i64 (1),0))]) [] (fun r=>[(0,(26,zcN)),(6,(26,xcN x)),(101,(26,xcN n1))]) ?_
 intro rn' a3 w3 hr hS3 hK3 hM3
 exact hQ rn' a3 w3 hS3 hM3
theorem zmr {l2:List UInt8} (hS:St gqN (gqS1 rn l bad mi) a) (hM:MemOk X rn (gqM x) w) (hl:∀ r,l≠114 :: r) (V:∀ w,Calls Tryz.prog 116 #[.string ⟨l.toArray⟩] w (RetV (.tuple #[vZ,.string ⟨l2.toArray⟩,.int .i64 4]) w)) (hq:∀ a' w',bodyPost Tryz.prog Tryz.f55 post .ret a' w'→Q .ret a' w') (hp:∀ w',Chg X.L X.w0 w'→post (.returned (.tuple #[vZ,.int .i64 4])) w'):wpL Tryz.prog ((cPre 2 gq1).drop 2) Q a w:=by
 unfold gqS1 gqM at *
 have S1:=fun w=>za1 114 l w hl
 have O:=fun w=>zc2 1 w (by omega) (by omega)
 generalize intN 1=n1 at *
 refine vk (X:=X) [] gqN ((cPre 2 gq1).drop 2) (fun r=>[(0,(.string ⟨l.toArray⟩,0)),(2,(.pointer (some ⟨r 0,0,none⟩),1)),(4,(.pointer (some ⟨r 6,0,none⟩),7)),(5,(.int .i64 (bad),0)),(7,(.bool mi,0))]) (fun r=>[(0,(26,zcN)),(6,(26,xcN x))]) 100 (rn) (hS) (hM) [.t,.t] [cV (O),cV (S1),cV (V)] (VEx.r) (fun r=>[(2,(.pointer (some ⟨r 0,0,none⟩),1)),(3,(.int .i64 (4),0))]) [] (fun r=>[(0,(26,zcN))]) ?_
 intro a3 w3 hS3 hK3 hM3
 exact hq _ _ (za4 (fn:=Tryz.f55) hS3 hM3 (.tuple #[vZ,.int .i64 4]) (fun g=>by kernel_rfl) (hp w3 hM3.below))
theorem zrN {l2:List UInt8} {v:Nm} (hS:St gqN (gqS1 rn l bad mi) a) (hM:MemOk X rn (gqM x) w) (hl:∀ r,l≠114 :: r) (V:∀ w,Calls Tryz.prog 116 #[.string ⟨l.toArray⟩] w (RetV (.tuple #[vN v,.string ⟨l2.toArray⟩,.int .i64 0]) w)) (hQ:∀ rn' a' w',St gqN (gqS3 rn' l2 bad mi false) a'→MemOk X rn' (gqMx x v) w'→Q .normal a' w'):wpL Tryz.prog ((cPre 2 gq1).drop 2) Q a w:=by
 unfold gqS1 gqM at *
 unfold gqS3 gqMx at hQ
 have S1:=fun w=>za1 114 l w hl
 have O:=fun w=>zc2 1 w (by omega) (by omega)
 generalize intN 1=n1 at *
 refine vf (X:=X) [] gqN ((cPre 2 gq1).drop 2) (fun r=>[(0,(.string ⟨l.toArray⟩,0)),(2,(.pointer (some ⟨r 0,0,none⟩),1)),(4,(.pointer (some ⟨r 6,0,none⟩),7)),(5,(.int .i64 (bad),0)),(7,(.bool mi,0))]) (fun r=>[(0,(26,zcN)),(6,(26,xcN x))]) 100 (rn) (hS) (hM) [.t,.f,.f] [cV (O),cV (S1),cV (V)] (VEx.n) (fun r=>[(0,(.string ⟨l2.toArray⟩,0)),(2,(.pointer (some ⟨r 0,0,none⟩),1)),(4,(.pointer (some ⟨r 6,0,none⟩),7)),(5,(.int .i64 (bad),0)),(7,(.bool mi,0)),(8,(.pointer (some ⟨r 101,0,none⟩),102)),(9,(.bool false,0)),(13,(.int .i64 (1),0))]) [] (fun r=>[(0,(26,zcN)),(6,(26,xcN x)),(101,(26,xcN v))]) ?_
 intro rn' a3 w3 hr hS3 hK3 hM3
 exact hQ rn' a3 w3 hS3 hM3
theorem znd {l2:List UInt8} (hS:St gqN (gqS1 rn l bad mi) a) (hM:MemOk X rn (gqM x) w) (hl:∀ r,l≠114 :: r) (V:∀ w,Calls Tryz.prog 116 #[.string ⟨l.toArray⟩] w (RetV (.tuple #[vZ,.string ⟨l2.toArray⟩,.int .i64 10]) w)) (hQ:∀ rn' a' w',St gqN (gqS3 rn' l2 10 mi false) a'→MemOk X rn' (gqMx x (intN 0)) w'→Q .normal a' w'):wpL Tryz.prog ((cPre 2 gq1).drop 2) Q a w:=by
 unfold gqS1 gqM at *
 unfold gqS3 gqMx at hQ
 have S1:=fun w=>za1 114 l w hl
 have O:=fun w=>zc2 1 w (by omega) (by omega)
 have O0:=fun w=>zc2 0 w (by omega) (by omega)
 generalize intN 1=n1 at *
 generalize intN 0=n0 at *
 refine vf (X:=X) [] gqN ((cPre 2 gq1).drop 2) (fun r=>[(0,(.string ⟨l.toArray⟩,0)),(2,(.pointer (some ⟨r 0,0,none⟩),1)),(4,(.pointer (some ⟨r 6,0,none⟩),7)),(5,(.int .i64 (bad),0)),(7,(.bool mi,0))]) (fun r=>[(0,(26,zcN)),(6,(26,xcN x))]) 100 (rn) (hS) (hM) [.t,.f,.t] [cV (O),cV (S1),cV (V),cV (O0)] (VEx.n) (fun r=>[(0,(.string ⟨l2.toArray⟩,0)),(2,(.pointer (some ⟨r 0,0,none⟩),1)),(4,(.pointer (some ⟨r 6,0,none⟩),7)),(5,(.int .i64 (10),0)),(7,(.bool mi,0)),(8,(.pointer (some ⟨r 101,0,none⟩),102)),(9,(.bool false,0)),(13,(.int .i64 (1),0))]) [] (fun r=>[(0,(26,zcN)),(6,(26,xcN x)),(101,(26,xcN n0))]) ?_
 intro rn' a3 w3 hr hS3 hK3 hM3
 exact hQ rn' a3 w3 hS3 hM3
theorem groot1 (w:World):Calls Tryz.prog 117 #[.int .i64 1] w (RetV (.string ⟨#[114,50]⟩) w):=by
 exact zac kr Tryz.func117 rfl [.int .i64 1] nle [] [] []
theorem znK (r:List UInt8) (w:World):Calls Tryz.prog 115 #[.string ⟨(114 :: 50 :: r).toArray⟩,.string ⟨#[114,50]⟩] w (RetV (.bool true) w):=by
 have h:=za5 (114 :: 50 :: r) [114,50] w
 have e:Lib.hasPrefix (114 :: 50 :: r) [114,50]=true:=(zb8 [114,50] r).1
 rwa [e] at h
theorem ziC (l:List UInt8) (w:World) (hn:∀ r,l≠114 :: 50 :: r):Calls Tryz.prog 115 #[.string ⟨l.toArray⟩,.string ⟨#[114,50]⟩] w (RetV (.bool false) w):=by
 have h:=za5 l [114,50] w
 rwa [(zcT [114,50] l hn).1] at h
theorem groot2 (w:World):Calls Tryz.prog 117 #[.int .i64 2] w (RetV (.string ⟨#[114,51]⟩) w):=by
 exact zac kr Tryz.func117 rfl [.int .i64 2] nle [] [] []
theorem zpe (r:List UInt8) (w:World):Calls Tryz.prog 115 #[.string ⟨(114 :: 51 :: r).toArray⟩,.string ⟨#[114,51]⟩] w (RetV (.bool true) w):=by
 have h:=za5 (114 :: 51 :: r) [114,51] w
 have e:Lib.hasPrefix (114 :: 51 :: r) [114,51]=true:=(zb8 [114,51] r).1
 rwa [e] at h
theorem zms (l:List UInt8) (w:World) (hn:∀ r,l≠114 :: 51 :: r):Calls Tryz.prog 115 #[.string ⟨l.toArray⟩,.string ⟨#[114,51]⟩] w (RetV (.bool false) w):=by
 have h:=za5 l [114,51] w
 rwa [(zcT [114,51] l hn).1] at h
theorem groot3 (w:World):Calls Tryz.prog 117 #[.int .i64 3] w (RetV (.string ⟨#[114,54]⟩) w):=by
 exact zac kr Tryz.func117 rfl [.int .i64 3] nle [] [] []
theorem zn9 (r:List UInt8) (w:World):Calls Tryz.prog 115 #[.string ⟨(114 :: 54 :: r).toArray⟩,.string ⟨#[114,54]⟩] w (RetV (.bool true) w):=by
 have h:=za5 (114 :: 54 :: r) [114,54] w
 have e:Lib.hasPrefix (114 :: 54 :: r) [114,54]=true:=(zb8 [114,54] r).1
 rwa [e] at h
theorem zqn (l:List UInt8) (w:World) (hn:∀ r,l≠114 :: 54 :: r):Calls Tryz.prog 115 #[.string ⟨l.toArray⟩,.string ⟨#[114,54]⟩] w (RetV (.bool false) w):=by
 have h:=za5 l [114,54] w
 rwa [(zcT [114,54] l hn).1] at h
theorem zji {v y:Nm} {al:Bool} (hS:St gqN (gqS3 rn (114 :: 50 :: l) bad mi al) a) (hM:MemOk X rn (gqMx x v) w) (ML:∀ w,Calls Tryz.prog 29 #[vN v,vN (rootN 2)] w (RetV (vN y) w)) (hQ:∀ a' w',St gqN (gqS2 rn l bad mi false) a'→MemOk X rn (gqMx x y) w'→Q .normal a' w'):wpL Tryz.prog [cAt 2 gq1] Q a w:=by
 unfold gqS2 at hQ
 unfold gqS3 gqMx at *
 have Y:=fun w=>znK l w


 have R:=fun w=>zft 2 w
 have sl:=slice2 114 50 l
 generalize 114 :: 50 :: l=l2 at *
 generalize rootN 2=k at *
 refine vk (X:=X) [(28,1)] gqN [cAt 2 gq1] (fun r=>[(0,(.string ⟨l2.toArray⟩,0)),(2,(.pointer (some ⟨r 0,0,none⟩),1)),(4,(.pointer (some ⟨r 6,0,none⟩),7)),(5,(.int .i64 (bad),0)),(7,(.bool mi,0)),(8,(.pointer (some ⟨r 101,0,none⟩),102)),(9,(.bool al,0)),(13,(.int .i64 (1),0))]) (fun r=>[(0,(26,zcN)),(6,(26,xcN x)),(101,(26,xcN v))]) 200 (rn) (hS) (hM) [.t,.t] [cV (groot1),cV (Y),cV (R),cV (ML),lV (Instr.sliceAt 9 (.string ⟨l2.toArray⟩) (some (.int .i64 2)) none none) (.string ⟨l.toArray⟩) (fun w hC=>sl w)] (VEx.n) (fun r=>[(0,(.string ⟨l.toArray⟩,0)),(2,(.pointer (some ⟨r 0,0,none⟩),1)),(4,(.pointer (some ⟨r 6,0,none⟩),7)),(5,(.int .i64 (bad),0)),(7,(.bool mi,0)),(8,(.pointer (some ⟨r 101,0,none⟩),102)),(9,(.bool false,0))]) [] (fun r=>[(0,(26,zcN)),(6,(26,xcN x)),(101,(26,xcN y))]) ?_
 intro a3 w3 hS3 hK3 hM3
 exact hQ a3 w3 hS3 hM3
theorem zjF {v y:Nm} {al:Bool} (hS:St gqN (gqS3 rn (114 :: 51 :: l) bad mi al) a) (hM:MemOk X rn (gqMx x v) w) (ML:∀ w,Calls Tryz.prog 29 #[vN v,vN (rootN 3)] w (RetV (vN y) w)) (hQ:∀ a' w',St gqN (gqS2 rn l bad mi false) a'→MemOk X rn (gqMx x y) w'→Q .normal a' w'):wpL Tryz.prog [cAt 2 gq1] Q a w:=by
 unfold gqS2 at hQ
 unfold gqS3 gqMx at *
 have Y:=fun w=>zpe l w
 have N1:=fun w=>ziC (114 :: 51 :: l) w (fun _ h=>by injection h with _ h;injection h with h _;exact absurd h (by decide))

 have R:=fun w=>zft 3 w
 have sl:=slice2 114 51 l
 generalize 114 :: 51 :: l=l2 at *
 generalize rootN 3=k at *
 refine vk (X:=X) [(28,1)] gqN [cAt 2 gq1] (fun r=>[(0,(.string ⟨l2.toArray⟩,0)),(2,(.pointer (some ⟨r 0,0,none⟩),1)),(4,(.pointer (some ⟨r 6,0,none⟩),7)),(5,(.int .i64 (bad),0)),(7,(.bool mi,0)),(8,(.pointer (some ⟨r 101,0,none⟩),102)),(9,(.bool al,0)),(13,(.int .i64 (1),0))]) (fun r=>[(0,(26,zcN)),(6,(26,xcN x)),(101,(26,xcN v))]) 200 (rn) (hS) (hM) [.t,.f,.t,.t] [cV (groot1),cV (N1),cV (groot2),cV (Y),cV (R),cV (ML),lV (Instr.sliceAt 9 (.string ⟨l2.toArray⟩) (some (.int .i64 2)) none none) (.string ⟨l.toArray⟩) (fun w hC=>sl w)] (VEx.n) (fun r=>[(0,(.string ⟨l.toArray⟩,0)),(2,(.pointer (some ⟨r 0,0,none⟩),1)),(4,(.pointer (some ⟨r 6,0,none⟩),7)),(5,(.int .i64 (bad),0)),(7,(.bool mi,0)),(8,(.pointer (some ⟨r 101,0,none⟩),102)),(9,(.bool false,0))]) [] (fun r=>[(0,(26,zcN)),(6,(26,xcN x)),(101,(26,xcN y))]) ?_
 intro a3 w3 hS3 hK3 hM3
 exact hQ a3 w3 hS3 hM3
theorem ziU {v y:Nm} {al:Bool} (hS:St gqN (gqS3 rn (114 :: 54 :: l) bad mi al) a) (hM:MemOk X rn (gqMx x v) w) (ML:∀ w,Calls Tryz.prog 29 #[vN v,vN (rootN 6)] w (RetV (vN y) w)) (hQ:∀ a' w',St gqN (gqS2 rn l bad mi false) a'→MemOk X rn (gqMx x y) w'→Q .normal a' w'):wpL Tryz.prog [cAt 2 gq1] Q a w:=by
 unfold gqS2 at hQ
 unfold gqS3 gqMx at *
 have Y:=fun w=>zn9 l w
 have N1:=fun w=>ziC (114 :: 54 :: l) w (fun _ h=>by injection h with _ h;injection h with h _;exact absurd h (by decide))
 have N2:=fun w=>zms (114 :: 54 :: l) w (fun _ h=>by injection h with _ h;injection h with h _;exact absurd h (by decide))
 have R:=fun w=>zft 6 w
 have sl:=slice2 114 54 l
 generalize 114 :: 54 :: l=l2 at *
 generalize rootN 6=k at *
 refine vk (X:=X) [(28,1)] gqN [cAt 2 gq1] (fun r=>[(0,(.string ⟨l2.toArray⟩,0)),(2,(.pointer (some ⟨r 0,0,none⟩),1)),(4,(.pointer (some ⟨r 6,0,none⟩),7)),(5,(.int .i64 (bad),0)),(7,(.bool mi,0)),(8,(.pointer (some ⟨r 101,0,none⟩),102)),(9,(.bool al,0)),(13,(.int .i64 (1),0))]) (fun r=>[(0,(26,zcN)),(6,(26,xcN x)),(101,(26,xcN v))]) 200 (rn) (hS) (hM) [.t,.f,.t,.f,.t,.t] [cV (groot1),cV (N1),cV (groot2),cV (N2),cV (groot3),cV (Y),cV (R),cV (ML),lV (Instr.sliceAt 9 (.string ⟨l2.toArray⟩) (some (.int .i64 2)) none none) (.string ⟨l.toArray⟩) (fun w hC=>sl w)] (VEx.n) (fun r=>[(0,(.string ⟨l.toArray⟩,0)),(2,(.pointer (some ⟨r 0,0,none⟩),1)),(4,(.pointer (some ⟨r 6,0,none⟩),7)),(5,(.int .i64 (bad),0)),(7,(.bool mi,0)),(8,(.pointer (some ⟨r 101,0,none⟩),102)),(9,(.bool false,0))]) [] (fun r=>[(0,(26,zcN)),(6,(26,xcN x)),(101,(26,xcN y))]) ?_
 intro a3 w3 hS3 hK3 hM3
 exact hQ a3 w3 hS3 hM3
theorem zi8 {v:Nm} {al:Bool} (hS:St gqN (gqS3 rn l bad mi al) a) (hM:MemOk X rn (gqMx x v) w) (h2:∀ r,l≠114 :: 50 :: r) (h3:∀ r,l≠114 :: 51 :: r) (h6:∀ r,l≠114 :: 54 :: r) (hQ:∀ a' w',St gqN (gqS2 rn l bad mi al) a'→MemOk X rn (gqMx x v) w'→Q .normal a' w'):wpL Tryz.prog [cAt 2 gq1] Q a w:=by
 unfold gqS2 at hQ
 unfold gqS3 gqMx at *
 have N1:=fun w=>ziC l w h2
 have N2:=fun w=>zms l w h3
 have N3:=fun w=>zqn l w h6
 refine vk (X:=X) [] gqN [cAt 2 gq1] (fun r=>[(0,(.string ⟨l.toArray⟩,0)),(2,(.pointer (some ⟨r 0,0,none⟩),1)),(4,(.pointer (some ⟨r 6,0,none⟩),7)),(5,(.int .i64 (bad),0)),(7,(.bool mi,0)),(8,(.pointer (some ⟨r 101,0,none⟩),102)),(9,(.bool al,0)),(13,(.int .i64 (1),0))]) (fun r=>[(0,(26,zcN)),(6,(26,xcN x)),(101,(26,xcN v))]) 200 (rn) (hS) (hM) [.t,.f,.t,.f,.t,.f,.f] [cV (groot1),cV (N1),cV (groot2),cV (N2),cV (groot3),cV (N3)] (VEx.n) (fun r=>[(0,(.string ⟨l.toArray⟩,0)),(2,(.pointer (some ⟨r 0,0,none⟩),1)),(4,(.pointer (some ⟨r 6,0,none⟩),7)),(5,(.int .i64 (bad),0)),(7,(.bool mi,0)),(8,(.pointer (some ⟨r 101,0,none⟩),102)),(9,(.bool al,0))]) [] (fun r=>[(0,(26,zcN)),(6,(26,xcN x)),(101,(26,xcN v))]) ?_
 intro a3 w3 hS3 hK3 hM3
 exact hQ a3 w3 hS3 hM3
theorem zkj {v:Nm} (hS:St gqN (gqS2 rn l bad mi true) a) (hM:MemOk X rn (gqMx x v) w) (hq:∀ a' w',bodyPost Tryz.prog Tryz.f55 post .ret a' w'→Q .ret a' w') (hp:∀ w',Chg X.L X.w0 w'→post (.returned (.tuple #[vZ,.int .i64 4])) w'):wpL Tryz.prog (cPost 2 gq1) Q a w:=by
 unfold gqS2 gqMx at *
 refine vk (X:=X) [] gqN (cPost 2 gq1) (fun r=>[(0,(.string ⟨l.toArray⟩,0)),(2,(.pointer (some ⟨r 0,0,none⟩),1)),(4,(.pointer (some ⟨r 6,0,none⟩),7)),(5,(.int .i64 (bad),0)),(7,(.bool mi,0)),(8,(.pointer (some ⟨r 101,0,none⟩),102)),(9,(.bool true,0))]) (fun r=>[(0,(26,zcN)),(6,(26,xcN x)),(101,(26,xcN v))]) 300 (rn) (hS) (hM) [.t] [] (VEx.r) (fun r=>[(2,(.pointer (some ⟨r 0,0,none⟩),1)),(3,(.int .i64 (4),0))]) [] (fun r=>[(0,(26,zcN))]) ?_
 intro a3 w3 hS3 hK3 hM3
 exact hq _ _ (za4 (fn:=Tryz.f55) hS3 hM3 (.tuple #[vZ,.int .i64 4]) (fun g=>by kernel_rfl) (hp w3 hM3.below))
theorem zoq {v y z:Nm} (hS:St gqN (gqS2 rn l bad true false) a) (hM:MemOk X rn (gqMx x v) w) (NX:∀ w,Calls Tryz.prog 30 #[vN v] w (RetV (vN y) w)) (AD:∀ w,Calls Tryz.prog 32 #[vN x,vN y] w (RetV (vN z) w)) (hQ:∀ a' w',St gqN (gqS0 rn l bad) a'→MemOk X rn (gqM z) w'→Q .normal a' w'):wpL Tryz.prog (cPost 2 gq1) Q a w:=by
 unfold gqS2 gqMx gqS0 gqM at *
 refine vk (X:=X) [] gqN (cPost 2 gq1) (fun r=>[(0,(.string ⟨l.toArray⟩,0)),(2,(.pointer (some ⟨r 0,0,none⟩),1)),(4,(.pointer (some ⟨r 6,0,none⟩),7)),(5,(.int .i64 (bad),0)),(7,(.bool true,0)),(8,(.pointer (some ⟨r 101,0,none⟩),102)),(9,(.bool false,0))]) (fun r=>[(0,(26,zcN)),(6,(26,xcN x)),(101,(26,xcN v))]) 300 (rn) (hS) (hM) [.f,.t] [cV (NX),cV (AD)] (VEx.n) (fun r=>[(0,(.string ⟨l.toArray⟩,0)),(2,(.pointer (some ⟨r 0,0,none⟩),1)),(4,(.pointer (some ⟨r 6,0,none⟩),7)),(5,(.int .i64 (bad),0))]) [] (fun r=>[(0,(26,zcN)),(6,(26,xcN z))]) ?_
 intro a3 w3 hS3 hK3 hM3
 exact hQ a3 w3 hS3 hM3
theorem zpi {v y z:Nm} (hS:St gqN (gqS2 rn l bad false false) a) (hM:MemOk X rn (gqMx x v) w) (AD:∀ w,Calls Tryz.prog 32 #[vN x,vN v] w (RetV (vN z) w)) (hQ:∀ a' w',St gqN (gqS0 rn l bad) a'→MemOk X rn (gqM z) w'→Q .normal a' w'):wpL Tryz.prog (cPost 2 gq1) Q a w:=by
 unfold gqS2 gqMx gqS0 gqM at *
 refine vk (X:=X) [] gqN (cPost 2 gq1) (fun r=>[(0,(.string ⟨l.toArray⟩,0)),(2,(.pointer (some ⟨r 0,0,none⟩),1)),(4,(.pointer (some ⟨r 6,0,none⟩),7)),(5,(.int .i64 (bad),0)),(7,(.bool false,0)),(8,(.pointer (some ⟨r 101,0,none⟩),102)),(9,(.bool false,0))]) (fun r=>[(0,(26,zcN)),(6,(26,xcN x)),(101,(26,xcN v))]) 300 (rn) (hS) (hM) [.f,.f] [cV (AD)] (VEx.n) (fun r=>[(0,(.string ⟨l.toArray⟩,0)),(2,(.pointer (some ⟨r 0,0,none⟩),1)),(4,(.pointer (some ⟨r 6,0,none⟩),7)),(5,(.int .i64 (bad),0))]) [] (fun r=>[(0,(26,zcN)),(6,(26,xcN z))]) ?_
 intro a3 w3 hS3 hK3 hM3
 exact hQ a3 w3 hS3 hM3
theorem zmR (hS:St gqN (gqS0 rn l bad) a) (hM:MemOk X rn (gqM x) w) (hQ:∀ a' w',St gqN (gqS rn l bad false) a'→MemOk X rn (gqM x) w'→Q .normal a' w'):wpL Tryz.prog (cPost 1 gqR) Q a w:=by
 unfold gqS0 gqS gqM at *
 refine vk (X:=X) [] gqN (cPost 1 gqR) (fun r=>[(0,(.string ⟨l.toArray⟩,0)),(2,(.pointer (some ⟨r 0,0,none⟩),1)),(4,(.pointer (some ⟨r 6,0,none⟩),7)),(5,(.int .i64 (bad),0))]) (fun r=>[(0,(26,zcN)),(6,(26,xcN x))]) 100 (rn) (hS) (hM) [] [] (VEx.n) (fun r=>[(0,(.string ⟨l.toArray⟩,0)),(2,(.pointer (some ⟨r 0,0,none⟩),1)),(4,(.pointer (some ⟨r 6,0,none⟩),7)),(5,(.int .i64 (bad),0)),(6,(.bool false,0))]) [] (fun r=>[(0,(26,zcN)),(6,(26,xcN x))]) ?_
 intro a3 w3 hS3 hK3 hM3
 refine hQ a3 w3 (hS3.sub fun p hp=>?_) hM3
 simp only [List.mem_cons,List.mem_singleton,List.not_mem_nil,or_false] at hp ⊢
 rcases hp with h | h | h | h | h <;> simp [h]
theorem zpj (hS:St gqN (gqS0 rn l 0) a) (hM:MemOk X rn (gqM x) w) (hp:∀ w',Chg X.L X.w0 w'→post (.returned (.tuple #[vN x,.int .i64 0])) w'):wpL Tryz.prog (cPost 0 gqC) (bodyPost Tryz.prog Tryz.f55 post) a w:=by
 unfold gqS0 gqM at *
 refine vk (X:=X) [] gqN (cPost 0 gqC) (fun r=>[(0,(.string ⟨l.toArray⟩,0)),(2,(.pointer (some ⟨r 0,0,none⟩),1)),(4,(.pointer (some ⟨r 6,0,none⟩),7)),(5,(.int .i64 0,0))]) (fun r=>[(0,(26,zcN)),(6,(26,xcN x))]) 100 (rn) (hS) (hM) [.f] [] (VEx.r) (fun r=>[(2,(.pointer (some ⟨r 0,0,none⟩),1)),(3,(.int .i64 (0),0))]) [] (fun r=>[(0,(26,xcN x))]) ?_
 intro a3 w3 hS3 hK3 hM3
 exact za4 (fn:=Tryz.f55) hS3 hM3 (.tuple #[vN x,.int .i64 0]) (fun g=>by kernel_rfl) (hp w3 hM3.below)
theorem znc (hS:St gqN (gqS0 rn l 10) a) (hM:MemOk X rn (gqM x) w) (hp:∀ w',Chg X.L X.w0 w'→post (.returned (.tuple #[vZ,.int .i64 10])) w'):wpL Tryz.prog (cPost 0 gqC) (bodyPost Tryz.prog Tryz.f55 post) a w:=by
 unfold gqS0 gqM at *
 refine vk (X:=X) [] gqN (cPost 0 gqC) (fun r=>[(0,(.string ⟨l.toArray⟩,0)),(2,(.pointer (some ⟨r 0,0,none⟩),1)),(4,(.pointer (some ⟨r 6,0,none⟩),7)),(5,(.int .i64 (10),0))]) (fun r=>[(0,(26,zcN)),(6,(26,xcN x))]) 100 (rn) (hS) (hM) [.t] [] (VEx.r) (fun r=>[(2,(.pointer (some ⟨r 0,0,none⟩),1)),(3,(.int .i64 (10),0))]) [] (fun r=>[(0,(26,zcN))]) ?_
 intro a3 w3 hS3 hK3 hM3
 exact za4 (fn:=Tryz.f55) hS3 hM3 (.tuple #[vZ,.int .i64 10]) (fun g=>by kernel_rfl) (hp w3 hM3.below)
end

theorem zpf:toK (intN 1)=1:=by
 have:=zql
 exact this
theorem zh9 {v:Nm} (h:Ok v):mulN v (intN 1)=v:=zcH (zbv h (zaW 1)) h (by rw [zc9 h (zaW 1),zpf,K.mul_one])
theorem znk {v:Nm} (h:Ok v):mulN (intN 1) v=v:=by rw [zme (zaW 1) h,zh9 h]
theorem zr2 (s:List UInt8):intE s 4=4:=by unfold intE;split <;> rfl
theorem zje {l:List UInt8} (h:gintB l=true):gintN l=numP (dgs l)∧gintR l=dgr l∧∀ e,intE (dgs l) e=e:=by
 unfold gintB at h
 unfold gintN gintR intE
 split at h
 ·cases h
 ·rename_i h60
  exact ⟨if_neg h60,if_neg h60,fun e=>if_pos ⟨h,by omega⟩⟩
theorem znH {l:List UInt8} (h:gintB l=false) (e:Int):intE (dgs l) e=4:=by
 unfold gintB at h
 unfold intE
 split at h
 ·rw [if_neg (fun g=>by omega)]
 ·rw [if_neg (fun g=>by rw [h] at g;exact absurd g.1 (by decide))]
theorem zmv {l:List UInt8} {e:Int} (h:∀ e,intE (dgs l) e=4):(valN l e).2.2=4:=by
 unfold valN
 rw [h e]
 split
 ·split
  ·rw [zr2]
   split <;> rfl
  ·split
   ·split <;> rfl
   ·rfl
 ·rfl
theorem zry (l:List UInt8) (e:Int) (he:e=0∨e=10) :
  ((gvN l).2.2=4∧(gvN l).1=vZ∧(valN l e).2.2=4) ∨
  ((gvN l).2.2=0∧(gvN l).1=vN (valN l e).1∧(gvN l).2.1=(valN l e).2.1∧(valN l e).2.2=e) ∨
  ((gvN l).2.2=10∧(gvN l).1=vZ∧(gvN l).2.1=(valN l e).2.1∧(valN l e).1=intN 0∧(valN l e).2.2=10):=by
 cases hB:gintB l with
 | false =>
  refine .inl ⟨?_,?_,zmv (znH hB)⟩
  ·unfold gvN;rw [if_pos hB]
  ·unfold gvN;rw [if_pos hB]
 | true =>
  obtain ⟨h1,h2,h3⟩:=zje hB
  unfold gvN valN
  rw [hB,if_neg (by decide),h1,h2,h3 e]
  cases hr:dgr l with
  | nil=>exact .inr (.inl ⟨rfl,rfl,rfl,rfl⟩)
  | cons c r =>
   simp only
   by_cases c1:c=47
   ·subst c1
    simp only [if_true]
    cases hB2:gintB r with
    | false =>
     rw [znH hB2]
     refine .inl ⟨by simp,by simp,?_⟩
     split <;> rfl
    | true =>
     obtain ⟨g1,g2,g3⟩:=zje hB2
     rw [g1,g2,g3]
     simp only [Bool.true_eq_false,if_false]
     by_cases h0:numP (dgs r)=0
     ·have h0':(numP (dgs r):Int)=0:=by omega
      rw [if_pos h0',if_pos h0]
      refine .inr (.inr ⟨rfl,rfl,rfl,rfl,?_⟩)
      rcases he with rfl | rfl <;> rfl
     ·have h0':¬ (numP (dgs r):Int)=0:=by omega
      rw [if_neg h0',if_neg h0]
      exact .inr (.inl ⟨rfl,rfl,rfl,rfl⟩)
   ·simp only [if_neg c1]
    by_cases c2:c=46
    ·simp only [if_pos c2]
     by_cases ht:dgs r = []∨20<(dgs r).length
     ·simp only [if_pos ht]
      refine .inl ?_
      simp
     ·simp only [if_neg ht]
      refine .inr (.inl ?_)
      simp
    ·simp only [if_neg c2]
     refine .inr (.inl ?_)
     simp
theorem zso {l:List UInt8} {e:Int} (h:∃ r,l=114 :: r):(valN l e).2.2=4:=by
 refine zmv fun e=>?_
 obtain ⟨r,rfl⟩:=h
 have:dgs (114 :: r) = []:=by
  unfold dgs
  rw [List.takeWhile_cons,if_neg (by decide)]
 rw [this]
 unfold intE
 rw [if_neg (fun g=>absurd g.1 (by decide))]
theorem zm9 {l:List UInt8} (h:∀ r,l≠114 :: r):rootS l=none:=by
 rcases zcb l with ⟨r,rfl,_⟩ | ⟨r,rfl,_⟩ | ⟨r,rfl,_⟩ | ⟨h2,_⟩
 ·exact absurd rfl (h _)
 ·exact absurd rfl (h _)
 ·exact absurd rfl (h _)
 ·exact h2
section
variable {X:Cx} {rn:Nat→Nat} {l:List UInt8} {bad:Int} {x v:Nm} {mi:Bool} {a:Act} {w:World} {Q:Exit→Act→World→Prop} {post:Ending→World→Prop} {j:Nat}
theorem zdF (hS:St gqN (gqS2 rn l bad mi false) a) (hM:MemOk X rn (gqMx x v) w) (ox:Ok x) (bx:BN 20000000 x) (ov:Ok v) (bv:BN 810 v)
  (hQ:∀ a' w',St gqN (gqS0 rn l bad) a'→MemOk X rn (gqM (addN x (if mi then negN v else v))) w'→Q .normal a' w'):wpL Tryz.prog (cPost 2 gq1) Q a w:=by
 cases mi with
 | false=>exact zpi (y:=v) hS hM (fun w=>zjz x v w (bx.mono (by omega)) (bv.mono (by omega)) ox ov) hQ
 | true=>exact zoq hS hM (fun w=>zoO v w (bv.mono (by omega)) ov) (fun w=>zjz x (negN v) w (bx.mono (by omega)) (bv.neg.mono (by omega)) ox (zeg ov)) hQ
theorem zm8 (hS:St gqN (gqS3 rn l bad mi false) a) (hM:MemOk X rn (gqMx x v) w) (ox:Ok x) (bx:BN 20000000 x) (ov:Ok v) (bv:BN 402 v) (t:Nm × List UInt8) (ht:t=match rootS l with | some (k,r)=>(mulN v (rootN k),r) | none=>(mulN v (intN 1),l))
  (hQ:∀ a' w',St gqN (gqS0 rn t.2 bad) a'→MemOk X rn (gqM (addN x (if mi then negN t.1 else t.1))) w'→Q .normal a' w'):wpL Tryz.prog [cAt 2 gq1] (Exit.then (fun a w=>wpL Tryz.prog (cPost 2 gq1) Q a w) Q) a w:=by
 have mk:∀ k,Ok (mulN v (rootN k))∧BN 810 (mulN v (rootN k)):=fun k=>⟨zbv ov (zaG k),(bv.mulN ((BN.root k).mono (by omega)) ov.ne (zaG k).ne).mono (by omega)⟩
 have ML:∀ k w,Calls Tryz.prog 29 #[vN v,vN (rootN k)] w (RetV (vN (mulN v (rootN k))) w):=fun k w=>zjM v (rootN k) w (bv.mono (by omega)) ((BN.root k).mono (by omega)) ov (zaG k)
 rcases zcb l with ⟨r,rfl,h⟩ | ⟨r,rfl,h⟩ | ⟨r,rfl,h⟩ | ⟨h,h2,h3,h6⟩
 all_goals rw [h] at ht
 all_goals subst ht
 ·exact zji hS hM (ML 2) (fun a' w' h1 h2=>zam (zdF h1 h2 ox bx (mk 2).1 (mk 2).2 hQ))
 ·exact zjF hS hM (ML 3) (fun a' w' h1 h2=>zam (zdF h1 h2 ox bx (mk 3).1 (mk 3).2 hQ))
 ·exact ziU hS hM (ML 6) (fun a' w' h1 h2=>zam (zdF h1 h2 ox bx (mk 6).1 (mk 6).2 hQ))
 ·simp only [zh9 ov] at hQ
  exact zi8 hS hM h2 h3 h6 (fun a' w' h1 h2=>zam (zdF h1 h2 ox bx ov (bv.mono (by omega)) hQ))
theorem zgI {k:Int} {c:UInt8} {r:List UInt8} (hS:St gqN (gqS1 rn (114 :: c :: r) bad mi) a) (hM:MemOk X rn (gqM x) w) (ox:Ok x) (bx:BN 20000000 x) (hc:(c=50∧k=2)∨(c=51∧k=3)∨(c=54∧k=6))
  (hQ:∀ rn' a' w',St gqN (gqS0 rn' r bad) a'→MemOk X rn' (gqM (addN x (if mi then negN (rootN k) else rootN k))) w'→Q .normal a' w') :
  wpL Tryz.prog ((cPre 2 gq1).drop 2) (Exit.then (fun a w=>(cAt 2 gq1).wp Tryz.prog (Exit.then (fun a w=>wpL Tryz.prog (cPost 2 gq1) Q a w) Q) a w) Q) a w:=by
 refine zi0 hS hM fun rn' a1 w1 hS1 hM1=>zam (zaA ?_)
 have b1:BN 402 (intN 1):=BN.int (Bd.one (by omega)) (by omega)
 have ML:∀ k w,Calls Tryz.prog 29 #[vN (intN 1),vN (rootN k)] w (RetV (vN (rootN k)) w):=fun k w=>by
  have h:=zjM (intN 1) (rootN k) w (b1.mono (by omega)) ((BN.root k).mono (by omega)) (zaW 1) (zaG k)
  rwa [znk (zaG k)] at h
 rcases hc with ⟨rfl,rfl⟩ | ⟨rfl,rfl⟩ | ⟨rfl,rfl⟩
 ·exact zji hS1 hM1 (ML 2) (fun a' w' h1 h2=>zam (zdF h1 h2 ox bx (zaG 2) ((BN.root 2).mono (by omega)) (hQ rn')))
 ·exact zjF hS1 hM1 (ML 3) (fun a' w' h1 h2=>zam (zdF h1 h2 ox bx (zaG 3) ((BN.root 3).mono (by omega)) (hQ rn')))
 ·exact ziU hS1 hM1 (ML 6) (fun a' w' h1 h2=>zam (zdF h1 h2 ox bx (zaG 6) ((BN.root 6).mono (by omega)) (hQ rn')))
theorem zqP (hS:St gqN (gqS1 rn l bad mi) a) (hM:MemOk X rn (gqM x) w) (hl:l.length≤400) (hb:bad=0∨bad=10) (ox:Ok x) (bx:BN 20000000 x)
  (hq:∀ a' w',bodyPost Tryz.prog Tryz.f55 post .ret a' w'→Q .ret a' w') (hp:(termN l bad).2.2=4→∀ w',Chg X.L X.w0 w'→post (.returned (.tuple #[vZ,.int .i64 4])) w')
  (hQ:(termN l bad).2.2=0∨(termN l bad).2.2=10→∀ rn' a' w',St gqN (gqS0 rn' (termN l bad).2.1 (termN l bad).2.2) a'→MemOk X rn' (gqM (addN x (if mi then negN (termN l bad).1 else (termN l bad).1))) w'→Q .normal a' w') :
  wpL Tryz.prog ((cPre 2 gq1).drop 2) (Exit.then (fun a w=>(cAt 2 gq1).wp Tryz.prog (Exit.then (fun a w=>wpL Tryz.prog (cPost 2 gq1) Q a w) Q) a w) Q) a w:=by
 have hqq:∀ a' w',bodyPost Tryz.prog Tryz.f55 post .ret a' w'→(Exit.then (fun a w=>(cAt 2 gq1).wp Tryz.prog (Exit.then (fun a w=>wpL Tryz.prog (cPost 2 gq1) Q a w) Q) a w) Q) .ret a' w':=fun a' w' h=>hq a' w' h
 rcases zcb l with ⟨r,rfl,h⟩ | ⟨r,rfl,h⟩ | ⟨r,rfl,h⟩ | ⟨h,h2,h3,h6⟩
 ·have e:termN (114 :: 50 :: r) bad=(rootN 2,r,bad):=by unfold termN;rw [h]
  rw [e] at hQ
  exact zgI hS hM ox bx (.inl ⟨rfl,rfl⟩) (hQ hb)
 ·have e:termN (114 :: 51 :: r) bad=(rootN 3,r,bad):=by unfold termN;rw [h]
  rw [e] at hQ
  exact zgI hS hM ox bx (.inr (.inl ⟨rfl,rfl⟩)) (hQ hb)
 ·have e:termN (114 :: 54 :: r) bad=(rootN 6,r,bad):=by unfold termN;rw [h]
  rw [e] at hQ
  exact zgI hS hM ox bx (.inr (.inr ⟨rfl,rfl⟩)) (hQ hb)
 ·obtain ⟨t,ht⟩:∃ t:Nm × List UInt8,t=match rootS (valN l bad).2.1 with | some (k,r)=>(mulN (valN l bad).1 (rootN k),r) | none=>(mulN (valN l bad).1 (intN 1),(valN l bad).2.1):=⟨_,rfl⟩
  have e:termN l bad=(t.1,t.2,(valN l bad).2.2):=by
   unfold termN
   rw [h,ht]
   simp only
   cases rootS (valN l bad).2.1 with
   | none=>rfl
   | some p=>rfl
  rw [e] at hQ hp
  by_cases hr:∃ r,l=114 :: r
  ·have h4:=zso (e:=bad) hr
   obtain ⟨r,rfl⟩:=hr
   refine zi0 hS hM fun rn' a1 w1 hS1 hM1=>zam (zaA ?_)
   exact zi8 hS1 hM1 h2 h3 h6 (fun a' w' g1 g2=>zam (zkj g1 g2 hq (hp h4)))
  ·have hl1:∀ r,l≠114 :: r:=fun r hh=>hr ⟨r,hh⟩
   have V:=fun w=>zk1 l w hl
   obtain ⟨ov,bv,lv⟩:=zfo l bad hl
   rcases zry l bad hb with ⟨g1,g2,g3⟩ | ⟨g1,g2,g3,g4⟩ | ⟨g1,g2,g3,g4,g5⟩
   ·rw [g1,g2] at V
    exact zmr hS hM hl1 V hqq (hp g3)
   ·rw [g1,g2,g3] at V
    rw [g4] at hQ
    exact zrN hS hM hl1 V (fun rn' a' w' k1 k2=>zam (zaA (zm8 k1 k2 ox bx ov bv t ht (hQ hb rn'))))
   ·rw [g1,g2,g3] at V
    rw [g5] at hQ
    rw [g4] at ht
    exact znd hS hM hl1 V (fun rn' a' w' k1 k2=>zam (zaA (zm8 k1 k2 ox bx (zaW 0) (BN.int (Bd.zero _) (by omega)) t ht (hQ (.inr rfl) rn'))))
end

def parK (f:Nat) (x:Nm) (l:List UInt8) (e:Int):Nm × Int :=
 match l with
 | []=>(x,e)
 | c :: r=>if c=45 then parP f x true r e else if c=43 then parP f x false r e else (x,4)
theorem zlu (f:Nat) (x:Nm) (neg:Bool) (l:List UInt8) (e:Int):parP (f+1) x neg l e=if (termN l e).2.2=4 then (addN x (if neg then negN (termN l e).1 else (termN l e).1),4) else parK f (addN x (if neg then negN (termN l e).1 else (termN l e).1)) (termN l e).2.1 (termN l e).2.2:=by
 show (if (termN l e).2.2=4 then _ else _)=_
 by_cases h:(termN l e).2.2=4
 ·rw [if_pos h,if_pos h]
 ·rw [if_neg h,if_neg h]
  unfold parK
  cases (termN l e).2.1 <;> rfl
theorem zpE (x:Nm):resV (x,4) = .tuple #[vZ,.int .i64 4]:=by
 unfold resV
 exact if_neg (show ¬ ((4:Int)=0) by decide)
section
variable {X:Cx} {rn:Nat→Nat} {l:List UInt8} {bad:Int} {x v:Nm} {mi:Bool} {a:Act} {w:World} {Q:Exit→Act→World→Prop} {post:Ending→World→Prop} {j:Nat}
theorem zm3 (f:Nat) (p:Nm × Int) (hpar:parP (f+1) x mi l bad=p) (hS:St gqN (gqS1 rn l bad mi) a) (hM:MemOk X rn (gqM x) w) (hl:l.length≤400) (hj:j≤400) (hb:bad=0∨bad=10) (ox:Ok x) (bx:BN (1+811 * j) x)
  (hq:∀ a' w',bodyPost Tryz.prog Tryz.f55 post .ret a' w'→Q .ret a' w') (hp:∀ w',Chg X.L X.w0 w'→post (.returned (resV p)) w')
  (hQ:∀ rn' a' w' s e x',(e=0∨e=10)→parK f x' s e=p→Ok x'→BN (1+811 * (j+1)) x'→s.length≤l.length→St gqN (gqS0 rn' s e) a'→MemOk X rn' (gqM x') w'→Q .normal a' w') :
  wpL Tryz.prog ((cPre 2 gq1).drop 2) (Exit.then (fun a w=>(cAt 2 gq1).wp Tryz.prog (Exit.then (fun a w=>wpL Tryz.prog (cPost 2 gq1) Q a w) Q) a w) Q) a w:=by
 obtain ⟨ot,bt,lt⟩:=zfU l bad hl
 rw [zlu] at hpar
 have ov:=negB mi ot
 have bv:BN 810 (if mi then negN (termN l bad).1 else (termN l bad).1):=by
  cases mi
  ·exact bt
  ·exact bt.neg
 refine zqP hS hM hl hb ox (bx.mono (by omega)) hq (fun h4=>?_) (fun he rn' a' w' h1 h2=>?_)
 ·rw [if_pos h4] at hpar
  subst hpar
  rw [zpE] at hp
  exact hp
 ·rw [if_neg (by rcases he with h | h <;> rw [h] <;> decide)] at hpar
  exact hQ rn' a' w' _ _ _ he hpar (zek ox ov) ((bx.addN' bv ox.ne ov.ne).mono (by omega)) lt h1 h2
end
def gqB (Q:Exit→Act→World→Prop):Exit→Act→World→Prop:=Exit.inBlock 1 (Exit.then (fun a w=>wpL Tryz.prog (cPost 1 gqR) Q a w) Q)
def gqG (Q:Exit→Act→World→Prop) (a:Act) (w:World):Prop:=wpL Tryz.prog ((cPre 2 gq1).drop 2) (Exit.then (fun a w=>(cAt 2 gq1).wp Tryz.prog (Exit.then (fun a w=>wpL Tryz.prog (cPost 2 gq1) Q a w) Q) a w) Q) a w
def gqI (l0:List UInt8) (p:Nm × Int) (X:Cx) (n:Nat) (a:Act) (w:World):Prop :=
 ∃ rn x s e first j,(e=0∨e=10)∧Ok x∧BN (1+811 * j) x∧j+s.length≤401∧s.length≤400∧n=s.length+(if first=true then 1 else 0)+1 ∧
  (if first=true then j=0∧parP 401 x (sgnL s).1 (sgnL s).2 e=p else 1≤j∧parK (401 - j) x s e=p)∧St gqN (gqS rn s e first) a∧MemOk X rn (gqM x) w
theorem zqQ (X:Cx) (l0:List UInt8) (p:Nm × Int) (n:Nat) (a:Act) (w:World) (post:Ending→World→Prop) (hI:gqI l0 p X n a w) (hp:∀ w',Chg X.L X.w0 w'→post (.returned (resV p)) w') :
  gq0.wp Tryz.prog (Exit.then (fun a w=>wpL Tryz.prog (cPost 0 gqC) (bodyPost Tryz.prog Tryz.f55 post) a w) (bodyPost Tryz.prog Tryz.f55 post)) a w:=by
 refine zbD 0 kr kr (gqI l0 p X) n hI ?_
 clear hI a w n
 rintro n a w ⟨rn,x,s,e,first,j,he,ox,bx,hj,hs,rfl,hf,hS,hM⟩
 show (gqR).wp _ _ a w
 have enter:∀ (Q:Exit→Act→World→Prop),wpL Tryz.prog (cPre 1 gqR) (Exit.then (fun a w=>wpL Tryz.prog ((cPre 2 gq1).take 2) (Exit.then (fun a w=>gqG (gqB Q) a w) (gqB Q)) a w) Q) a w→gqR.wp Tryz.prog Q a w:=by
  intro Q h
  refine zaT 1 kr ?_
  refine zcn _ h ?_
  intro ex a w h
  cases ex
  case normal =>
   refine zdU 1 kr ?_
   show gq1.wp _ _ a w
   refine zaT 2 kr ?_
   rw [← List.take_append_drop 2 (cPre 2 gq1)]
   refine zdX _ _ ?_
   refine zcn _ h ?_
   intro ex a w h
   cases ex <;> exact h
  all_goals exact h
 cases first with
 | true =>
  simp only [if_true] at hf
  obtain ⟨rfl,hf⟩:=hf
  refine enter _ (zrY hS hM fun a1 w1 hS1 hM1=>zam ?_)
  obtain ⟨Q1,hQ1⟩:∃ Q1,Q1=(Exit.then (fun a' w'=>∃ m,m<s.length+(if true=true then 1 else 0)+1∧gqI l0 p X m a' w') (Exit.inBlock 0 (Exit.then (fun a w=>wpL Tryz.prog (cPost 0 gqC) (bodyPost Tryz.prog Tryz.f55 post) a w) (bodyPost Tryz.prog Tryz.f55 post)))):=⟨_,rfl⟩
  rw [← hQ1]
  have go:∀ (rn:Nat→Nat) a2 w2,St gqN (gqS1 rn (sgnL s).2 e (sgnL s).1) a2→MemOk X rn (gqM x) w2→gqG (gqB Q1) a2 w2:=by
   intro rn a2 w2 hS2 hM2
   subst hQ1
   have hlen:=zn2 s
   refine zm3 (j:=0) (post:=post) 400 p hf hS2 hM2 (by omega) (by omega) he ox bx (fun a' w' h=>h) hp ?_
   intro rn' a' w' s' e' x' he' hpk ox' bx' hls h1 h2
   refine zbk (zam (zmR h1 h2 fun a3 w3 h3 h4=>zam ?_))
   exact ⟨s'.length+1,by simp only [if_true];omega,rn',x',s',e',false,1,he',ox',bx',by omega,by omega,by simp,by simp only [Bool.false_eq_true,if_false];exact ⟨Nat.le_refl _,hpk⟩,h3,h4⟩
  by_cases h45:∃ r,s=45 :: r
  ·obtain ⟨r,rfl⟩:=h45
   exact znC hS1 hM1 (fun a2 w2 h1 h2=>zam (go rn a2 w2 h1 h2))
  ·have hn:∀ r,s≠45 :: r:=fun r h=>h45 ⟨r,h⟩
   have e1:sgnL s=(false,s):=by
    unfold sgnL
    cases s with
    | nil=>rfl
    | cons c r=>simp only;rw [if_neg (fun h=>hn r (by rw [h]))]
   rw [e1] at go
   exact zq9 hS1 hM1 hn (fun a2 w2 h1 h2=>zam (go rn a2 w2 h1 h2))
 | false =>
  simp only [Bool.false_eq_true,if_false] at hf
  obtain ⟨hj1,hf⟩:=hf
  cases hsl:s with
  | nil =>
   subst hsl
   have e1:p=(x,e):=by rw [← hf];rfl
   subst e1
   refine zaA (zsf hS hM fun a1 w1 hS1 hM1=>zbP (zam ?_))
   unfold resV at hp
   rcases he with rfl | rfl
   ·exact zpj hS1 hM1 hp
   ·exact znc hS1 hM1 hp
  | cons c r =>
   subst hsl
   rw [List.length_cons] at hj hs
   refine enter _ (zr8 hS hM rfl fun a1 w1 hS1 hM1=>zam ?_)
   obtain ⟨f,hff⟩:∃ f,401 - j=f+1:=⟨400 - j,by omega⟩
   rw [hff] at hf
   obtain ⟨Q1,hQ1⟩:∃ Q1,Q1=(Exit.then (fun a' w'=>∃ m,m<(c :: r).length+(if false=true then 1 else 0)+1∧gqI l0 p X m a' w') (Exit.inBlock 0 (Exit.then (fun a w=>wpL Tryz.prog (cPost 0 gqC) (bodyPost Tryz.prog Tryz.f55 post) a w) (bodyPost Tryz.prog Tryz.f55 post)))):=⟨_,rfl⟩
   rw [← hQ1]
   have go:∀ (mi:Bool) (rn:Nat→Nat) a2 w2,parP (f+1) x mi r e=p→St gqN (gqS1 rn r e mi) a2→MemOk X rn (gqM x) w2→gqG (gqB Q1) a2 w2:=by
    intro mi rn a2 w2 hpar hS2 hM2
    subst hQ1
    refine zm3 (j:=j) (post:=post) f p hpar hS2 hM2 (by omega) (by omega) he ox bx (fun a' w' h=>h) hp ?_
    intro rn' a' w' s' e' x' he' hpk ox' bx' hls h1 h2
    refine zbk (zam (zmR h1 h2 fun a3 w3 h3 h4=>zam ?_))
    exact ⟨s'.length+1,by simp only [Bool.false_eq_true,if_false,List.length_cons];omega,rn',x',s',e',false,j+1,he',ox',bx',by omega,by omega,by simp,by simp only [Bool.false_eq_true,if_false];exact ⟨by omega,by rw [show 401 - (j+1)=f by omega];exact hpk⟩,h3,h4⟩
   unfold parK at hf
   simp only at hf
   by_cases c1:c=45
   ·subst c1
    rw [if_pos rfl] at hf
    exact zmh hS1 hM1 (fun a2 w2 h1 h2=>zam (go true rn a2 w2 hf h1 h2))
   ·rw [if_neg c1] at hf
    by_cases c2:c=43
    ·subst c2
     rw [if_pos rfl] at hf
     exact zqs hS1 hM1 (fun a2 w2 h1 h2=>zam (go false rn a2 w2 hf h1 h2))
    ·rw [if_neg c2] at hf
     subst hf
     rw [zpE] at hp
     exact zor hS1 hM1 (fun _ h=>by injection h with h _;exact c1 h) (fun _ h=>by injection h with h _;exact c2 h) (fun a' w' h=>by subst hQ1;exact h) hp
theorem ziL (l:List UInt8) (w:World) (hl:400<l.length):Calls Tryz.prog 55 #[.string ⟨l.toArray⟩] w (RetV (.tuple #[vZ,.int .i64 3]) w):=by
 have h:decide ((400:Int)<((ByteArray.mk l.toArray).size:Int))=true:=decide_eq_true (by rw [zaq];omega)
 exact zac kr Tryz.func55 rfl [.string ⟨l.toArray⟩] nle [] [(.p _ true h)] []
theorem zkp (l:List UInt8) (w:World):Calls Tryz.prog 55 #[.string ⟨l.toArray⟩] w (RetV (resV (parF l)) w):=by
 unfold parF
 by_cases hl:400<l.length
 ·rw [if_pos hl]
  exact ziL l w hl
 ·rw [if_neg hl]
  have h:decide ((400:Int)<((ByteArray.mk l.toArray).size:Int))=false:=decide_eq_false (by rw [zaq];omega)
  have O:=fun w=>zc2 0 w (by omega) (by omega)
  have key:∀ (rn:Nat→Nat) a1 w1,St gqN (gqS rn l 0 true) a1→MemOk ⟨w,[]⟩ rn (gqM (intN 0)) w1→gq0.wp Tryz.prog (Exit.then (fun a2 w2=>wpL Tryz.prog (cPost 0 gqC) (bodyPost Tryz.prog Tryz.f55 (RetV (resV (parP 401 (intN 0) (sgnL l).1 (sgnL l).2 0)) w)) a2 w2) (bodyPost Tryz.prog Tryz.f55 (RetV (resV (parP 401 (intN 0) (sgnL l).1 (sgnL l).2 0)) w))) a1 w1 :=
   fun rn a1 w1 h1 h2=>zqQ ⟨w,[]⟩ l _ _ a1 w1 (RetV (resV (parP 401 (intN 0) (sgnL l).1 (sgnL l).2 0)) w) ⟨rn,intN 0,l,0,true,0,.inl rfl,zaW 0,BN.int (Bd.zero _) (by omega),by omega,by omega,rfl,by simp,h1,h2⟩ (fun w' hc=>⟨rfl,hc.below (Nat.le_refl _) (fun x h=>by cases h)⟩)
  refine zbp [.string ⟨l.toArray⟩] (fn:=Tryz.f55) (c:=gqC) kr kr nle ?_
  intro a hS
  refine zaT 0 kr ?_
  unfold gqS gqM at key
  generalize intN 0=n0 at *
  refine vf (X:=⟨w,[]⟩) [] gqN (cPre 0 gqC) (fun r=>[(0,(.string ⟨l.toArray⟩,0))]) (fun r=>[]) 0 (fun _=>0) (hS) (⟨Chg.refl _ _,fun k x h=>(by cases h),fun k k' x x' h=>by cases h⟩) [(.p _ false h)] [cV (O)] (VEx.n) (fun r=>[(0,(.string ⟨l.toArray⟩,0)),(2,(.pointer (some ⟨r 0,0,none⟩),1)),(4,(.pointer (some ⟨r 6,0,none⟩),7)),(5,(.int .i64 (0),0)),(6,(.bool true,0))]) [] (fun r=>[(0,(26,zcN)),(6,(26,xcN n0))]) ?_
  intro rn a1 w1 hr hS1 hK1 hM1
  exact key rn a1 w1 hS1 hM1
end Go.Proofs.YtegnalgjjmpcmaaGreatDoor
