import Derived.Test.YtegnalgjjmpcmaaGreatDoorPUJ
import Derived.Test.YtegnalgjjmpcmaaGreatDoorPUI
import Derived.Test.YtegnalgjjmpcmaaGreatDoorPUK
import Derived.Test.YtegnalgjjmpcmaaGreatDoorPUR
import Derived.Test.YtegnalgjjmpcmaaGreatDoorPUL
/- Reading numbers: digits,integers (program and reference). -/
set_option linter.unusedVariables false
set_option linter.unusedSimpArgs false
set_option maxRecDepth 100000
set_option maxHeartbeats 8000000
namespace Go.Proofs.YtegnalgjjmpcmaaGreatDoor
open Go Go.RowKit
def isD (c:UInt8):Bool:=Nat.ble 48 c.toNat && Nat.ble c.toNat 57
def dgs (l:List UInt8):List UInt8:=l.takeWhile isD
def dgr (l:List UInt8):List UInt8:=l.dropWhile isD
theorem zik (l:List UInt8):dgs l++dgr l=l:=List.takeWhile_append_dropWhile
theorem zcO (l:List UInt8):(dgs l).length+(dgr l).length=l.length:=by
 have:=congrArg List.length (zik l)
 rwa [List.length_append] at this
theorem zeG (l:List UInt8):l.take (dgs l).length=dgs l:=by
 have h:=zik l
 generalize dgs l=a at *
 generalize dgr l=b at *
 subst h
 simp
theorem zeJ (l:List UInt8):l.drop (dgs l).length=dgr l:=by
 have h:=zik l
 generalize dgs l=a at *
 generalize dgr l=b at *
 subst h
 simp
theorem zcP (c:UInt8):isD c=true↔48≤c.toNat∧c.toNat≤57:=by
 unfold isD
 rw [Bool.and_eq_true,Nat.ble_eq,Nat.ble_eq]
theorem zcJ (l:List UInt8):DigL (dgs l):=fun c hc=>(zcP c).1 (by
 unfold dgs at hc
 induction l with
 | nil=>cases hc
 | cons a l ih =>
  rw [List.takeWhile_cons] at hc
  split at hc
  ·rcases List.mem_cons.1 hc with rfl | hc
   ·assumption
   ·exact ih hc
  ·cases hc)
theorem zmJ (l:List UInt8) (n:Nat) (h:n<(dgs l).length) (h2:n<l.length):isD l[n]=true:=by
 have h3:l[n]=(dgs l)[n]:=by
  have e:l[n]?=(dgs l)[n]?:=by
   rw [← zeG l,List.getElem?_take,if_pos h]
  rw [List.getElem?_eq_getElem h2,List.getElem?_eq_getElem h] at e
  exact Option.some.inj e
 rw [h3,zcP]
 exact zcJ l _ (List.getElem_mem h)
theorem zoE (l:List UInt8) (c:UInt8) (r:List UInt8) (h:dgr l=c :: r):isD c=false:=by
 unfold dgr at h
 induction l with
 | nil=>cases h
 | cons a l ih =>
  rw [List.dropWhile_cons] at h
  split at h
  ·exact ih h
  ·rename_i hn
   injection h with h1 h2
   subst h1
   simpa using hn
theorem zh7 (l:List UInt8) (h:(dgs l).length<l.length):isD (l[(dgs l).length]'h)=false:=by
 have h2:=zeJ l
 rw [List.drop_eq_getElem_cons h] at h2
 exact zoE l _ _ h2.symm
theorem zgN (l:List UInt8) (n:Nat) (h:n≤l.length) (w:World):(Instr.sliceAt 9 (.string ⟨l.toArray⟩) none (some (.int .i64 (n:Int))) none).run Tryz.prog w = .ok (.string ⟨(l.take n).toArray⟩) w:=by
 have h2:(n:Int)≤((ByteArray.mk l.toArray).size:Int):=by
  rw [show (ByteArray.mk l.toArray).size=l.length by simp [ByteArray.size]];omega
 have e:(ByteArray.mk l.toArray).extract 0 n=⟨(l.take n).toArray⟩:=by rw [ByteArray.extract_mk];simp
 rw [← e]
 go_simp
theorem zd0 (l:List UInt8) (n:Nat) (h:n≤l.length) (w:World):(Instr.sliceAt 9 (.string ⟨l.toArray⟩) (some (.int .i64 (n:Int))) none none).run Tryz.prog w = .ok (.string ⟨(l.drop n).toArray⟩) w:=by
 have h3:(ByteArray.mk l.toArray).size=l.length:=by simp [ByteArray.size]
 have h2:(n:Int)≤((ByteArray.mk l.toArray).size:Int):=by
  rw [h3];omega
 have e:(ByteArray.mk l.toArray).extract n (ByteArray.mk l.toArray).size=⟨(l.drop n).toArray⟩:=by
  rw [ByteArray.extract_mk,h3,List.take_of_length_le (by simp)]
 rw [← e]
 go_simp
theorem zf9 (l:List UInt8) (n:Nat) (h:n<l.length) (w:World):(Instr.index 9 (.string ⟨l.toArray⟩) (.int .i64 (n:Int))).run Tryz.prog w = .ok (.int .u8 ((l[n].toNat:Nat):Int)) w:=by
 have h3:(ByteArray.mk l.toArray).size=l.length:=by simp [ByteArray.size]
 exact zjS ⟨l.toArray⟩ n (by omega) w
noncomputable def fdN:Nat:=Tryz.f198.ntmps
noncomputable def fdC:Code:=Tryz.f198.body.getD .skip
noncomputable def fd0:Code:=cB 0 fdC
theorem zez (b:Nat) (l:List UInt8) (e:Int) (w:World) (hB:Hc w b 95 (rdC l e)) (hl:l.length≤1000000):Calls Tryz.prog 198 #[.pointer (some ⟨b,0,none⟩)] w (RetRd b (.string ⟨(dgs l).toArray⟩) (dgr l) e w):=by
 have hsz:((ByteArray.mk l.toArray).size:Int)=(l.length:Int):=by simp [ByteArray.size]
 refine zbp [.pointer (some ⟨b,0,none⟩)] (fn:=Tryz.f198) (c:=fdC) kr kr nle ?_
 intro a hS
 have hS:St fdN [(0,(.pointer (some ⟨(fun _=>b) 0,0,none⟩),1))] a:=⟨hS.defers,hS.size,fun p hp=>by
  rw [List.mem_singleton] at hp
  subst hp
  exact hS.has (0,(.pointer (some ⟨b,0,none⟩),0)) List.mem_cons_self⟩
 have hM:MemOk ⟨w,[b]⟩ (fun _=>b) [(0,(95,rdC l e))] w:=⟨Chg.refl _ _,fun k x h=>by
  have:=zaM h
  simp only [List.mem_singleton,Prod.mk.injEq] at this
  obtain ⟨rfl,rfl⟩:=this
  exact ⟨hB,.inr (by simp)⟩,fun k k' x x' h h' _=>by
  have h1:=zaM h
  have h2:=zaM h'
  simp only [List.mem_singleton,Prod.mk.injEq] at h1 h2
  omega⟩
 refine zaT 0 kr ?_
 refine vk (X:=⟨w,[b]⟩) [] fdN (cPre 0 fdC) (fun r=>[(0,(.pointer (some ⟨r 0,0,none⟩),1))]) (fun r=>[(0,(95,rdC l e))]) 1 (fun _=>b) (hS) (hM) [] [] (VEx.n) (fun r=>[(0,(.pointer (some ⟨r 0,0,none⟩),1)),(3,(.int .i64 (((0:Nat):Int)),0))]) [] (fun r=>[(0,(95,rdC l e))]) ?_
 intro a1 w1 hS1 hK1 hM1
 have hS1:St fdN [(0,(.pointer (some ⟨b,0,none⟩),1)),(3,(.int .i64 ((0:Nat):Int),0))] a1:=hS1
 refine zbD 0 kr kr (fun n a' w'=>∃ j,(dgs l).length - j=n∧j≤(dgs l).length∧St fdN [(0,(.pointer (some ⟨b,0,none⟩),1)),(3,(.int .i64 (j:Int),0))] a'∧MemOk ⟨w,[b]⟩ (fun _=>b) [(0,(95,rdC l e))] w') ((dgs l).length - 0) ⟨0,rfl,by omega,hS1,hM1⟩ ?_
 clear hS1 hM1 hS hM
 have hd:=zcO l
 rintro n a2 w2 ⟨j,rfl,hj,hS2,hM2⟩
 refine zaA ?_
 rcases Nat.lt_or_ge j (dgs l).length with hjk | hjk
 ·have h1:decide ((j:Int)<((ByteArray.mk l.toArray).size:Int))=true:=decide_eq_true (by omega)
  have hB:=zf9 l j (by omega)
  obtain ⟨c1,c2⟩:=(zcP _).1 (zmJ l j hjk (by omega))
  generalize (l[j]'(by omega)).toNat=c at *
  have h2:decide ((48:Int)≤(c:Int))=true:=decide_eq_true (by omega)
  have h3:decide ((c:Int)≤57)=true:=decide_eq_true (by omega)
  have v1:IntKind.i64.wrap ((j:Int)+1)=((j+1:Nat):Int):=by rw [wr64 (by omega) (by omega)];omega
  refine vk (X:=⟨w,[b]⟩) [(2,13),(2,22),(3,1)] fdN [cI (cI fd0)] (fun r=>[(0,(.pointer (some ⟨r 0,0,none⟩),1)),(3,(.int .i64 ((j:Int)),0))]) (fun r=>[(0,(95,rdC l e))]) 100 (fun _=>b) (hS2) (hM2) [(.p _ true h1),(.p _ true h1),(.p _ true h1),(.p _ true h1),(.p _ true h1),(.p _ true h1),(.p _ true h1),(.p _ true h1),(.p _ true h2),(.p _ true h2),(.p _ true h2),(.p _ true h2),(.p _ true h2),(.p _ true h2),(.p _ true h2),(.p _ true h2),(.p _ true h3)] [lV (Instr.index 9 (.string ⟨l.toArray⟩) (.int .i64 (j:Int))) (.int .u8 (c:Int)) (fun w hC=>hB w),lV (Instr.index 9 (.string ⟨l.toArray⟩) (.int .i64 (j:Int))) (.int .u8 (c:Int)) (fun w hC=>hB w),lE .i64 ((((j:Int)):Int)+((1):Int)) (((j+1:Nat):Int)) (v1)] (VEx.n) (fun r=>[(0,(.pointer (some ⟨r 0,0,none⟩),1)),(3,(.int .i64 (((j+1:Nat):Int)),0))]) [] (fun r=>[(0,(95,rdC l e))]) ?_
  intro a3 w3 hS3 hK3 hM3
  exact ⟨(dgs l).length - (j+1),by omega,j+1,rfl,by omega,hS3,hM3⟩
 ·obtain rfl:j=(dgs l).length:=by omega
  have hfin:∀ a3 w3,St fdN [(0,(.pointer (some ⟨b,0,none⟩),1)),(3,(.int .i64 ((dgs l).length:Int),0))] a3→MemOk ⟨w,[b]⟩ (fun _=>b) [(0,(95,rdC l e))] w3→wpL Tryz.prog (cPost 0 fdC) (bodyPost Tryz.prog Tryz.f198 (RetRd b (.string ⟨(dgs l).toArray⟩) (dgr l) e w)) a3 w3:=by
   intro a3 w3 hS3 hM3
   have s1:=zgN l (dgs l).length (by omega)
   have s2:=zd0 l (dgs l).length (by omega)
   rw [zeG] at s1
   rw [zeJ] at s2
   refine vk (X:=⟨w,[b]⟩) [(4,5),(5,6)] fdN (cPost 0 fdC) (fun r=>[(0,(.pointer (some ⟨r 0,0,none⟩),1)),(3,(.int .i64 (((dgs l).length:Int)),0))]) (fun r=>[(0,(95,rdC l e))]) 200 (fun _=>b) (hS3) (hM3) [] [lV (Instr.sliceAt 9 (.string ⟨l.toArray⟩) none (some (.int .i64 ((dgs l).length:Int))) none) (.string ⟨(dgs l).toArray⟩) (fun w hC=>s1 w),lV (Instr.sliceAt 9 (.string ⟨l.toArray⟩) (some (.int .i64 ((dgs l).length:Int))) none none) (.string ⟨(dgr l).toArray⟩) (fun w hC=>s2 w)] (VEx.r) (fun r=>[(2,(.string ⟨(dgs l).toArray⟩,0))]) [] (fun r=>[(0,(95,rdC (dgr l) e))]) ?_
   intro a4 w4 hS4 hK4 hM4
   exact za4 (fn:=Tryz.f198) hS4 hM4 (.string ⟨(dgs l).toArray⟩) (fun g=>by kernel_rfl) ⟨rfl,(hM4.has 0 _ rfl).1,hM4.below⟩
  rcases Nat.lt_or_ge (dgs l).length l.length with hlt | hge
  ·have h1:decide (((dgs l).length:Int)<((ByteArray.mk l.toArray).size:Int))=true:=decide_eq_true (by omega)
   have hB:=zf9 l (dgs l).length hlt
   have hc:=zh7 l hlt
   have hc2:¬ (48≤(l[(dgs l).length]'hlt).toNat∧(l[(dgs l).length]'hlt).toNat≤57):=by
    rw [← zcP,hc];decide
   generalize (l[(dgs l).length]'hlt).toNat=c at *
   by_cases h48:48≤c
   ·have h2:decide ((48:Int)≤(c:Int))=true:=decide_eq_true (by omega)
    have h3:decide ((c:Int)≤57)=false:=decide_eq_false (by omega)
    refine vk (X:=⟨w,[b]⟩) [(2,13),(2,22)] fdN [cI (cI fd0)] (fun r=>[(0,(.pointer (some ⟨r 0,0,none⟩),1)),(3,(.int .i64 (((dgs l).length:Int)),0))]) (fun r=>[(0,(95,rdC l e))]) 100 (fun _=>b) (hS2) (hM2) [(.p _ true h1),(.p _ true h1),(.p _ true h1),(.p _ true h1),(.p _ true h1),(.p _ true h1),(.p _ true h1),(.p _ true h1),(.p _ true h2),(.p _ true h2),(.p _ true h2),(.p _ true h2),(.p _ true h2),(.p _ true h2),(.p _ true h2),(.p _ true h2),(.p _ false h3)] [lV (Instr.index 9 (.string ⟨l.toArray⟩) (.int .i64 ((dgs l).length:Int))) (.int .u8 (c:Int)) (fun w hC=>hB w),lV (Instr.index 9 (.string ⟨l.toArray⟩) (.int .i64 ((dgs l).length:Int))) (.int .u8 (c:Int)) (fun w hC=>hB w)] (VEx.x 0) (fun r=>[(0,(.pointer (some ⟨r 0,0,none⟩),1)),(3,(.int .i64 (((dgs l).length:Int)),0))]) [] (fun r=>[(0,(95,rdC l e))]) ?_
    intro a3 w3 hS3 hK3 hM3
    exact zbP (zam (hfin a3 w3 hS3 hM3))
   ·have h2:decide ((48:Int)≤(c:Int))=false:=decide_eq_false (by omega)
    refine vk (X:=⟨w,[b]⟩) [(2,13)] fdN [cI (cI fd0)] (fun r=>[(0,(.pointer (some ⟨r 0,0,none⟩),1)),(3,(.int .i64 (((dgs l).length:Int)),0))]) (fun r=>[(0,(95,rdC l e))]) 100 (fun _=>b) (hS2) (hM2) [(.p _ true h1),(.p _ true h1),(.p _ true h1),(.p _ true h1),(.p _ true h1),(.p _ true h1),(.p _ true h1),(.p _ true h1),(.p _ false h2),(.p _ false h2),(.p _ false h2),(.p _ false h2),(.p _ false h2),(.p _ false h2),(.p _ false h2),(.p _ false h2),.f] [lV (Instr.index 9 (.string ⟨l.toArray⟩) (.int .i64 ((dgs l).length:Int))) (.int .u8 (c:Int)) (fun w hC=>hB w)] (VEx.x 0) (fun r=>[(0,(.pointer (some ⟨r 0,0,none⟩),1)),(3,(.int .i64 (((dgs l).length:Int)),0))]) [] (fun r=>[(0,(95,rdC l e))]) ?_
    intro a3 w3 hS3 hK3 hM3
    exact zbP (zam (hfin a3 w3 hS3 hM3))
  ·have h1:decide (((dgs l).length:Int)<((ByteArray.mk l.toArray).size:Int))=false:=decide_eq_false (by omega)
   refine vk (X:=⟨w,[b]⟩) [] fdN [cI (cI fd0)] (fun r=>[(0,(.pointer (some ⟨r 0,0,none⟩),1)),(3,(.int .i64 (((dgs l).length:Int)),0))]) (fun r=>[(0,(95,rdC l e))]) 100 (fun _=>b) (hS2) (hM2) [(.p _ false h1),(.p _ false h1),(.p _ false h1),(.p _ false h1),(.p _ false h1),(.p _ false h1),(.p _ false h1),(.p _ false h1),.f,.f,.f,.f,.f,.f,.f,.f,.f] [] (VEx.x 0) (fun r=>[(0,(.pointer (some ⟨r 0,0,none⟩),1)),(3,(.int .i64 (((dgs l).length:Int)),0))]) [] (fun r=>[(0,(95,rdC l e))]) ?_
   intro a3 w3 hS3 hK3 hM3
   exact zbP (zam (hfin a3 w3 hS3 hM3))

def flD (e:Int):Int:=if e=0 then 10 else e
theorem frfail4 (b:Nat) (l:List UInt8) (e:Int) (w:World) (hB:Hc w b 95 (rdC l e)):Calls Tryz.prog 114 #[.pointer (some ⟨b,0,none⟩),.int .i64 4] w (RetRd b (.tuple #[]) l 4 w):=by
 by_cases he:e=0
 ·subst he
  exact zbd kr Tryz.func114 rfl b 95 (rdC l 0) (rdC l 4) (hB) [.int .i64 4] nle [] [.t,.t,.t,.t] []
 ·have h:(e == 0)=false:=by simpa using he
  exact zbd kr Tryz.func114 rfl b 95 (rdC l e) (rdC l 4) (hB) [.int .i64 4] nle [] [(.p _ false h),(.p _ false h),(.p _ false h),.t] []
theorem frfail10 (b:Nat) (l:List UInt8) (e:Int) (w:World) (hB:Hc w b 95 (rdC l e)):Calls Tryz.prog 114 #[.pointer (some ⟨b,0,none⟩),.int .i64 10] w (RetRd b (.tuple #[]) l (flD e) w):=by
 unfold flD
 by_cases he:e=0
 ·subst he
  rw [if_pos rfl]
  exact zbd kr Tryz.func114 rfl b 95 (rdC l 0) (rdC l 10) (hB) [.int .i64 10] nle [] [.t,.t,.t,.t] []
 ·have h:(e == 0)=false:=by simpa using he
  rw [if_neg he]
  exact zbd kr Tryz.func114 rfl b 95 (rdC l e) (rdC l e) (hB) [.int .i64 10] nle [] [(.p _ false h),(.p _ false h),(.p _ false h),.f] []
def pOk (s:List UInt8):Bool:=decide (s ≠ []∧(s.head?=some 48→s.length=1))
def numP (s:List UInt8):Nat:=if pOk s=true then numL s else 0
theorem zb8 (p l:List UInt8):Lib.hasPrefix (p++l) p=true∧Lib.trimPrefix (p++l) p=l:=by
 have h:Lib.hasPrefix (p++l) p=true:=by
  unfold Lib.hasPrefix
  rw [List.isPrefixOf_iff_prefix]
  exact List.prefix_append _ _
 refine ⟨h,?_⟩
 unfold Lib.trimPrefix
 rw [if_pos h,List.drop_left]
theorem zcT (p l:List UInt8) (h:∀ r,l≠p++r):Lib.hasPrefix l p=false∧Lib.trimPrefix l p=l:=by
 have h1:Lib.hasPrefix l p=false:=by
  cases hh:Lib.hasPrefix l p with
  | false=>rfl
  | true =>
   unfold Lib.hasPrefix at hh
   rw [List.isPrefixOf_iff_prefix] at hh
   obtain ⟨r,hr⟩:=hh
   exact absurd hr.symm (h r)
 refine ⟨h1,?_⟩
 unfold Lib.trimPrefix
 rw [if_neg (by rw [h1];decide)]
theorem zox {s:List UInt8} (hd:DigL s):∀ r,s≠45 :: r:=fun r h=>by
 have:=hd 45 (by rw [h];exact List.mem_cons_self)
 have h2:(45:UInt8).toNat=45:=rfl
 omega
theorem zhY (s:List UInt8):shapeB false ⟨s.toArray⟩=pOk s:=by
 rw [Bool.eq_iff_iff,zlQ]
 unfold pOk
 rw [decide_eq_true_iff]
 exact ⟨fun h=>⟨h.1,fun e=>(h.2 e).1⟩,fun h=>⟨h.1,fun e=>⟨h.2 e,rfl⟩⟩⟩
theorem zmY {s:List UInt8} (hp:pOk s=true) (h0:0<(ByteArray.mk s.toArray).size) (h48:((ByteArray.mk s.toArray)[0]'h0).toNat=48):¬ 1<(ByteArray.mk s.toArray).size:=by
 rw [zaq]
 have h:=(of_decide_eq_true hp).2
 cases s with
 | nil=>simp
 | cons c r =>
  have:(c :: r).head?=some 48:=by rw [show c=48 from UInt8.toNat_inj.1 h48];rfl
  have:=h this
  omega
theorem zl9 {s:List UInt8} (hp:pOk s=true):sgnd false (numAt ⟨s.toArray⟩ (ByteArray.mk s.toArray).size)=(numP s:Int):=by
 unfold numP
 rw [if_pos hp,zhu]
 simp [sgnd]
theorem zlm {s:List UInt8} (hp:pOk s=false):numP s=0:=by
 unfold numP
 rw [if_neg (by rw [hp];decide)]
theorem zmg {s:List UInt8} (hp:pOk s=true):0<(ByteArray.mk s.toArray).size:=by
 rw [zaq]
 exact List.length_pos_iff.2 (of_decide_eq_true hp).1
theorem zhp (s:List UInt8) (w:World) (hd:DigL s) (hl:s.length≤400):Calls Tryz.prog 201 #[.string ⟨s.toArray⟩] w (RetIE (numP s:Int) (if pOk s=true then 0 else 4) w):=by
 have hA:=(zgw s).2 hd
 have hl':(ByteArray.mk s.toArray).size≤400:=by rw [zaq];exact hl
 obtain ⟨p1,p2⟩:=zcT [45] s (zox hd)
 have HC:∀ W,Calls Tryz.prog 140 #[.string ⟨s.toArray⟩,.string ⟨#[45]⟩] W (fun e w'=>e = .returned (.tuple #[.string ⟨s.toArray⟩,.bool false])∧Below W.heap.size W w'):=fun W=>(Tryz.strings_CutPrefix ⟨s.toArray⟩ ⟨#[45]⟩ W).mono (fun e w' ⟨h1,h2⟩=>⟨h1.trans (by
  show Ending.returned (.tuple #[.string ⟨(Lib.trimPrefix s [45]).toArray⟩,.bool (Lib.hasPrefix s [45])])=_
  rw [p1,p2]),by rw [h2];exact Below.refl _ _⟩)
 cases hp:pOk s with
 | false =>
  rw [zlm hp,if_neg (by decide)]
  exact zmq ⟨s.toArray⟩ ⟨s.toArray⟩ false w ((zhY s).trans hp) HC
 | true =>
  have h0:=zmg hp
  rw [if_pos rfl,← zl9 hp]
  by_cases h48:((ByteArray.mk s.toArray)[0]'h0).toNat=48
  ·exact zmm ⟨s.toArray⟩ ⟨s.toArray⟩ false w h0 h48 (zmY hp h0 h48) hA hl' HC
  ·exact znv ⟨s.toArray⟩ ⟨s.toArray⟩ false w h0 h48 hA hl' HC
theorem zkD (s:List UInt8) (w:World) (hd:DigL s) (hl:s.length≤400):Calls Tryz.prog 202 #[.string ⟨s.toArray⟩] w (RetIE (numP s:Int) (if pOk s=true then 0 else 4) w):=by
 have hA:=(zgw s).2 hd
 have hl':(ByteArray.mk s.toArray).size≤400:=by rw [zaq];exact hl
 have h45:∀ h0:0<(ByteArray.mk s.toArray).size,¬ ((ByteArray.mk s.toArray)[0]'h0).toNat=45:=fun h0 h=>by
  have:=(hA 0 h0).1
  omega
 cases hp:pOk s with
 | false =>
  rw [zlm hp,if_neg (by decide)]
  by_cases h0:0<(ByteArray.mk s.toArray).size
  ·have hs:=(zhY s).trans hp
   unfold shapeB at hs
   rw [dif_pos h0] at hs
   by_cases h48:((ByteArray.mk s.toArray)[0]'h0).toNat=48
   ·refine ze4 ⟨s.toArray⟩ w h0 (h45 h0) hA (by omega) ?_ h48
    by_cases h1:1<(ByteArray.mk s.toArray).size
    ·exact h1
    ·simp [h48,h1] at hs
   ·simp [h48] at hs
  ·exact zfn ⟨s.toArray⟩ w (by omega) hA
 | true =>
  have h0:=zmg hp
  rw [if_pos rfl,← zl9 hp]
  by_cases h48:((ByteArray.mk s.toArray)[0]'h0).toNat=48
  ·exact zkB ⟨s.toArray⟩ w h0 (h45 h0) h48 (zoe _ h0 (by have:=zmY hp h0 h48;omega) h48) hA hl'
  ·exact zkI ⟨s.toArray⟩ w h0 (h45 h0) h48 hA hl'
def intE (s:List UInt8) (e:Int):Int:=if pOk s=true∧s.length≤60 then e else 4
theorem zdI (b:Nat) (l:List UInt8) (e:Int) (w:World) (hB:Hc w b 95 (rdC l e)) (hl:l.length≤400):Calls Tryz.prog 197 #[.pointer (some ⟨b,0,none⟩)] w (RetRd b (vI (numP (dgs l):Int)) (dgr l) (intE (dgs l) e) w):=by
 have hlen:=zcO l
 have D:=fun b w hB=>zez b l e w hB (by omega)
 have P:=fun w=>zhp (dgs l) w (zcJ l) (by omega)
 have F:=fun b w hB=>frfail4 b (dgr l) e w hB
 have hs:((ByteArray.mk (dgs l).toArray).size:Int)=((dgs l).length:Int):=by rw [zaq]
 unfold intE
 generalize dgs l=s at *
 generalize dgr l=r at *
 generalize (numP s:Int)=n at *
 cases hp:pOk s with
 | false =>
  rw [hp] at P
  simp only [Bool.false_eq_true,false_and,if_false] at P ⊢
  exact zbd kr Tryz.func197 rfl b 95 (rdC l e) (rdC r 4) (hB) [] nle [] [.t,.t,.t,.t,.t] [cU 0 95 (rdC l e) (rdC r e) (fun b w hc hB=>D b w hB),cV (P),cU 0 95 (rdC r e) (rdC r 4) (fun b w hc hB=>F b w hB)]
 | true =>
  rw [hp] at P
  simp only [true_and,if_true] at P ⊢
  by_cases h60:s.length≤60
  ·have h:decide ((60:Int)<((ByteArray.mk s.toArray).size:Int))=false:=decide_eq_false (by omega)
   rw [if_pos h60]
   exact zbd kr Tryz.func197 rfl b 95 (rdC l e) (rdC r e) (hB) [] nle [] [.f,.f,.f,.f,(.p _ false h)] [cU 0 95 (rdC l e) (rdC r e) (fun b w hc hB=>D b w hB),cV (P)]
  ·have h:decide ((60:Int)<((ByteArray.mk s.toArray).size:Int))=true:=decide_eq_true (by omega)
   rw [if_neg h60]
   exact zbd kr Tryz.func197 rfl b 95 (rdC l e) (rdC r 4) (hB) [] nle [] [.f,.f,.f,.f,(.p _ true h)] [cU 0 95 (rdC l e) (rdC r e) (fun b w hc hB=>D b w hB),cV (P),cU 0 95 (rdC r e) (rdC r 4) (fun b w hc hB=>F b w hB)]
theorem zcF (b:Nat) (l:List UInt8) (e:Int) (w:World) (hB:Hc w b 95 (rdC (45 :: l) e)):Calls Tryz.prog 112 #[.pointer (some ⟨b,0,none⟩),.string ⟨#[45]⟩] w (RetRd b (.bool true) l e w):=by
 have h:=zav b (45 :: l) ⟨#[45]⟩ e w hB
 obtain ⟨h1,h2⟩:=zb8 [45] l
 rw [show (45 :: l:List UInt8) = [45]++l from rfl] at h
 rw [show (ByteArray.mk #[45]).data.toList = [45] from rfl,h1,h2] at h
 exact h
theorem zbO (b:Nat) (l:List UInt8) (e:Int) (w:World) (hB:Hc w b 95 (rdC l e)) (hn:∀ r,l≠45 :: r):Calls Tryz.prog 112 #[.pointer (some ⟨b,0,none⟩),.string ⟨#[45]⟩] w (RetRd b (.bool false) l e w):=by
 have h:=zav b l ⟨#[45]⟩ e w hB
 obtain ⟨h1,h2⟩:=zcT [45] l hn
 rw [show (ByteArray.mk #[45]).data.toList = [45] from rfl,h1,h2] at h
 exact h
theorem zdY (b:Nat) (l:List UInt8) (e:Int) (w:World) (hB:Hc w b 95 (rdC (47 :: l) e)):Calls Tryz.prog 112 #[.pointer (some ⟨b,0,none⟩),.string ⟨#[47]⟩] w (RetRd b (.bool true) l e w):=by
 have h:=zav b (47 :: l) ⟨#[47]⟩ e w hB
 obtain ⟨h1,h2⟩:=zb8 [47] l
 rw [show (47 :: l:List UInt8) = [47]++l from rfl] at h
 rw [show (ByteArray.mk #[47]).data.toList = [47] from rfl,h1,h2] at h
 exact h
theorem zbR (b:Nat) (l:List UInt8) (e:Int) (w:World) (hB:Hc w b 95 (rdC l e)) (hn:∀ r,l≠47 :: r):Calls Tryz.prog 112 #[.pointer (some ⟨b,0,none⟩),.string ⟨#[47]⟩] w (RetRd b (.bool false) l e w):=by
 have h:=zav b l ⟨#[47]⟩ e w hB
 obtain ⟨h1,h2⟩:=zcT [47] l hn
 rw [show (ByteArray.mk #[47]).data.toList = [47] from rfl,h1,h2] at h
 exact h
theorem zb4 (b:Nat) (l:List UInt8) (e:Int) (w:World) (hB:Hc w b 95 (rdC (46 :: l) e)):Calls Tryz.prog 112 #[.pointer (some ⟨b,0,none⟩),.string ⟨#[46]⟩] w (RetRd b (.bool true) l e w):=by
 have h:=zav b (46 :: l) ⟨#[46]⟩ e w hB
 obtain ⟨h1,h2⟩:=zb8 [46] l
 rw [show (46 :: l:List UInt8) = [46]++l from rfl] at h
 rw [show (ByteArray.mk #[46]).data.toList = [46] from rfl,h1,h2] at h
 exact h
theorem zhJ (b:Nat) (l:List UInt8) (e:Int) (w:World) (hB:Hc w b 95 (rdC l e)) (hn:∀ r,l≠46 :: r):Calls Tryz.prog 112 #[.pointer (some ⟨b,0,none⟩),.string ⟨#[46]⟩] w (RetRd b (.bool false) l e w):=by
 have h:=zav b l ⟨#[46]⟩ e w hB
 obtain ⟨h1,h2⟩:=zcT [46] l hn
 rw [show (ByteArray.mk #[46]).data.toList = [46] from rfl,h1,h2] at h
 exact h
theorem zd7 (b:Nat) (l:List UInt8) (e:Int) (w:World) (hB:Hc w b 95 (rdC (43 :: l) e)):Calls Tryz.prog 112 #[.pointer (some ⟨b,0,none⟩),.string ⟨#[43]⟩] w (RetRd b (.bool true) l e w):=by
 have h:=zav b (43 :: l) ⟨#[43]⟩ e w hB
 obtain ⟨h1,h2⟩:=zb8 [43] l
 rw [show (43 :: l:List UInt8) = [43]++l from rfl] at h
 rw [show (ByteArray.mk #[43]).data.toList = [43] from rfl,h1,h2] at h
 exact h
theorem zey (b:Nat) (l:List UInt8) (e:Int) (w:World) (hB:Hc w b 95 (rdC l e)) (hn:∀ r,l≠43 :: r):Calls Tryz.prog 112 #[.pointer (some ⟨b,0,none⟩),.string ⟨#[43]⟩] w (RetRd b (.bool false) l e w):=by
 have h:=zav b l ⟨#[43]⟩ e w hB
 obtain ⟨h1,h2⟩:=zcT [43] l hn
 rw [show (ByteArray.mk #[43]).data.toList = [43] from rfl,h1,h2] at h
 exact h
theorem zgP (b:Nat) (l:List UInt8) (e:Int) (w:World) (hB:Hc w b 95 (rdC (114 :: 50 :: l) e)):Calls Tryz.prog 112 #[.pointer (some ⟨b,0,none⟩),.string ⟨#[114,50]⟩] w (RetRd b (.bool true) l e w):=by
 have h:=zav b (114 :: 50 :: l) ⟨#[114,50]⟩ e w hB
 obtain ⟨h1,h2⟩:=zb8 [114,50] l
 rw [show (114 :: 50 :: l:List UInt8) = [114,50]++l from rfl] at h
 rw [show (ByteArray.mk #[114,50]).data.toList = [114,50] from rfl,h1,h2] at h
 exact h
theorem zdd (b:Nat) (l:List UInt8) (e:Int) (w:World) (hB:Hc w b 95 (rdC l e)) (hn:∀ r,l≠114 :: 50 :: r):Calls Tryz.prog 112 #[.pointer (some ⟨b,0,none⟩),.string ⟨#[114,50]⟩] w (RetRd b (.bool false) l e w):=by
 have h:=zav b l ⟨#[114,50]⟩ e w hB
 obtain ⟨h1,h2⟩:=zcT [114,50] l hn
 rw [show (ByteArray.mk #[114,50]).data.toList = [114,50] from rfl,h1,h2] at h
 exact h
theorem zgG (b:Nat) (l:List UInt8) (e:Int) (w:World) (hB:Hc w b 95 (rdC (114 :: 51 :: l) e)):Calls Tryz.prog 112 #[.pointer (some ⟨b,0,none⟩),.string ⟨#[114,51]⟩] w (RetRd b (.bool true) l e w):=by
 have h:=zav b (114 :: 51 :: l) ⟨#[114,51]⟩ e w hB
 obtain ⟨h1,h2⟩:=zb8 [114,51] l
 rw [show (114 :: 51 :: l:List UInt8) = [114,51]++l from rfl] at h
 rw [show (ByteArray.mk #[114,51]).data.toList = [114,51] from rfl,h1,h2] at h
 exact h
theorem zew (b:Nat) (l:List UInt8) (e:Int) (w:World) (hB:Hc w b 95 (rdC l e)) (hn:∀ r,l≠114 :: 51 :: r):Calls Tryz.prog 112 #[.pointer (some ⟨b,0,none⟩),.string ⟨#[114,51]⟩] w (RetRd b (.bool false) l e w):=by
 have h:=zav b l ⟨#[114,51]⟩ e w hB
 obtain ⟨h1,h2⟩:=zcT [114,51] l hn
 rw [show (ByteArray.mk #[114,51]).data.toList = [114,51] from rfl,h1,h2] at h
 exact h
theorem zgm (b:Nat) (l:List UInt8) (e:Int) (w:World) (hB:Hc w b 95 (rdC (114 :: 54 :: l) e)):Calls Tryz.prog 112 #[.pointer (some ⟨b,0,none⟩),.string ⟨#[114,54]⟩] w (RetRd b (.bool true) l e w):=by
 have h:=zav b (114 :: 54 :: l) ⟨#[114,54]⟩ e w hB
 obtain ⟨h1,h2⟩:=zb8 [114,54] l
 rw [show (114 :: 54 :: l:List UInt8) = [114,54]++l from rfl] at h
 rw [show (ByteArray.mk #[114,54]).data.toList = [114,54] from rfl,h1,h2] at h
 exact h
theorem zgV (b:Nat) (l:List UInt8) (e:Int) (w:World) (hB:Hc w b 95 (rdC l e)) (hn:∀ r,l≠114 :: 54 :: r):Calls Tryz.prog 112 #[.pointer (some ⟨b,0,none⟩),.string ⟨#[114,54]⟩] w (RetRd b (.bool false) l e w):=by
 have h:=zav b l ⟨#[114,54]⟩ e w hB
 obtain ⟨h1,h2⟩:=zcT [114,54] l hn
 rw [show (ByteArray.mk #[114,54]).data.toList = [114,54] from rfl,h1,h2] at h
 exact h
def rootS (l:List UInt8):Option (Int × List UInt8) :=
 match l with
 | a :: b :: r=>if a=114 then (if b=50 then some (2,r) else if b=51 then some (3,r) else if b=54 then some (6,r) else none) else none
 | _=>none
theorem zcb (l:List UInt8):(∃ r,l=114 :: 50 :: r∧rootS l=some (2,r))∨(∃ r,l=114 :: 51 :: r∧rootS l=some (3,r))∨(∃ r,l=114 :: 54 :: r∧rootS l=some (6,r))∨(rootS l=none∧(∀ r,l≠114 :: 50 :: r)∧(∀ r,l≠114 :: 51 :: r)∧(∀ r,l≠114 :: 54 :: r)):=by
 match l with
 | []=>exact .inr (.inr (.inr ⟨rfl,fun _ h=>(by cases h),fun _ h=>(by cases h),fun _ h=>(by cases h)⟩))
 | [a]=>exact .inr (.inr (.inr ⟨rfl,fun _ h=>(by cases h),fun _ h=>(by cases h),fun _ h=>(by cases h)⟩))
 | a :: b :: r =>
  by_cases ha:a=114
  ·subst ha
   by_cases h2:b=50
   ·subst h2;exact .inl ⟨r,rfl,rfl⟩
   ·by_cases h3:b=51
    ·subst h3;exact .inr (.inl ⟨r,rfl,rfl⟩)
    ·by_cases h6:b=54
     ·subst h6;exact .inr (.inr (.inl ⟨r,rfl,rfl⟩))
     ·refine .inr (.inr (.inr ⟨?_,fun _ h=>?_,fun _ h=>?_,fun _ h=>?_⟩))
      ·unfold rootS
       simp only [if_true]
       rw [if_neg h2,if_neg h3,if_neg h6]
      ·injection h with _ h;injection h with h _;exact h2 h
      ·injection h with _ h;injection h with h _;exact h3 h
      ·injection h with _ h;injection h with h _;exact h6 h
  ·refine .inr (.inr (.inr ⟨?_,fun _ h=>?_,fun _ h=>?_,fun _ h=>?_⟩))
   ·unfold rootS
    simp only []
    rw [if_neg ha]
   ·injection h with h _;exact ha h
   ·injection h with h _;exact ha h
   ·injection h with h _;exact ha h
theorem zpd (b:Nat) (r:List UInt8) (e:Int) (w:World) (hB:Hc w b 95 (rdC (114 :: 50 :: r) e)):Calls Tryz.prog 164 #[.pointer (some ⟨b,0,none⟩)] w (RetRd b (.tuple #[vN (rootN 2),.bool true]) r e w):=by
 have Y2:=fun b w hB=>zgP b r e w hB
 have R:=fun w=>zc4 2 w
 generalize (114 :: 50 :: r)=l at *
 generalize rootN 2=n2 at *
 exact zbd kr Tryz.func164 rfl b 95 (rdC l e) (rdC r e) (hB) [] nle [] [.t,.t] [cU 0 95 (rdC l e) (rdC r e) (fun b w hc hB=>Y2 b w hB),cV (R)]
theorem zoz (b:Nat) (r:List UInt8) (e:Int) (w:World) (hB:Hc w b 95 (rdC (114 :: 51 :: r) e)):Calls Tryz.prog 164 #[.pointer (some ⟨b,0,none⟩)] w (RetRd b (.tuple #[vN (rootN 3),.bool true]) r e w):=by
 have N2:=fun b w hB=>zdd b (114 :: 51 :: r) e w hB (fun _ h=>by injection h with _ h;injection h with h _;exact absurd h (by decide))
 have Y3:=fun b w hB=>zgG b r e w hB
 have R:=fun w=>zc4 3 w
 generalize (114 :: 51 :: r)=l at *
 generalize rootN 3=n2 at *
 exact zbd kr Tryz.func164 rfl b 95 (rdC l e) (rdC r e) (hB) [] nle [] [.t,.f,.t,.t] [cU 0 95 (rdC l e) (rdC l e) (fun b w hc hB=>N2 b w hB),cU 0 95 (rdC l e) (rdC r e) (fun b w hc hB=>Y3 b w hB),cV (R)]
theorem znM (b:Nat) (r:List UInt8) (e:Int) (w:World) (hB:Hc w b 95 (rdC (114 :: 54 :: r) e)):Calls Tryz.prog 164 #[.pointer (some ⟨b,0,none⟩)] w (RetRd b (.tuple #[vN (rootN 6),.bool true]) r e w):=by
 have N2:=fun b w hB=>zdd b (114 :: 54 :: r) e w hB (fun _ h=>by injection h with _ h;injection h with h _;exact absurd h (by decide))
 have N3:=fun b w hB=>zew b (114 :: 54 :: r) e w hB (fun _ h=>by injection h with _ h;injection h with h _;exact absurd h (by decide))
 have Y6:=fun b w hB=>zgm b r e w hB
 have R:=fun w=>zc4 6 w
 generalize (114 :: 54 :: r)=l at *
 generalize rootN 6=n2 at *
 exact zbd kr Tryz.func164 rfl b 95 (rdC l e) (rdC r e) (hB) [] nle [] [.t,.f,.t,.f,.t,.t] [cU 0 95 (rdC l e) (rdC l e) (fun b w hc hB=>N2 b w hB),cU 0 95 (rdC l e) (rdC l e) (fun b w hc hB=>N3 b w hB),cU 0 95 (rdC l e) (rdC r e) (fun b w hc hB=>Y6 b w hB),cV (R)]
theorem znI (b:Nat) (l:List UInt8) (e:Int) (w:World) (hB:Hc w b 95 (rdC l e)) (h2:∀ r,l≠114 :: 50 :: r) (h3:∀ r,l≠114 :: 51 :: r) (h6:∀ r,l≠114 :: 54 :: r):Calls Tryz.prog 164 #[.pointer (some ⟨b,0,none⟩)] w (RetRd b (.tuple #[vN (intN 1),.bool false]) l e w):=by
 have N2:=fun b w hB=>zdd b l e w hB h2
 have N3:=fun b w hB=>zew b l e w hB h3
 have N6:=fun b w hB=>zgV b l e w hB h6
 have O:=fun w=>zcq 1 w (by omega) (by omega)
 generalize intN 1=n1 at *
 exact zbd kr Tryz.func164 rfl b 95 (rdC l e) (rdC l e) (hB) [] nle [] [.t,.f,.t,.f,.t,.f,.f] [cU 0 95 (rdC l e) (rdC l e) (fun b w hc hB=>N2 b w hB),cU 0 95 (rdC l e) (rdC l e) (fun b w hc hB=>N3 b w hB),cU 0 95 (rdC l e) (rdC l e) (fun b w hc hB=>N6 b w hB),cV (O)]
theorem zfV (b:Nat) (l:List UInt8) (e:Int) (w:World) (hB:Hc w b 95 (rdC l e)):Calls Tryz.prog 164 #[.pointer (some ⟨b,0,none⟩)] w (match rootS l with
  | some (k,r)=>RetRd b (.tuple #[vN (rootN k),.bool true]) r e w
  | none=>RetRd b (.tuple #[vN (intN 1),.bool false]) l e w):=by
 rcases zcb l with ⟨r,rfl,h⟩ | ⟨r,rfl,h⟩ | ⟨r,rfl,h⟩ | ⟨h,h2,h3,h6⟩ <;> rw [h]
 ·exact zpd b r e w hB
 ·exact zoz b r e w hB
 ·exact znM b r e w hB
 ·exact znI b l e w hB h2 h3 h6

theorem zfl (a b:List UInt8):((ByteArray.mk a.toArray).toList == (ByteArray.mk b.toArray).toList)=(a == b):=by
 rw [ByteArray.toList_eq,ByteArray.toList_eq]
theorem zaJ (a:List UInt8):((ByteArray.mk a.toArray).toList == (ByteArray.mk #[]).toList)=a.isEmpty:=by
 rw [show (ByteArray.mk #[])=(ByteArray.mk ([]:List UInt8).toArray) from rfl,zfl]
 cases a <;> rfl
theorem zqg (s:List UInt8) (hd:DigL s):numL s<10 ^ s.length:=by
 have h:=zeI ⟨s.toArray⟩ s.length (fun j hj=>((zgw s).2 hd).dig j)
 rw [← zaq s,zhu,zaq] at h
 exact h
theorem zfq (s:List UInt8) (hd:DigL s):Bd s.length (numL s:Int):=by
 have h:=zqg s hd
 have h2:10 ^ s.length≤256 ^ s.length:=Nat.pow_le_pow_left (by decide) _
 unfold Bd
 rw [Int.natAbs_natCast]
 omega
theorem zfc (s:List UInt8) (hd:DigL s):Bd s.length (numP s:Int):=by
 unfold numP
 split
 ·exact zfq s hd
 ·unfold Bd
  simp only [Int.natCast_zero,Int.natAbs_zero]
  exact Nat.pow_pos (by decide)
theorem ziX (k:Nat):Bd (k+1) ((10:Int) ^ k):=by
 unfold Bd
 rw [Int.natAbs_pow,Nat.pow_succ]
 have h2:10 ^ k≤256 ^ k:=Nat.pow_le_pow_left (by decide) _
 have:0<256 ^ k:=Nat.pow_pos (by decide)
 show 10 ^ k<_
 omega
def noZ (t:List UInt8):List UInt8:=t.dropWhile (· == 48)
theorem zqZ {t:List UInt8} (hd:DigL t):DigL (noZ t)∧(noZ t).length≤t.length∧numL (noZ t)=numL t∧(noZ t).head?≠some 48:=by
 unfold noZ
 induction t with
 | nil=>exact ⟨hd,Nat.le_refl _,rfl,by simp⟩
 | cons c t ih =>
  obtain ⟨h1,h2,h3,h4⟩:=ih (fun x hx=>hd x (List.mem_cons_of_mem _ hx))
  rw [List.dropWhile_cons]
  by_cases hc:c=48
  ·subst hc
   rw [if_pos (by decide)]
   refine ⟨h1,by simp;omega,?_,h4⟩
   rw [h3]
   rfl
  ·rw [if_neg (by simpa using hc)]
   exact ⟨hd,Nat.le_refl _,rfl,by simpa using hc⟩
def noZ' (t:List UInt8):List UInt8:=if noZ t = [] then [48] else noZ t
theorem zpq {t:List UInt8} (hd:DigL t):DigL (noZ' t)∧(noZ' t).length≤t.length+1∧numP (noZ' t)=numL t∧pOk (noZ' t)=true:=by
 obtain ⟨h1,h2,h3,h4⟩:=zqZ hd
 unfold noZ'
 by_cases h:noZ t = []
 ·rw [if_pos h]
  rw [h] at h3
  refine ⟨fun c hc=>by rw [List.mem_singleton] at hc;subst hc;decide,by simp,?_,by decide⟩
  rw [← h3]
  decide
 ·rw [if_neg h]
  have hp:pOk (noZ t)=true:=decide_eq_true ⟨h,fun e=>absurd e h4⟩
  refine ⟨h1,by omega,?_,hp⟩
  unfold numP
  rw [if_pos hp,h3]
def valD (n m:Int):Nm:=low ⟨n,0,0,0,m⟩
def valN (l:List UInt8) (e:Int):Nm × List UInt8 × Int :=
 match dgr l with
 | c :: r =>
  if c=47 then
   (if numP (dgs r)=0 then (intN 0,dgr r,flD (intE (dgs r) (intE (dgs l) e))) else (valD (numP (dgs l)) (numP (dgs r)),dgr r,intE (dgs r) (intE (dgs l) e)))
  else if c=46 then
   (if dgs r = []∨20<(dgs r).length then (intN 0,dgr r,4) else (valD ((numP (dgs l):Int) * 10 ^ (dgs r).length+(numL (dgs r):Int)) (10 ^ (dgs r).length),dgr r,intE (dgs l) e))
  else (valD (numP (dgs l)) 1,c :: r,intE (dgs l) e)
 | []=>(valD (numP (dgs l)) 1,[],intE (dgs l) e)
theorem mk1 {n d:Int} (w:World) (hn:Bd 80000000 n) (hd:Bd 80000000 d) (h0:d≠0):Calls Tryz.prog 58 #[.agg #[.bool (sg n),.string (mg n),.bool false,.string ⟨#[]⟩,.bool false,.string ⟨#[]⟩,.bool false,.string ⟨#[]⟩],vI d] w (RetV (.tuple #[vN (valD n d),.int .i64 0]) w):=by
 have hz:Bd 80000000 0:=(show Bd 1 0 by unfold Bd;decide).mono (by omega)
 have h:=znG ⟨n,0,0,0,d⟩ w ⟨hn,hz,hz,hz,hd⟩ h0
 unfold vA4 at h
 unfold valD
 simpa only [sg0,mg0] using h
theorem mk0 {n:Int} (w:World):Calls Tryz.prog 58 #[.agg #[.bool (sg n),.string (mg n),.bool false,.string ⟨#[]⟩,.bool false,.string ⟨#[]⟩,.bool false,.string ⟨#[]⟩],vI 0] w (RetV (.tuple #[vZ,.int .i64 10]) w):=by
 have h:=zmU n 0 0 0 w
 unfold vA4 at h
 simpa only [sg0,mg0] using h
theorem zd8 (b:Nat) (l l2:List UInt8) (e e1 n:Int) (v:Nm) (w:World) (hB:Hc w b 95 (rdC l e))
  (I1:∀ b w,Hc w b 95 (rdC l e)→Calls Tryz.prog 197 #[.pointer (some ⟨b,0,none⟩)] w (RetRd b (vI n) l2 e1 w))
  (hn1:∀ r,l2≠47 :: r) (hn2:∀ r,l2≠46 :: r)
  (M:∀ w,Calls Tryz.prog 58 #[.agg #[.bool (sg n),.string (mg n),.bool false,.string ⟨#[]⟩,.bool false,.string ⟨#[]⟩,.bool false,.string ⟨#[]⟩],vI 1] w (RetV (.tuple #[vN v,.int .i64 0]) w)) :
  Calls Tryz.prog 165 #[.pointer (some ⟨b,0,none⟩)] w (RetRd b (vN v) l2 e1 w):=by
 have O:=fun w=>zbe 1 w (by omega) (by omega)
 have Q1:=fun b w hB=>zbR b l2 e1 w hB hn1
 have Q2:=fun b w hB=>zhJ b l2 e1 w hB hn2
 exact zbd kr Tryz.func165 rfl b 95 (rdC l e) (rdC l2 e1) (hB) [] nle [] [.f,.f,.f] [cU 0 95 (rdC l e) (rdC l2 e1) (fun b w hc hB=>I1 b w hB),cV (O),cU 0 95 (rdC l2 e1) (rdC l2 e1) (fun b w hc hB=>Q1 b w hB),cU 0 95 (rdC l2 e1) (rdC l2 e1) (fun b w hc hB=>Q2 b w hB),cV (M)]
theorem zgu (b:Nat) (l r r2:List UInt8) (e e1 e2 n d:Int) (v:Nm) (w:World) (hB:Hc w b 95 (rdC l e))
  (I1:∀ b w,Hc w b 95 (rdC l e)→Calls Tryz.prog 197 #[.pointer (some ⟨b,0,none⟩)] w (RetRd b (vI n) (47 :: r) e1 w))
  (I2:∀ b w,Hc w b 95 (rdC r e1)→Calls Tryz.prog 197 #[.pointer (some ⟨b,0,none⟩)] w (RetRd b (vI d) r2 e2 w))
  (M:∀ w,Calls Tryz.prog 58 #[.agg #[.bool (sg n),.string (mg n),.bool false,.string ⟨#[]⟩,.bool false,.string ⟨#[]⟩,.bool false,.string ⟨#[]⟩],vI d] w (RetV (.tuple #[vN v,.int .i64 0]) w)) :
  Calls Tryz.prog 165 #[.pointer (some ⟨b,0,none⟩)] w (RetRd b (vN v) r2 e2 w):=by
 have O:=fun w=>zbe 1 w (by omega) (by omega)
 have Q1:=fun b w hB=>zdY b r e1 w hB
 generalize 47 :: r=l2 at *
 exact zbd kr Tryz.func165 rfl b 95 (rdC l e) (rdC r2 e2) (hB) [] nle [] [.t,.f] [cU 0 95 (rdC l e) (rdC l2 e1) (fun b w hc hB=>I1 b w hB),cV (O),cU 0 95 (rdC l2 e1) (rdC r e1) (fun b w hc hB=>Q1 b w hB),cU 0 95 (rdC r e1) (rdC r2 e2) (fun b w hc hB=>I2 b w hB),cV (M)]
theorem zfG (b:Nat) (l r r2:List UInt8) (e e1 e2 n:Int) (w:World) (hB:Hc w b 95 (rdC l e))
  (I1:∀ b w,Hc w b 95 (rdC l e)→Calls Tryz.prog 197 #[.pointer (some ⟨b,0,none⟩)] w (RetRd b (vI n) (47 :: r) e1 w))
  (I2:∀ b w,Hc w b 95 (rdC r e1)→Calls Tryz.prog 197 #[.pointer (some ⟨b,0,none⟩)] w (RetRd b (vI 0) r2 e2 w)) :
  Calls Tryz.prog 165 #[.pointer (some ⟨b,0,none⟩)] w (RetRd b (vN (intN 0)) r2 (flD e2) w):=by
 have O:=fun w=>zbe 1 w (by omega) (by omega)
 have Q1:=fun b w hB=>zdY b r e1 w hB
 have M:=fun w=>mk0 (n:=n) w
 have F:=fun b w hB=>frfail10 b r2 e2 w hB
 have O0:=fun w=>zcq 0 w (by omega) (by omega)
 generalize 47 :: r=l2 at *
 generalize intN 0=n0 at *
 generalize flD e2=e3 at *
 exact zbd kr Tryz.func165 rfl b 95 (rdC l e) (rdC r2 e3) (hB) [] nle [] [.t,.t] [cU 0 95 (rdC l e) (rdC l2 e1) (fun b w hc hB=>I1 b w hB),cV (O),cU 0 95 (rdC l2 e1) (rdC r e1) (fun b w hc hB=>Q1 b w hB),cU 0 95 (rdC r e1) (rdC r2 e2) (fun b w hc hB=>I2 b w hB),cV (M),cU 0 95 (rdC r2 e2) (rdC r2 e3) (fun b w hc hB=>F b w hB),cV (O0)]
theorem zhm (b:Nat) (l r r2 t:List UInt8) (e e1 n:Int) (w:World) (hB:Hc w b 95 (rdC l e))
  (I1:∀ b w,Hc w b 95 (rdC l e)→Calls Tryz.prog 197 #[.pointer (some ⟨b,0,none⟩)] w (RetRd b (vI n) (46 :: r) e1 w))
  (D:∀ b w,Hc w b 95 (rdC r e1)→Calls Tryz.prog 198 #[.pointer (some ⟨b,0,none⟩)] w (RetRd b (.string ⟨t.toArray⟩) r2 e1 w)) (ht:t.isEmpty=true) :
  Calls Tryz.prog 165 #[.pointer (some ⟨b,0,none⟩)] w (RetRd b (vN (intN 0)) r2 4 w):=by
 have O:=fun w=>zbe 1 w (by omega) (by omega)
 have Q1:=fun b w hB=>zbR b (46 :: r) e1 w hB (fun _ h=>by injection h with h _;exact absurd h (by decide))
 have Q2:=fun b w hB=>zb4 b r e1 w hB
 have F:=fun b w hB=>frfail4 b r2 e1 w hB
 have O0:=fun w=>zcq 0 w (by omega) (by omega)
 have ht2:=zaJ t
 rw [ht] at ht2
 generalize 46 :: r=l2 at *
 generalize intN 0=n0 at *
 exact zbd kr Tryz.func165 rfl b 95 (rdC l e) (rdC r2 4) (hB) [] nle [(7,1)] [.f,.t,.t,.t,.t,.t,.t] [cU 0 95 (rdC l e) (rdC l2 e1) (fun b w hc hB=>I1 b w hB),cV (O),cU 0 95 (rdC l2 e1) (rdC l2 e1) (fun b w hc hB=>Q1 b w hB),cU 0 95 (rdC l2 e1) (rdC r e1) (fun b w hc hB=>Q2 b w hB),cU 0 95 (rdC r e1) (rdC r2 e1) (fun b w hc hB=>D b w hB),lP (.bool ((ByteArray.mk t.toArray).toList == (ByteArray.mk #[]).toList)) (.bool true) (congrArg Value.bool ht2),cU 0 95 (rdC r2 e1) (rdC r2 4) (fun b w hc hB=>F b w hB),cV (O0)]
theorem zhv (b:Nat) (l r r2 t:List UInt8) (e e1 n:Int) (w:World) (hB:Hc w b 95 (rdC l e))
  (I1:∀ b w,Hc w b 95 (rdC l e)→Calls Tryz.prog 197 #[.pointer (some ⟨b,0,none⟩)] w (RetRd b (vI n) (46 :: r) e1 w))
  (D:∀ b w,Hc w b 95 (rdC r e1)→Calls Tryz.prog 198 #[.pointer (some ⟨b,0,none⟩)] w (RetRd b (.string ⟨t.toArray⟩) r2 e1 w)) (ht:t.isEmpty=false) (h20:decide ((20:Int)<((ByteArray.mk t.toArray).size:Int))=true) :
  Calls Tryz.prog 165 #[.pointer (some ⟨b,0,none⟩)] w (RetRd b (vN (intN 0)) r2 4 w):=by
 have O:=fun w=>zbe 1 w (by omega) (by omega)
 have Q1:=fun b w hB=>zbR b (46 :: r) e1 w hB (fun _ h=>by injection h with h _;exact absurd h (by decide))
 have Q2:=fun b w hB=>zb4 b r e1 w hB
 have F:=fun b w hB=>frfail4 b r2 e1 w hB
 have O0:=fun w=>zcq 0 w (by omega) (by omega)
 have ht2:=zaJ t
 rw [ht] at ht2
 generalize 46 :: r=l2 at *
 generalize intN 0=n0 at *
 exact zbd kr Tryz.func165 rfl b 95 (rdC l e) (rdC r2 4) (hB) [] nle [(7,1)] [.f,.t,.f,.f,.f,.f,(.p _ true h20)] [cU 0 95 (rdC l e) (rdC l2 e1) (fun b w hc hB=>I1 b w hB),cV (O),cU 0 95 (rdC l2 e1) (rdC l2 e1) (fun b w hc hB=>Q1 b w hB),cU 0 95 (rdC l2 e1) (rdC r e1) (fun b w hc hB=>Q2 b w hB),cU 0 95 (rdC r e1) (rdC r2 e1) (fun b w hc hB=>D b w hB),lP (.bool ((ByteArray.mk t.toArray).toList == (ByteArray.mk #[]).toList)) (.bool false) (congrArg Value.bool ht2),cU 0 95 (rdC r2 e1) (rdC r2 4) (fun b w hc hB=>F b w hB),cV (O0)]
theorem zg2 (b:Nat) (l r r2 t:List UInt8) (e e1 n q p m:Int) (v:Nm) (w:World) (hB:Hc w b 95 (rdC l e))
  (I1:∀ b w,Hc w b 95 (rdC l e)→Calls Tryz.prog 197 #[.pointer (some ⟨b,0,none⟩)] w (RetRd b (vI n) (46 :: r) e1 w))
  (D:∀ b w,Hc w b 95 (rdC r e1)→Calls Tryz.prog 198 #[.pointer (some ⟨b,0,none⟩)] w (RetRd b (.string ⟨t.toArray⟩) r2 e1 w))
  (ht:t.isEmpty=false) (h20:decide ((20:Int)<((ByteArray.mk t.toArray).size:Int))=false) (hz:(noZ t).isEmpty=true)
  (PW:∀ w,Calls Tryz.prog 199 #[vI 10,.int .i64 ((ByteArray.mk t.toArray).size:Nat)] w (RetIE q 0 w))
  (PZ:∀ w,Calls Tryz.prog 201 #[.string ⟨(noZ' t).toArray⟩] w (RetIE m 0 w))
  (ML:∀ w,Calls Tryz.prog 106 #[vI n,vI q] w (RetI p w)) {s:Int} (AD:∀ w,Calls Tryz.prog 105 #[vI p,vI m] w (RetI s w))
  (M:∀ w,Calls Tryz.prog 58 #[.agg #[.bool (sg s),.string (mg s),.bool false,.string ⟨#[]⟩,.bool false,.string ⟨#[]⟩,.bool false,.string ⟨#[]⟩],vI q] w (RetV (.tuple #[vN v,.int .i64 0]) w)) :
  Calls Tryz.prog 165 #[.pointer (some ⟨b,0,none⟩)] w (RetRd b (vN v) r2 e1 w):=by
 have O:=fun w=>zbe 1 w (by omega) (by omega)
 have O10:=fun w=>zbe 10 w (by omega) (by omega)
 have Q1:=fun b w hB=>zbR b (46 :: r) e1 w hB (fun _ h=>by injection h with h _;exact absurd h (by decide))
 have Q2:=fun b w hB=>zb4 b r e1 w hB
 have TL:∀ w,Calls Tryz.prog 200 #[.string ⟨t.toArray⟩,.string ⟨#[48]⟩] w (RetV (.string ⟨(noZ t).toArray⟩) w):=fun w=>(Tryz.strings_TrimLeft_one ⟨t.toArray⟩ 48 (by decide) w).mono (fun e w' ⟨h1,h2⟩=>⟨h1,by rw [h2];exact Below.refl _ _⟩)
 have ht2:=zaJ t
 rw [ht] at ht2
 have hz2:=zaJ (noZ t)
 rw [hz] at hz2
 have hz3:noZ t = []↔(noZ t).isEmpty=true:=by simp
 have PZ:∀ w,Calls Tryz.prog 201 #[.string ⟨(if (noZ t).isEmpty=true then [48] else noZ t).toArray⟩] w (RetIE m 0 w):=fun w=>by
  have h:=PZ w
  unfold noZ' at h
  simp only [hz3] at h
  exact h
 rw [hz] at PZ
 simp only [if_true,Bool.false_eq_true,if_false] at PZ
 clear hz3 hz
 generalize 46 :: r=l2 at *
 generalize noZ t=z at *
 exact zbd kr Tryz.func165 rfl b 95 (rdC l e) (rdC r2 e1) (hB) [] nle [(7,1),(12,1)] [.f,.t,.f,.f,.f,.f,(.p _ false h20),.t,.f] [cU 0 95 (rdC l e) (rdC l2 e1) (fun b w hc hB=>I1 b w hB),cV (O),cU 0 95 (rdC l2 e1) (rdC l2 e1) (fun b w hc hB=>Q1 b w hB),cU 0 95 (rdC l2 e1) (rdC r e1) (fun b w hc hB=>Q2 b w hB),cU 0 95 (rdC r e1) (rdC r2 e1) (fun b w hc hB=>D b w hB),lP (.bool ((ByteArray.mk t.toArray).toList == (ByteArray.mk #[]).toList)) (.bool false) (congrArg Value.bool ht2),cV (O10),cV (PW),cV (TL),lP (.bool ((ByteArray.mk z.toArray).toList == (ByteArray.mk #[]).toList)) (.bool true) (congrArg Value.bool hz2),cV (PZ),cV (ML),cV (AD),cV (M)]
theorem zhN (b:Nat) (l r r2 t:List UInt8) (e e1 n q p m:Int) (v:Nm) (w:World) (hB:Hc w b 95 (rdC l e))
  (I1:∀ b w,Hc w b 95 (rdC l e)→Calls Tryz.prog 197 #[.pointer (some ⟨b,0,none⟩)] w (RetRd b (vI n) (46 :: r) e1 w))
  (D:∀ b w,Hc w b 95 (rdC r e1)→Calls Tryz.prog 198 #[.pointer (some ⟨b,0,none⟩)] w (RetRd b (.string ⟨t.toArray⟩) r2 e1 w))
  (ht:t.isEmpty=false) (h20:decide ((20:Int)<((ByteArray.mk t.toArray).size:Int))=false) (hz:(noZ t).isEmpty=false)
  (PW:∀ w,Calls Tryz.prog 199 #[vI 10,.int .i64 ((ByteArray.mk t.toArray).size:Nat)] w (RetIE q 0 w))
  (PZ:∀ w,Calls Tryz.prog 201 #[.string ⟨(noZ' t).toArray⟩] w (RetIE m 0 w))
  (ML:∀ w,Calls Tryz.prog 106 #[vI n,vI q] w (RetI p w)) {s:Int} (AD:∀ w,Calls Tryz.prog 105 #[vI p,vI m] w (RetI s w))
  (M:∀ w,Calls Tryz.prog 58 #[.agg #[.bool (sg s),.string (mg s),.bool false,.string ⟨#[]⟩,.bool false,.string ⟨#[]⟩,.bool false,.string ⟨#[]⟩],vI q] w (RetV (.tuple #[vN v,.int .i64 0]) w)) :
  Calls Tryz.prog 165 #[.pointer (some ⟨b,0,none⟩)] w (RetRd b (vN v) r2 e1 w):=by
 have O:=fun w=>zbe 1 w (by omega) (by omega)
 have O10:=fun w=>zbe 10 w (by omega) (by omega)
 have Q1:=fun b w hB=>zbR b (46 :: r) e1 w hB (fun _ h=>by injection h with h _;exact absurd h (by decide))
 have Q2:=fun b w hB=>zb4 b r e1 w hB
 have TL:∀ w,Calls Tryz.prog 200 #[.string ⟨t.toArray⟩,.string ⟨#[48]⟩] w (RetV (.string ⟨(noZ t).toArray⟩) w):=fun w=>(Tryz.strings_TrimLeft_one ⟨t.toArray⟩ 48 (by decide) w).mono (fun e w' ⟨h1,h2⟩=>⟨h1,by rw [h2];exact Below.refl _ _⟩)
 have ht2:=zaJ t
 rw [ht] at ht2
 have hz2:=zaJ (noZ t)
 rw [hz] at hz2
 have hz3:noZ t = []↔(noZ t).isEmpty=true:=by simp
 have PZ:∀ w,Calls Tryz.prog 201 #[.string ⟨(if (noZ t).isEmpty=true then [48] else noZ t).toArray⟩] w (RetIE m 0 w):=fun w=>by
  have h:=PZ w
  unfold noZ' at h
  simp only [hz3] at h
  exact h
 rw [hz] at PZ
 simp only [if_true,Bool.false_eq_true,if_false] at PZ
 clear hz3 hz
 generalize 46 :: r=l2 at *
 generalize noZ t=z at *
 exact zbd kr Tryz.func165 rfl b 95 (rdC l e) (rdC r2 e1) (hB) [] nle [(7,1),(12,1)] [.f,.t,.f,.f,.f,.f,(.p _ false h20),.f,.f] [cU 0 95 (rdC l e) (rdC l2 e1) (fun b w hc hB=>I1 b w hB),cV (O),cU 0 95 (rdC l2 e1) (rdC l2 e1) (fun b w hc hB=>Q1 b w hB),cU 0 95 (rdC l2 e1) (rdC r e1) (fun b w hc hB=>Q2 b w hB),cU 0 95 (rdC r e1) (rdC r2 e1) (fun b w hc hB=>D b w hB),lP (.bool ((ByteArray.mk t.toArray).toList == (ByteArray.mk #[]).toList)) (.bool false) (congrArg Value.bool ht2),cV (O10),cV (PW),cV (TL),lP (.bool ((ByteArray.mk z.toArray).toList == (ByteArray.mk #[]).toList)) (.bool false) (congrArg Value.bool hz2),cV (PZ),cV (ML),cV (AD),cV (M)]
theorem ziG (b:Nat) (l:List UInt8) (e:Int) (w:World) (hB:Hc w b 95 (rdC l e)) (hl:l.length≤400) :
  Calls Tryz.prog 165 #[.pointer (some ⟨b,0,none⟩)] w (RetRd b (vN (valN l e).1) (valN l e).2.1 (valN l e).2.2 w):=by
 have hlen:=zcO l
 have bn:=zfc (dgs l) (zcJ l)
 have I1:=fun b w hB=>zdI b l e w hB hl
 have b1:Bd 80000000 (1:Int):=(show Bd 1 1 by unfold Bd;decide).mono (by omega)
 have M1:=fun w=>mk1 (n:=numP (dgs l)) (d:=1) w (bn.mono (by omega)) b1 (by omega)
 unfold valN
 cases hr:dgr l with
 | nil =>
  rw [hr] at I1
  exact zd8 b l [] e _ _ _ w hB I1 (fun _ h=>by cases h) (fun _ h=>by cases h) M1
 | cons c r =>
  rw [hr] at I1 hlen
  rw [List.length_cons] at hlen
  have hlr:=zcO r
  have dr:=zcJ r
  have I2:=fun b w hB=>zdI b r (intE (dgs l) e) w hB (by omega)
  have D:=fun b w hB=>zez b r (intE (dgs l) e) w hB (by omega)
  simp only
  by_cases c1:c=47
  ·subst c1
   rw [if_pos rfl]
   have bd:=zfc (dgs r) dr
   by_cases h0:numP (dgs r)=0
   ·rw [if_pos h0]
    rw [h0] at I2
    exact zfG b l r _ e _ _ _ w hB I1 I2
   ·rw [if_neg h0]
    exact zgu b l r _ e _ _ _ _ _ w hB I1 I2 (fun w=>mk1 w (bn.mono (by omega)) (bd.mono (by omega)) (by omega))
  ·rw [if_neg c1]
   by_cases c2:c=46
   ·subst c2
    rw [if_pos rfl]
    have hs:((ByteArray.mk (dgs r).toArray).size:Int)=((dgs r).length:Int):=by rw [zaq]
    cases ht:(dgs r).isEmpty with
    | true =>
     rw [if_pos (.inl (by simpa using ht))]
     exact zhm b l r _ _ e _ _ w hB I1 D ht
    | false =>
     have ht2:dgs r ≠ []:=by
      intro h
      rw [h] at ht
      cases ht
     by_cases h20:20<(dgs r).length
     ·rw [if_pos (.inr h20)]
      exact zhv b l r _ _ e _ _ w hB I1 D ht (decide_eq_true (by omega))
     ·rw [if_neg (fun h=>h.elim ht2 h20)]
      obtain ⟨z1,z2,z3,z4⟩:=zpq dr
      have PZ:=fun w=>zhp (noZ' (dgs r)) w z1 (by omega)
      rw [z3,z4,if_pos rfl] at PZ
      have bq:=ziX (dgs r).length
      have PW:∀ w,Calls Tryz.prog 199 #[vI 10,.int .i64 ((ByteArray.mk (dgs r).toArray).size:Nat)] w (RetIE (10 ^ (dgs r).length) 0 w):=fun w=>by
       have h:=zp9 10 (ByteArray.mk (dgs r).toArray).size w ((show Bd 1 10 by unfold Bd;decide).mono (by omega)) (by omega)
       rwa [show (10:Int) ^ (ByteArray.mk (dgs r).toArray).size=10 ^ (dgs r).length by rw [zaq]] at h
      have bm:=zfq (dgs r) dr
      have q0:(10:Int) ^ (dgs r).length≠0:=Int.pow_ne_zero (by decide)
      have g20:decide ((20:Int)<((ByteArray.mk (dgs r).toArray).size:Int))=false:=decide_eq_false (by omega)
      have bp:=bn.mul bq
      have ML:=fun w=>zcp _ _ w (bn.mono (show _≤400000000 by omega)) (bq.mono (by omega))
      have AD:=fun w=>zdv _ _ w (bp.mono (show _≤400000000 by omega)) (bm.mono (by omega))
      have M:=fun w=>mk1 w (((bp.mono (show _≤1000 by omega)).add (bm.mono (by omega))).mono (by omega)) (bq.mono (by omega)) q0
      cases hz:(noZ (dgs r)).isEmpty with
      | true=>exact zg2 b l r _ _ e _ _ _ _ _ _ w hB I1 D ht g20 hz PW PZ ML AD M
      | false=>exact zhN b l r _ _ e _ _ _ _ _ _ w hB I1 D ht g20 hz PW PZ ML AD M
   ·rw [if_neg c2]
    exact zd8 b l _ e _ _ _ w hB I1 (fun _ h=>by injection h with h _;exact c1 h) (fun _ h=>by injection h with h _;exact c2 h) M1

theorem zcr {n d:Int} (h:d≠0):Ok (valD n d):=zg0 h
theorem BN.addN' {a b:Nat} {x y:Nm} (hx:BN a x) (hy:BN b y) (h1:x.d≠0) (h2:y.d≠0):BN (a+b+1) (Go.Proofs.YtegnalgjjmpcmaaGreatDoor.addN x y):=by
 have e:b+a=a+b:=Nat.add_comm _ _
 refine BN.low (x:=Go.Proofs.YtegnalgjjmpcmaaGreatDoor.addR x y) ⟨?_,?_,?_,?_,?_⟩ (Int.mul_ne_zero h1 h2)
 ·exact (hx.h0.mul hy.h4).add ((hy.h0.mul hx.h4).mono (by omega))
 ·exact (hx.h1.mul hy.h4).add ((hy.h1.mul hx.h4).mono (by omega))
 ·exact (hx.h2.mul hy.h4).add ((hy.h2.mul hx.h4).mono (by omega))
 ·exact (hx.h3.mul hy.h4).add ((hy.h3.mul hx.h4).mono (by omega))
 ·exact (hx.h4.mul hy.h4).mono (by omega)
theorem BN.valD {k:Nat} {n d:Int} (hn:Bd k n) (hd:Bd k d) (h:d≠0):BN k (Go.Proofs.YtegnalgjjmpcmaaGreatDoor.valD n d) :=
 BN.low (x:=⟨n,0,0,0,d⟩) ⟨hn,Bd.zero k,Bd.zero k,Bd.zero k,hd⟩ h
theorem zfo (l:List UInt8) (e:Int) (hl:l.length≤400):Ok (valN l e).1∧BN 402 (valN l e).1∧(valN l e).2.1.length≤l.length:=by
 have hlen:=zcO l
 have bn:=zfc (dgs l) (zcJ l)
 have b1:Bd 402 (1:Int):=Bd.one (by omega)
 have z0:BN 402 (intN 0):=BN.int (Bd.zero _) (by omega)
 unfold valN
 cases hr:dgr l with
 | nil=>exact ⟨zcr (by decide),BN.valD (bn.mono (by omega)) b1 (by decide),by simp⟩
 | cons c r =>
  rw [hr,List.length_cons] at hlen
  have hlr:=zcO r
  have dr:=zcJ r
  have bd:=zfc (dgs r) dr
  have bm:=zfq (dgs r) dr
  simp only
  split
  ·split
   ·exact ⟨zaW 0,z0,by simp only;omega⟩
   ·rename_i h0
    exact ⟨zcr (by omega),BN.valD (bn.mono (by omega)) (bd.mono (by omega)) (by omega),by simp only;omega⟩
  ·split
   ·split
    ·exact ⟨zaW 0,z0,by simp only;omega⟩
    ·have q0:(10:Int) ^ (dgs r).length≠0:=Int.pow_ne_zero (by decide)
     have bq:=ziX (dgs r).length
     exact ⟨zcr q0,BN.valD ((((bn.mul bq).mono (show _≤401 by omega)).add (bm.mono (by omega))).mono (by omega)) (bq.mono (by omega)) q0,by simp only;omega⟩
   ·exact ⟨zcr (by decide),BN.valD (bn.mono (by omega)) b1 (by decide),by simp only [List.length_cons];omega⟩
theorem zhO {l r:List UInt8} {k:Int} (h:rootS l=some (k,r)):r.length+2=l.length:=by
 rcases zcb l with ⟨r',rfl,h2⟩ | ⟨r',rfl,h2⟩ | ⟨r',rfl,h2⟩ | ⟨h2,_⟩
 all_goals rw [h2] at h
 ·cases h;rfl
 ·cases h;rfl
 ·cases h;rfl
 ·cases h
def termN (l:List UInt8) (e:Int):Nm × List UInt8 × Int :=
 match rootS l with
 | some (k,r)=>(rootN k,r,e)
 | none=>match rootS (valN l e).2.1 with
  | some (k,r)=>(mulN (valN l e).1 (rootN k),r,(valN l e).2.2)
  | none=>(mulN (valN l e).1 (intN 1),(valN l e).2.1,(valN l e).2.2)
theorem zfU (l:List UInt8) (e:Int) (hl:l.length≤400):Ok (termN l e).1∧BN 810 (termN l e).1∧(termN l e).2.1.length≤l.length:=by
 obtain ⟨h1,h2,h3⟩:=zfo l e hl
 have b1:BN 402 (intN 1):=BN.int (Bd.one (by omega)) (by omega)
 unfold termN
 split
 ·rename_i k r h
  have:=zhO h
  exact ⟨zaG k,(BN.root k).mono (by omega),by simp only;omega⟩
 ·split
  ·rename_i k r h
   have:=zhO h
   exact ⟨zbv h1 (zaG k),(h2.mulN ((BN.root k).mono (by omega)) h1.ne (zaG k).ne).mono (by omega),by simp only;omega⟩
  ·exact ⟨zbv h1 (zaW 1),(h2.mulN b1 h1.ne (zaW 1).ne).mono (by omega),h3⟩
theorem ziO (b:Nat) (l r:List UInt8) (e:Int) (v:Nm) (w:World) (hB:Hc w b 95 (rdC l e))
  (R1:∀ b w,Hc w b 95 (rdC l e)→Calls Tryz.prog 164 #[.pointer (some ⟨b,0,none⟩)] w (RetRd b (.tuple #[vN v,.bool true]) r e w)) :
  Calls Tryz.prog 113 #[.pointer (some ⟨b,0,none⟩)] w (RetRd b (vN v) r e w):=by
 exact zbd kr Tryz.func113 rfl b 95 (rdC l e) (rdC r e) (hB) [] nle [] [.t] [cU 0 95 (rdC l e) (rdC r e) (fun b w hc hB=>R1 b w hB)]
theorem zh4 (b:Nat) (l l2 r:List UInt8) (e e1:Int) (o v k x:Nm) (w:World) (hB:Hc w b 95 (rdC l e))
  (R1:∀ b w,Hc w b 95 (rdC l e)→Calls Tryz.prog 164 #[.pointer (some ⟨b,0,none⟩)] w (RetRd b (.tuple #[vN o,.bool false]) l e w))
  (V:∀ b w,Hc w b 95 (rdC l e)→Calls Tryz.prog 165 #[.pointer (some ⟨b,0,none⟩)] w (RetRd b (vN v) l2 e1 w))
  (R2:∀ b w,Hc w b 95 (rdC l2 e1)→Calls Tryz.prog 164 #[.pointer (some ⟨b,0,none⟩)] w (RetRd b (.tuple #[vN k,.bool true]) r e1 w))
  (M:∀ w,Calls Tryz.prog 52 #[vN v,vN k] w (RetV (vN x) w)) :
  Calls Tryz.prog 113 #[.pointer (some ⟨b,0,none⟩)] w (RetRd b (vN x) r e1 w):=by
 exact zbd kr Tryz.func113 rfl b 95 (rdC l e) (rdC r e1) (hB) [] nle [] [.f] [cU 0 95 (rdC l e) (rdC l e) (fun b w hc hB=>R1 b w hB),cU 0 95 (rdC l e) (rdC l2 e1) (fun b w hc hB=>V b w hB),cU 0 95 (rdC l2 e1) (rdC r e1) (fun b w hc hB=>R2 b w hB),cV (M)]
theorem zh3 (b:Nat) (l l2 r:List UInt8) (e e1:Int) (o v k x:Nm) (w:World) (hB:Hc w b 95 (rdC l e))
  (R1:∀ b w,Hc w b 95 (rdC l e)→Calls Tryz.prog 164 #[.pointer (some ⟨b,0,none⟩)] w (RetRd b (.tuple #[vN o,.bool false]) l e w))
  (V:∀ b w,Hc w b 95 (rdC l e)→Calls Tryz.prog 165 #[.pointer (some ⟨b,0,none⟩)] w (RetRd b (vN v) l2 e1 w))
  (R2:∀ b w,Hc w b 95 (rdC l2 e1)→Calls Tryz.prog 164 #[.pointer (some ⟨b,0,none⟩)] w (RetRd b (.tuple #[vN k,.bool false]) r e1 w))
  (M:∀ w,Calls Tryz.prog 52 #[vN v,vN k] w (RetV (vN x) w)) :
  Calls Tryz.prog 113 #[.pointer (some ⟨b,0,none⟩)] w (RetRd b (vN x) r e1 w):=by
 exact zbd kr Tryz.func113 rfl b 95 (rdC l e) (rdC r e1) (hB) [] nle [] [.f] [cU 0 95 (rdC l e) (rdC l e) (fun b w hc hB=>R1 b w hB),cU 0 95 (rdC l e) (rdC l2 e1) (fun b w hc hB=>V b w hB),cU 0 95 (rdC l2 e1) (rdC r e1) (fun b w hc hB=>R2 b w hB),cV (M)]
theorem zki (b:Nat) (l:List UInt8) (e:Int) (w:World) (hB:Hc w b 95 (rdC l e)) (hl:l.length≤400) :
  Calls Tryz.prog 113 #[.pointer (some ⟨b,0,none⟩)] w (RetRd b (vN (termN l e).1) (termN l e).2.1 (termN l e).2.2 w):=by
 have R1:=fun b w hB=>zfV b l e w hB
 obtain ⟨h1,h2,h3⟩:=zfo l e hl
 have b1:BN 402 (intN 1):=BN.int (Bd.one (by omega)) (by omega)
 unfold termN
 cases hr:rootS l with
 | some p =>
  obtain ⟨k,r⟩:=p
  simp only [hr] at R1 ⊢
  exact ziO b l r e _ w hB R1
 | none =>
  simp only [hr] at R1 ⊢
  have V:=fun b w hB=>ziG b l e w hB hl
  have R2:=fun b w hB=>zfV b (valN l e).2.1 (valN l e).2.2 w hB
  cases hr2:rootS (valN l e).2.1 with
  | some p =>
   obtain ⟨k,r⟩:=p
   simp only [hr2] at R2 ⊢
   exact zh4 b l _ r e _ _ _ _ _ w hB R1 V R2 (fun w=>zgA _ _ w (h2.mono (by omega)) ((BN.root k).mono (by omega)) h1 (zaG k))
  | none =>
   simp only [hr2] at R2 ⊢
   exact zh3 b l _ _ e _ _ _ _ _ w hB R1 V R2 (fun w=>zgA _ _ w (h2.mono (by omega)) (b1.mono (by omega)) h1 (zaW 1))
def parP:Nat→Nm→Bool→List UInt8→Int→Nm × Int
 | 0,sum,_,_,_=>(sum,4)
 | f+1,sum,neg,l,e =>
  let x:=addN sum (if neg then negN (termN l e).1 else (termN l e).1)
  if (termN l e).2.2=4 then (x,4)
  else match (termN l e).2.1 with
   | []=>(x,(termN l e).2.2)
   | c :: r=>if c=45 then parP f x true r (termN l e).2.2 else if c=43 then parP f x false r (termN l e).2.2 else (x,4)
def zcN:Array Value:=#[.bool false,.string ⟨#[]⟩,.bool false,.string ⟨#[]⟩,.bool false,.string ⟨#[]⟩,.bool false,.string ⟨#[]⟩,.bool false,.string ⟨#[]⟩]
noncomputable def fqN:Nat:=Tryz.f54.ntmps
noncomputable def fqC:Code:=Tryz.f54.body.getD .skip
noncomputable def fq0:Code:=cB 0 fqC
def resV (p:Nm × Int):Value:=if p.2=0 then .tuple #[vN p.1,.int .i64 0] else .tuple #[vZ,.int .i64 p.2]
def fqM (l:List UInt8) (e:Int) (s:Nm):Mem:=[(0,(26,zcN)),(7,(95,rdC l e)),(10,(26,xcN s))]
def fqS (rn:Nat→Nat) (neg:Bool):Env:=[(2,(.pointer (some ⟨rn 0,0,none⟩),1)),(4,(.pointer (some ⟨rn 7,0,none⟩),8)),(5,(.pointer (some ⟨rn 10,0,none⟩),11)),(6,(.bool neg,0))]
def fqE (rn:Nat→Nat):Env:=[(2,(.pointer (some ⟨rn 0,0,none⟩),1)),(4,(.pointer (some ⟨rn 7,0,none⟩),8)),(5,(.pointer (some ⟨rn 10,0,none⟩),11))]
theorem zsa (X:Cx) (rn:Nat→Nat) (a:Act) (w:World) (l:List UInt8) (e:Int) (s:Nm) (post:Ending→World→Prop) (hS:St fqN (fqE rn) a) (hM:MemOk X rn (fqM l e s) w) (hp:∀ w',Chg X.L X.w0 w'→post (.returned (resV (s,e))) w') :
  wpL Tryz.prog (cPost 0 fqC) (bodyPost Tryz.prog Tryz.f54 post) a w:=by
 unfold resV at hp
 unfold fqE at hS
 unfold fqM at hM
 by_cases he:e=0
 ·subst he
  rw [if_pos rfl] at hp
  refine vk (X:=X) [] fqN (cPost 0 fqC) (fun r=>[(2,(.pointer (some ⟨r 0,0,none⟩),1)),(4,(.pointer (some ⟨r 7,0,none⟩),8)),(5,(.pointer (some ⟨r 10,0,none⟩),11))]) (fun r=>[(0,(26,zcN)),(7,(95,rdC l 0)),(10,(26,xcN s))]) 100 (rn) (hS) (hM) [.f] [] (VEx.r) (fun r=>[(2,(.pointer (some ⟨r 0,0,none⟩),1)),(3,(.int .i64 (0),0))]) [] (fun r=>[(0,(26,xcN s))]) ?_
  intro a4 w4 hS4 hK4 hM4
  exact za4 (fn:=Tryz.f54) hS4 hM4 (.tuple #[vN s,.int .i64 0]) (fun g=>by kernel_rfl) (hp w4 hM4.below)
 ·rw [if_neg he] at hp
  have h:(e != 0)=true:=by simpa using he
  refine vk (X:=X) [] fqN (cPost 0 fqC) (fun r=>[(2,(.pointer (some ⟨r 0,0,none⟩),1)),(4,(.pointer (some ⟨r 7,0,none⟩),8)),(5,(.pointer (some ⟨r 10,0,none⟩),11))]) (fun r=>[(0,(26,zcN)),(7,(95,rdC (l) (e))),(10,(26,xcN s))]) 100 (rn) (hS) (hM) [(.p _ true h)] [] (VEx.r) (fun r=>[(2,(.pointer (some ⟨r 0,0,none⟩),1)),(3,(.int .i64 (e),0))]) [] (fun r=>[(0,(26,zcN))]) ?_
  intro a4 w4 hS4 hK4 hM4
  exact za4 (fn:=Tryz.f54) hS4 hM4 (.tuple #[vZ,.int .i64 e]) (fun g=>by kernel_rfl) (hp w4 hM4.below)
section
variable {X:Cx} {rn:Nat→Nat} {l l2:List UInt8} {e e1:Int} {s v y x:Nm} {a:Act} {w:World} {Q:Exit→Act→World→Prop}
theorem zqz (hS:St fqN (fqS rn true) a) (hM:MemOk X rn (fqM l e s) w)
  (T:∀ b w,Hc w b 95 (rdC l e)→Calls Tryz.prog 113 #[.pointer (some ⟨b,0,none⟩)] w (RetRd b (vN v) l2 4 w)) (NX:∀ w,Calls Tryz.prog 66 #[vN v] w (RetV (vN y) w)) (AD:∀ w,Calls Tryz.prog 50 #[vN s,vN y] w (RetV (vN x) w))
  (hQ:∀ a' w',St fqN (fqE rn) a'→MemOk X rn (fqM l2 4 x) w'→Q (.exit 0) a' w'):wpL Tryz.prog [cI (cI fq0)] Q a w:=by
 unfold fqS at hS
 unfold fqM fqE at *
 refine vk (X:=X) [] fqN [cI (cI fq0)] (fun r=>[(2,(.pointer (some ⟨r 0,0,none⟩),1)),(4,(.pointer (some ⟨r 7,0,none⟩),8)),(5,(.pointer (some ⟨r 10,0,none⟩),11)),(6,(.bool true,0))]) (fun r=>[(0,(26,zcN)),(7,(95,rdC (l) (e))),(10,(26,xcN s))]) 100 (rn) (hS) (hM) [.t,.t,.t,.t,.t,.t,.t,.t] [cU 7 95 (rdC l e) (rdC l2 4) (fun b w hc hB=>T b w hB),cV (NX),cV (AD)] (VEx.x 0) (fun r=>[(2,(.pointer (some ⟨r 0,0,none⟩),1)),(4,(.pointer (some ⟨r 7,0,none⟩),8)),(5,(.pointer (some ⟨r 10,0,none⟩),11))]) [] (fun r=>[(0,(26,zcN)),(7,(95,rdC (l2) (4))),(10,(26,xcN x))]) ?_
 intro a3 w3 hS3 hK3 hM3
 exact hQ a3 w3 hS3 hM3
theorem zq3 (hS:St fqN (fqS rn true) a) (hM:MemOk X rn (fqM l e s) w) (he:(e1 == 4)=false)
  (T:∀ b w,Hc w b 95 (rdC l e)→Calls Tryz.prog 113 #[.pointer (some ⟨b,0,none⟩)] w (RetRd b (vN v) [] e1 w)) (NX:∀ w,Calls Tryz.prog 66 #[vN v] w (RetV (vN y) w)) (AD:∀ w,Calls Tryz.prog 50 #[vN s,vN y] w (RetV (vN x) w))
  (hQ:∀ a' w',St fqN (fqE rn) a'→MemOk X rn (fqM [] e1 x) w'→Q (.exit 0) a' w'):wpL Tryz.prog [cI (cI fq0)] Q a w:=by
 unfold fqS at hS
 unfold fqM fqE at *
 have hz:=zaJ []
 refine vk (X:=X) [(10,10)] fqN [cI (cI fq0)] (fun r=>[(2,(.pointer (some ⟨r 0,0,none⟩),1)),(4,(.pointer (some ⟨r 7,0,none⟩),8)),(5,(.pointer (some ⟨r 10,0,none⟩),11)),(6,(.bool true,0))]) (fun r=>[(0,(26,zcN)),(7,(95,rdC (l) (e))),(10,(26,xcN s))]) 100 (rn) (hS) (hM) [.t,(.p _ false he),(.p _ false he),(.p _ false he),(.p _ false he),(.p _ false he),(.p _ false he),.t] [cU 7 95 (rdC l e) (rdC [] e1) (fun b w hc hB=>T b w hB),cV (NX),cV (AD),lP (.bool ((ByteArray.mk ([]:List UInt8).toArray).toList == (ByteArray.mk #[]).toList)) (.bool true) (congrArg Value.bool hz)] (VEx.x 0) (fun r=>[(2,(.pointer (some ⟨r 0,0,none⟩),1)),(4,(.pointer (some ⟨r 7,0,none⟩),8)),(5,(.pointer (some ⟨r 10,0,none⟩),11))]) [] (fun r=>[(0,(26,zcN)),(7,(95,rdC ([]) (e1))),(10,(26,xcN x))]) ?_
 intro a3 w3 hS3 hK3 hM3
 exact hQ a3 w3 hS3 hM3
theorem znj (hS:St fqN (fqS rn true) a) (hM:MemOk X rn (fqM l e s) w) (he:(e1 == 4)=false)
  (T:∀ b w,Hc w b 95 (rdC l e)→Calls Tryz.prog 113 #[.pointer (some ⟨b,0,none⟩)] w (RetRd b (vN v) (45 :: l2) e1 w)) (NX:∀ w,Calls Tryz.prog 66 #[vN v] w (RetV (vN y) w)) (AD:∀ w,Calls Tryz.prog 50 #[vN s,vN y] w (RetV (vN x) w))
  (hQ:∀ a' w',St fqN (fqS rn true) a'→MemOk X rn (fqM l2 e1 x) w'→Q .normal a' w'):wpL Tryz.prog [cI (cI fq0)] Q a w:=by
 unfold fqS fqM at *
 have hz:=zaJ (45 :: l2)
 have P:=fun b w hB=>zcF b l2 e1 w hB
 rw [show (45 :: l2:List UInt8).isEmpty=false from rfl] at hz
 generalize 45 :: l2=l3 at *
 refine vk (X:=X) [(10,10)] fqN [cI (cI fq0)] (fun r=>[(2,(.pointer (some ⟨r 0,0,none⟩),1)),(4,(.pointer (some ⟨r 7,0,none⟩),8)),(5,(.pointer (some ⟨r 10,0,none⟩),11)),(6,(.bool true,0))]) (fun r=>[(0,(26,zcN)),(7,(95,rdC (l) (e))),(10,(26,xcN s))]) 100 (rn) (hS) (hM) [.t,(.p _ false he),(.p _ false he),(.p _ false he),(.p _ false he),(.p _ false he),(.p _ false he),.f,.f,.f,.f,.f,.f] [cU 7 95 (rdC l e) (rdC l3 e1) (fun b w hc hB=>T b w hB),cV (NX),cV (AD),lP (.bool ((ByteArray.mk l3.toArray).toList == (ByteArray.mk #[]).toList)) (.bool false) (congrArg Value.bool hz),cU 7 95 (rdC l3 e1) (rdC l2 e1) (fun b w hc hB=>P b w hB)] (VEx.n) (fun r=>[(2,(.pointer (some ⟨r 0,0,none⟩),1)),(4,(.pointer (some ⟨r 7,0,none⟩),8)),(5,(.pointer (some ⟨r 10,0,none⟩),11)),(6,(.bool true,0))]) [] (fun r=>[(0,(26,zcN)),(7,(95,rdC (l2) (e1))),(10,(26,xcN x))]) ?_
 intro a3 w3 hS3 hK3 hM3
 exact hQ a3 w3 hS3 hM3
theorem znV (hS:St fqN (fqS rn true) a) (hM:MemOk X rn (fqM l e s) w) (he:(e1 == 4)=false)
  (T:∀ b w,Hc w b 95 (rdC l e)→Calls Tryz.prog 113 #[.pointer (some ⟨b,0,none⟩)] w (RetRd b (vN v) (43 :: l2) e1 w)) (NX:∀ w,Calls Tryz.prog 66 #[vN v] w (RetV (vN y) w)) (AD:∀ w,Calls Tryz.prog 50 #[vN s,vN y] w (RetV (vN x) w))
  (hQ:∀ a' w',St fqN (fqS rn false) a'→MemOk X rn (fqM l2 e1 x) w'→Q .normal a' w'):wpL Tryz.prog [cI (cI fq0)] Q a w:=by
 unfold fqS fqM at *
 have hz:=zaJ (43 :: l2)
 have N:=fun b w hB=>zbO b (43 :: l2) e1 w hB (fun _ h=>by injection h with h _;exact absurd h (by decide))
 have P:=fun b w hB=>zd7 b l2 e1 w hB
 rw [show (43 :: l2:List UInt8).isEmpty=false from rfl] at hz
 generalize 43 :: l2=l3 at *
 refine vk (X:=X) [(10,10)] fqN [cI (cI fq0)] (fun r=>[(2,(.pointer (some ⟨r 0,0,none⟩),1)),(4,(.pointer (some ⟨r 7,0,none⟩),8)),(5,(.pointer (some ⟨r 10,0,none⟩),11)),(6,(.bool true,0))]) (fun r=>[(0,(26,zcN)),(7,(95,rdC (l) (e))),(10,(26,xcN s))]) 100 (rn) (hS) (hM) [.t,(.p _ false he),(.p _ false he),(.p _ false he),(.p _ false he),(.p _ false he),(.p _ false he),.f,.t,.t,.t,.t,.f] [cU 7 95 (rdC l e) (rdC l3 e1) (fun b w hc hB=>T b w hB),cV (NX),cV (AD),lP (.bool ((ByteArray.mk l3.toArray).toList == (ByteArray.mk #[]).toList)) (.bool false) (congrArg Value.bool hz),cU 7 95 (rdC l3 e1) (rdC l3 e1) (fun b w hc hB=>N b w hB),cU 7 95 (rdC l3 e1) (rdC l2 e1) (fun b w hc hB=>P b w hB)] (VEx.n) (fun r=>[(2,(.pointer (some ⟨r 0,0,none⟩),1)),(4,(.pointer (some ⟨r 7,0,none⟩),8)),(5,(.pointer (some ⟨r 10,0,none⟩),11)),(6,(.bool false,0))]) [] (fun r=>[(0,(26,zcN)),(7,(95,rdC (l2) (e1))),(10,(26,xcN x))]) ?_
 intro a3 w3 hS3 hK3 hM3
 exact hQ a3 w3 hS3 hM3
theorem zlg (c:UInt8) (hc1:c≠45) (hc2:c≠43) (hS:St fqN (fqS rn true) a) (hM:MemOk X rn (fqM l e s) w) (he:(e1 == 4)=false)
  (T:∀ b w,Hc w b 95 (rdC l e)→Calls Tryz.prog 113 #[.pointer (some ⟨b,0,none⟩)] w (RetRd b (vN v) (c :: l2) e1 w)) (NX:∀ w,Calls Tryz.prog 66 #[vN v] w (RetV (vN y) w)) (AD:∀ w,Calls Tryz.prog 50 #[vN s,vN y] w (RetV (vN x) w))
  (hQ:∀ a' w',St fqN (fqE rn) a'→MemOk X rn (fqM (c :: l2) 4 x) w'→Q (.exit 0) a' w'):wpL Tryz.prog [cI (cI fq0)] Q a w:=by
 unfold fqS at hS
 unfold fqM fqE at *
 have hz:=zaJ (c :: l2)
 have N:=fun b w hB=>zbO b (c :: l2) e1 w hB (fun _ h=>by injection h with h _;exact absurd h hc1)
 have P:=fun b w hB=>zey b (c :: l2) e1 w hB (fun _ h=>by injection h with h _;exact absurd h hc2)
 have F:=fun b w hB=>frfail4 b (c :: l2) e1 w hB
 rw [show (c :: l2:List UInt8).isEmpty=false from rfl] at hz
 generalize c :: l2=l3 at *
 refine vk (X:=X) [(10,10)] fqN [cI (cI fq0)] (fun r=>[(2,(.pointer (some ⟨r 0,0,none⟩),1)),(4,(.pointer (some ⟨r 7,0,none⟩),8)),(5,(.pointer (some ⟨r 10,0,none⟩),11)),(6,(.bool true,0))]) (fun r=>[(0,(26,zcN)),(7,(95,rdC (l) (e))),(10,(26,xcN s))]) 100 (rn) (hS) (hM) [.t,(.p _ false he),(.p _ false he),(.p _ false he),(.p _ false he),(.p _ false he),(.p _ false he),.f,.t,.t,.t,.t,.t] [cU 7 95 (rdC l e) (rdC l3 e1) (fun b w hc hB=>T b w hB),cV (NX),cV (AD),lP (.bool ((ByteArray.mk l3.toArray).toList == (ByteArray.mk #[]).toList)) (.bool false) (congrArg Value.bool hz),cU 7 95 (rdC l3 e1) (rdC l3 e1) (fun b w hc hB=>N b w hB),cU 7 95 (rdC l3 e1) (rdC l3 e1) (fun b w hc hB=>P b w hB),cU 7 95 (rdC l3 e1) (rdC l3 4) (fun b w hc hB=>F b w hB)] (VEx.x 0) (fun r=>[(2,(.pointer (some ⟨r 0,0,none⟩),1)),(4,(.pointer (some ⟨r 7,0,none⟩),8)),(5,(.pointer (some ⟨r 10,0,none⟩),11))]) [] (fun r=>[(0,(26,zcN)),(7,(95,rdC (l3) (4))),(10,(26,xcN x))]) ?_
 intro a3 w3 hS3 hK3 hM3
 exact hQ a3 w3 hS3 hM3
end
section
variable {X:Cx} {rn:Nat→Nat} {l l2:List UInt8} {e e1:Int} {s v y x:Nm} {a:Act} {w:World} {Q:Exit→Act→World→Prop}
theorem zp5 (hS:St fqN (fqS rn false) a) (hM:MemOk X rn (fqM l e s) w)
  (T:∀ b w,Hc w b 95 (rdC l e)→Calls Tryz.prog 113 #[.pointer (some ⟨b,0,none⟩)] w (RetRd b (vN v) l2 4 w)) (AD:∀ w,Calls Tryz.prog 50 #[vN s,vN v] w (RetV (vN x) w))
  (hQ:∀ a' w',St fqN (fqE rn) a'→MemOk X rn (fqM l2 4 x) w'→Q (.exit 0) a' w'):wpL Tryz.prog [cI (cI fq0)] Q a w:=by
 unfold fqS at hS
 unfold fqM fqE at *
 refine vk (X:=X) [] fqN [cI (cI fq0)] (fun r=>[(2,(.pointer (some ⟨r 0,0,none⟩),1)),(4,(.pointer (some ⟨r 7,0,none⟩),8)),(5,(.pointer (some ⟨r 10,0,none⟩),11)),(6,(.bool false,0))]) (fun r=>[(0,(26,zcN)),(7,(95,rdC (l) (e))),(10,(26,xcN s))]) 100 (rn) (hS) (hM) [.f,.t,.t,.t,.t,.t,.t,.t] [cU 7 95 (rdC l e) (rdC l2 4) (fun b w hc hB=>T b w hB),cV (AD)] (VEx.x 0) (fun r=>[(2,(.pointer (some ⟨r 0,0,none⟩),1)),(4,(.pointer (some ⟨r 7,0,none⟩),8)),(5,(.pointer (some ⟨r 10,0,none⟩),11))]) [] (fun r=>[(0,(26,zcN)),(7,(95,rdC (l2) (4))),(10,(26,xcN x))]) ?_
 intro a3 w3 hS3 hK3 hM3
 exact hQ a3 w3 hS3 hM3
theorem zqy (hS:St fqN (fqS rn false) a) (hM:MemOk X rn (fqM l e s) w) (he:(e1 == 4)=false)
  (T:∀ b w,Hc w b 95 (rdC l e)→Calls Tryz.prog 113 #[.pointer (some ⟨b,0,none⟩)] w (RetRd b (vN v) [] e1 w)) (AD:∀ w,Calls Tryz.prog 50 #[vN s,vN v] w (RetV (vN x) w))
  (hQ:∀ a' w',St fqN (fqE rn) a'→MemOk X rn (fqM [] e1 x) w'→Q (.exit 0) a' w'):wpL Tryz.prog [cI (cI fq0)] Q a w:=by
 unfold fqS at hS
 unfold fqM fqE at *
 have hz:=zaJ []
 refine vk (X:=X) [(10,10)] fqN [cI (cI fq0)] (fun r=>[(2,(.pointer (some ⟨r 0,0,none⟩),1)),(4,(.pointer (some ⟨r 7,0,none⟩),8)),(5,(.pointer (some ⟨r 10,0,none⟩),11)),(6,(.bool false,0))]) (fun r=>[(0,(26,zcN)),(7,(95,rdC (l) (e))),(10,(26,xcN s))]) 100 (rn) (hS) (hM) [.f,(.p _ false he),(.p _ false he),(.p _ false he),(.p _ false he),(.p _ false he),(.p _ false he),.t] [cU 7 95 (rdC l e) (rdC [] e1) (fun b w hc hB=>T b w hB),cV (AD),lP (.bool ((ByteArray.mk ([]:List UInt8).toArray).toList == (ByteArray.mk #[]).toList)) (.bool true) (congrArg Value.bool hz)] (VEx.x 0) (fun r=>[(2,(.pointer (some ⟨r 0,0,none⟩),1)),(4,(.pointer (some ⟨r 7,0,none⟩),8)),(5,(.pointer (some ⟨r 10,0,none⟩),11))]) [] (fun r=>[(0,(26,zcN)),(7,(95,rdC ([]) (e1))),(10,(26,xcN x))]) ?_
 intro a3 w3 hS3 hK3 hM3
 exact hQ a3 w3 hS3 hM3
theorem zny (hS:St fqN (fqS rn false) a) (hM:MemOk X rn (fqM l e s) w) (he:(e1 == 4)=false)
  (T:∀ b w,Hc w b 95 (rdC l e)→Calls Tryz.prog 113 #[.pointer (some ⟨b,0,none⟩)] w (RetRd b (vN v) (45 :: l2) e1 w)) (AD:∀ w,Calls Tryz.prog 50 #[vN s,vN v] w (RetV (vN x) w))
  (hQ:∀ a' w',St fqN (fqS rn true) a'→MemOk X rn (fqM l2 e1 x) w'→Q .normal a' w'):wpL Tryz.prog [cI (cI fq0)] Q a w:=by
 unfold fqS fqM at *
 have hz:=zaJ (45 :: l2)
 have P:=fun b w hB=>zcF b l2 e1 w hB
 rw [show (45 :: l2:List UInt8).isEmpty=false from rfl] at hz
 generalize 45 :: l2=l3 at *
 refine vk (X:=X) [(10,10)] fqN [cI (cI fq0)] (fun r=>[(2,(.pointer (some ⟨r 0,0,none⟩),1)),(4,(.pointer (some ⟨r 7,0,none⟩),8)),(5,(.pointer (some ⟨r 10,0,none⟩),11)),(6,(.bool false,0))]) (fun r=>[(0,(26,zcN)),(7,(95,rdC (l) (e))),(10,(26,xcN s))]) 100 (rn) (hS) (hM) [.f,(.p _ false he),(.p _ false he),(.p _ false he),(.p _ false he),(.p _ false he),(.p _ false he),.f,.f,.f,.f,.f,.f] [cU 7 95 (rdC l e) (rdC l3 e1) (fun b w hc hB=>T b w hB),cV (AD),lP (.bool ((ByteArray.mk l3.toArray).toList == (ByteArray.mk #[]).toList)) (.bool false) (congrArg Value.bool hz),cU 7 95 (rdC l3 e1) (rdC l2 e1) (fun b w hc hB=>P b w hB)] (VEx.n) (fun r=>[(2,(.pointer (some ⟨r 0,0,none⟩),1)),(4,(.pointer (some ⟨r 7,0,none⟩),8)),(5,(.pointer (some ⟨r 10,0,none⟩),11)),(6,(.bool true,0))]) [] (fun r=>[(0,(26,zcN)),(7,(95,rdC (l2) (e1))),(10,(26,xcN x))]) ?_
 intro a3 w3 hS3 hK3 hM3
 exact hQ a3 w3 hS3 hM3
theorem zph (hS:St fqN (fqS rn false) a) (hM:MemOk X rn (fqM l e s) w) (he:(e1 == 4)=false)
  (T:∀ b w,Hc w b 95 (rdC l e)→Calls Tryz.prog 113 #[.pointer (some ⟨b,0,none⟩)] w (RetRd b (vN v) (43 :: l2) e1 w)) (AD:∀ w,Calls Tryz.prog 50 #[vN s,vN v] w (RetV (vN x) w))
  (hQ:∀ a' w',St fqN (fqS rn false) a'→MemOk X rn (fqM l2 e1 x) w'→Q .normal a' w'):wpL Tryz.prog [cI (cI fq0)] Q a w:=by
 unfold fqS fqM at *
 have hz:=zaJ (43 :: l2)
 have N:=fun b w hB=>zbO b (43 :: l2) e1 w hB (fun _ h=>by injection h with h _;exact absurd h (by decide))
 have P:=fun b w hB=>zd7 b l2 e1 w hB
 rw [show (43 :: l2:List UInt8).isEmpty=false from rfl] at hz
 generalize 43 :: l2=l3 at *
 refine vk (X:=X) [(10,10)] fqN [cI (cI fq0)] (fun r=>[(2,(.pointer (some ⟨r 0,0,none⟩),1)),(4,(.pointer (some ⟨r 7,0,none⟩),8)),(5,(.pointer (some ⟨r 10,0,none⟩),11)),(6,(.bool false,0))]) (fun r=>[(0,(26,zcN)),(7,(95,rdC (l) (e))),(10,(26,xcN s))]) 100 (rn) (hS) (hM) [.f,(.p _ false he),(.p _ false he),(.p _ false he),(.p _ false he),(.p _ false he),(.p _ false he),.f,.t,.t,.t,.t,.f] [cU 7 95 (rdC l e) (rdC l3 e1) (fun b w hc hB=>T b w hB),cV (AD),lP (.bool ((ByteArray.mk l3.toArray).toList == (ByteArray.mk #[]).toList)) (.bool false) (congrArg Value.bool hz),cU 7 95 (rdC l3 e1) (rdC l3 e1) (fun b w hc hB=>N b w hB),cU 7 95 (rdC l3 e1) (rdC l2 e1) (fun b w hc hB=>P b w hB)] (VEx.n) (fun r=>[(2,(.pointer (some ⟨r 0,0,none⟩),1)),(4,(.pointer (some ⟨r 7,0,none⟩),8)),(5,(.pointer (some ⟨r 10,0,none⟩),11)),(6,(.bool false,0))]) [] (fun r=>[(0,(26,zcN)),(7,(95,rdC (l2) (e1))),(10,(26,xcN x))]) ?_
 intro a3 w3 hS3 hK3 hM3
 exact hQ a3 w3 hS3 hM3
theorem zmn (c:UInt8) (hc1:c≠45) (hc2:c≠43) (hS:St fqN (fqS rn false) a) (hM:MemOk X rn (fqM l e s) w) (he:(e1 == 4)=false)
  (T:∀ b w,Hc w b 95 (rdC l e)→Calls Tryz.prog 113 #[.pointer (some ⟨b,0,none⟩)] w (RetRd b (vN v) (c :: l2) e1 w)) (AD:∀ w,Calls Tryz.prog 50 #[vN s,vN v] w (RetV (vN x) w))
  (hQ:∀ a' w',St fqN (fqE rn) a'→MemOk X rn (fqM (c :: l2) 4 x) w'→Q (.exit 0) a' w'):wpL Tryz.prog [cI (cI fq0)] Q a w:=by
 unfold fqS at hS
 unfold fqM fqE at *
 have hz:=zaJ (c :: l2)
 have N:=fun b w hB=>zbO b (c :: l2) e1 w hB (fun _ h=>by injection h with h _;exact absurd h hc1)
 have P:=fun b w hB=>zey b (c :: l2) e1 w hB (fun _ h=>by injection h with h _;exact absurd h hc2)
 have F:=fun b w hB=>frfail4 b (c :: l2) e1 w hB
 rw [show (c :: l2:List UInt8).isEmpty=false from rfl] at hz
 generalize c :: l2=l3 at *
 refine vk (X:=X) [(10,10)] fqN [cI (cI fq0)] (fun r=>[(2,(.pointer (some ⟨r 0,0,none⟩),1)),(4,(.pointer (some ⟨r 7,0,none⟩),8)),(5,(.pointer (some ⟨r 10,0,none⟩),11)),(6,(.bool false,0))]) (fun r=>[(0,(26,zcN)),(7,(95,rdC (l) (e))),(10,(26,xcN s))]) 100 (rn) (hS) (hM) [.f,(.p _ false he),(.p _ false he),(.p _ false he),(.p _ false he),(.p _ false he),(.p _ false he),.f,.t,.t,.t,.t,.t] [cU 7 95 (rdC l e) (rdC l3 e1) (fun b w hc hB=>T b w hB),cV (AD),lP (.bool ((ByteArray.mk l3.toArray).toList == (ByteArray.mk #[]).toList)) (.bool false) (congrArg Value.bool hz),cU 7 95 (rdC l3 e1) (rdC l3 e1) (fun b w hc hB=>N b w hB),cU 7 95 (rdC l3 e1) (rdC l3 e1) (fun b w hc hB=>P b w hB),cU 7 95 (rdC l3 e1) (rdC l3 4) (fun b w hc hB=>F b w hB)] (VEx.x 0) (fun r=>[(2,(.pointer (some ⟨r 0,0,none⟩),1)),(4,(.pointer (some ⟨r 7,0,none⟩),8)),(5,(.pointer (some ⟨r 10,0,none⟩),11))]) [] (fun r=>[(0,(26,zcN)),(7,(95,rdC (l3) (4))),(10,(26,xcN x))]) ?_
 intro a3 w3 hS3 hK3 hM3
 exact hQ a3 w3 hS3 hM3
end

def sgnL (l:List UInt8):Bool × List UInt8 :=
 match l with
 | c :: r=>if c=45 then (true,r) else (false,c :: r)
 | []=>(false,[])
theorem zn2 (l:List UInt8):(sgnL l).2.length≤l.length:=by
 unfold sgnL
 split
 ·split <;> simp
 ·exact Nat.le_refl _
def parF (l:List UInt8):Nm × Int:=if 400<l.length then (intN 0,3) else parP 401 (intN 0) (sgnL l).1 (sgnL l).2 0
theorem negB (neg:Bool) {v:Nm} (h:Ok v):Ok (if neg then negN v else v):=by
 cases neg
 ·exact h
 ·exact zeg h
theorem zoI (X:Cx) (rn:Nat→Nat) (n:Nat) (s:Nm) (neg:Bool) (l:List UInt8) (e:Int) (a:Act) (w:World) (post:Ending→World→Prop) (j:Nat) (hj:j+l.length≤400)
  (hS:St fqN (fqS rn neg) a) (hM:MemOk X rn (fqM l e s) w) (os:Ok s) (bs:BN (1+811 * j) s) {Q:Exit→Act→World→Prop}
  (hE:∀ a' w' l' p,parP (n+1) s neg l e=p→St fqN (fqE rn) a'→MemOk X rn (fqM l' p.2 p.1) w'→Q (.exit 0) a' w')
  (hN:∀ a' w' neg' l' e' s',parP (n+1) s neg l e=parP n s' neg' l' e'→l'.length<l.length→St fqN (fqS rn neg') a'→MemOk X rn (fqM l' e' s') w'→Ok s'→BN (1+811 * (j+1)) s'→Q .normal a' w') :
  wpL Tryz.prog [cI (cI fq0)] Q a w:=by
 obtain ⟨ot,bt,lt⟩:=zfU l e (by omega)
 have T:=fun b w hB=>zki b l e w hB (by omega)
 have hp:parP (n+1) s neg l e=if (termN l e).2.2=4 then (addN s (if neg then negN (termN l e).1 else (termN l e).1),4)
  else match (termN l e).2.1 with
   | []=>(addN s (if neg then negN (termN l e).1 else (termN l e).1),(termN l e).2.2)
   | c :: r=>if c=45 then parP n (addN s (if neg then negN (termN l e).1 else (termN l e).1)) true r (termN l e).2.2 else if c=43 then parP n (addN s (if neg then negN (termN l e).1 else (termN l e).1)) false r (termN l e).2.2 else (addN s (if neg then negN (termN l e).1 else (termN l e).1),4):=rfl
 rw [hp] at hE hN
 clear hp
 generalize hv:(termN l e).1=v at *
 generalize hl2:(termN l e).2.1=l2 at *
 generalize he1:(termN l e).2.2=e1 at *
 have ov:=negB neg ot
 have bv:BN 810 (if neg then negN v else v):=by
  cases neg
  ·exact bt
  ·exact bt.neg
 have NG:=fun w=>zjN v w (bt.mono (by omega)) ot
 have AD:=fun w=>zeQ s (if neg then negN v else v) w (bs.mono (by omega)) (bv.mono (by omega)) os ov
 have ox:=zek os ov
 have bx:BN (1+811 * (j+1)) (addN s (if neg then negN v else v)):=(bs.addN' bv os.ne ov.ne).mono (by omega)
 by_cases h4:e1=4
 ·subst h4
  simp only [if_true] at hE
  cases neg
  ·exact zp5 hS hM T AD (fun a' w'=>hE a' w' l2 _ rfl)
  ·exact zqz hS hM T NG AD (fun a' w'=>hE a' w' l2 _ rfl)
 ·have h4':(e1 == 4)=false:=by simpa using h4
  simp only [if_neg h4] at hE hN
  cases l2 with
  | nil =>
   simp only at hE
   cases neg
   ·exact zqy hS hM h4' T AD (fun a' w'=>hE a' w' [] _ rfl)
   ·exact zq3 hS hM h4' T NG AD (fun a' w'=>hE a' w' [] _ rfl)
  | cons c r =>
   simp only at hE hN
   rw [List.length_cons] at lt
   by_cases c1:c=45
   ·subst c1
    simp only [if_true] at hN
    cases neg
    ·exact zny hS hM h4' T AD (fun a' w' h1 h2=>hN a' w' true r e1 _ rfl (by omega) h1 h2 ox bx)
    ·exact znj hS hM h4' T NG AD (fun a' w' h1 h2=>hN a' w' true r e1 _ rfl (by omega) h1 h2 ox bx)
   ·simp only [if_neg c1] at hE hN
    by_cases c2:c=43
    ·subst c2
     simp only [if_true] at hN
     cases neg
     ·exact zph hS hM h4' T AD (fun a' w' h1 h2=>hN a' w' false r e1 _ rfl (by omega) h1 h2 ox bx)
     ·exact znV hS hM h4' T NG AD (fun a' w' h1 h2=>hN a' w' false r e1 _ rfl (by omega) h1 h2 ox bx)
    ·simp only [if_neg c2] at hE
     cases neg
     ·exact zmn c c1 c2 hS hM h4' T AD (fun a' w'=>hE a' w' (c :: r) _ rfl)
     ·exact zlg c c1 c2 hS hM h4' T NG AD (fun a' w'=>hE a' w' (c :: r) _ rfl)
theorem znm (X:Cx) (rn:Nat→Nat) (neg:Bool) (l:List UInt8) (a:Act) (w:World) (post:Ending→World→Prop) (hl:l.length≤400) (hS:St fqN (fqS rn neg) a) (hM:MemOk X rn (fqM l 0 (intN 0)) w)
  (hp:∀ w',Chg X.L X.w0 w'→post (.returned (resV (parP 401 (intN 0) neg l 0))) w') :
  fq0.wp Tryz.prog (Exit.then (fun a w=>wpL Tryz.prog (cPost 0 fqC) (bodyPost Tryz.prog Tryz.f54 post) a w) (bodyPost Tryz.prog Tryz.f54 post)) a w:=by
 refine zbD 0 kr kr (fun n a' w'=>∃ j s neg' l' e',l'.length+1=n∧j+l'.length≤400∧parP 401 (intN 0) neg l 0=parP (401 - j) s neg' l' e'∧Ok s∧BN (1+811 * j) s∧St fqN (fqS rn neg') a'∧MemOk X rn (fqM l' e' s) w') (l.length+1)
  ⟨0,intN 0,neg,l,0,rfl,by omega,rfl,zaW 0,(BN.int (Bd.zero _) (by omega)),hS,hM⟩ ?_
 clear hS hM
 rintro n a2 w2 ⟨j,s,neg',l',e',rfl,hj,hpar,os,bs,hS2,hM2⟩
 refine zaA ?_
 obtain ⟨f,hf⟩:∃ f,401 - j=f+1:=⟨400 - j,by omega⟩
 rw [hf] at hpar
 refine zoI X rn f s neg' l' e' a2 w2 post j hj hS2 hM2 os bs ?_ ?_
 ·intro a' w' l'' p hpp hS3 hM3
  rw [hpp] at hpar
  rw [hpar] at hp
  exact zbP (zam (zsa X rn a' w' l'' p.2 p.1 post hS3 hM3 hp))
 ·intro a' w' neg'' l'' e'' s' hpp hlt hS3 hM3 os' bs'
  refine ⟨l''.length+1,by omega,j+1,s',neg'',l'',e'',rfl,by omega,?_,os',bs',hS3,hM3⟩
  rw [hpar,hpp,show 401 - (j+1)=f by omega]
theorem ziA (l:List UInt8) (w:World) (hl:400<l.length):Calls Tryz.prog 54 #[.string ⟨l.toArray⟩] w (RetV (.tuple #[vZ,.int .i64 3]) w):=by
 have h:decide ((400:Int)<((ByteArray.mk l.toArray).size:Int))=true:=decide_eq_true (by rw [zaq];omega)
 exact zac kr Tryz.func54 rfl [.string ⟨l.toArray⟩] nle [] [(.p _ true h)] []
theorem zlh (q:List UInt8) (w:World) (hl:(45 :: q).length≤400):Calls Tryz.prog 54 #[.string ⟨(45 :: q).toArray⟩] w (RetV (resV (parP 401 (intN 0) true q 0)) w):=by
 have h:decide ((400:Int)<((ByteArray.mk (45 :: q).toArray).size:Int))=false:=decide_eq_false (by rw [zaq];omega)
 have O:=fun w=>zcq 0 w (by omega) (by omega)
 have P:=fun b w hB=>zcF b q 0 w hB
 have hl2:(q).length≤400:=by
  first
  | exact hl
  | (rw [List.length_cons] at hl;omega)
 have key:∀ (rn:Nat→Nat) (hr:∀ k,k<0→rn k=0) a1 w1,St fqN (fqS rn true) a1→MemOk ⟨w,[]⟩ rn (fqM (q) 0 (intN 0)) w1→fq0.wp Tryz.prog (Exit.then (fun a2 w2=>wpL Tryz.prog (cPost 0 fqC) (bodyPost Tryz.prog Tryz.f54 (RetV (resV (parP 401 (intN 0) true q 0)) w)) a2 w2) (bodyPost Tryz.prog Tryz.f54 (RetV (resV (parP 401 (intN 0) true q 0)) w))) a1 w1 :=
  fun rn hr a1 w1 hS1 hM1=>znm ⟨w,[]⟩ rn true (q) a1 w1 (RetV (resV (parP 401 (intN 0) true q 0)) w) hl2 hS1 hM1 (fun w' hc=>⟨rfl,hc.below (Nat.le_refl _) (fun x h=>by cases h)⟩)
 refine zbp [.string ⟨(45 :: q).toArray⟩] (fn:=Tryz.f54) (c:=fqC) kr kr nle ?_
 intro a hS
 refine zaT 0 kr ?_
 unfold fqS fqM at key
 generalize hL:(45 :: q)=l0 at *
 generalize intN 0=n0 at *
 refine vf (X:=⟨w,[]⟩) [] fqN (cPre 0 fqC) (fun r=>[(0,(.string ⟨l0.toArray⟩,0))]) (fun r=>[]) 0 (fun _=>0) (hS) (⟨Chg.refl _ _,fun k x h=>(by cases h),fun k k' x x' h=>by cases h⟩) [(.p _ false h)] [cV (O),cU 7 95 (rdC l0 0) (rdC (q) 0) (fun b w hc hB=>P b w hB)] (VEx.n) (fun r=>[(2,(.pointer (some ⟨r 0,0,none⟩),1)),(4,(.pointer (some ⟨r 7,0,none⟩),8)),(5,(.pointer (some ⟨r 10,0,none⟩),11)),(6,(.bool true,0))]) [] (fun r=>[(0,(26,zcN)),(7,(95,rdC (q) 0)),(10,(26,xcN n0))]) ?_
 intro rn a1 w1 hr hS1 hK1 hM1
 exact key rn hr a1 w1 hS1 hM1
theorem zhT (l:List UInt8) (hn:∀ r,l≠45 :: r) (w:World) (hl:(l).length≤400):Calls Tryz.prog 54 #[.string ⟨(l).toArray⟩] w (RetV (resV (parP 401 (intN 0) false l 0)) w):=by
 have h:decide ((400:Int)<((ByteArray.mk (l).toArray).size:Int))=false:=decide_eq_false (by rw [zaq];omega)
 have O:=fun w=>zcq 0 w (by omega) (by omega)
 have P:=fun b w hB=>zbO b l 0 w hB hn
 have hl2:(l).length≤400:=by
  first
  | exact hl
  | (rw [List.length_cons] at hl;omega)
 have key:∀ (rn:Nat→Nat) (hr:∀ k,k<0→rn k=0) a1 w1,St fqN (fqS rn false) a1→MemOk ⟨w,[]⟩ rn (fqM (l) 0 (intN 0)) w1→fq0.wp Tryz.prog (Exit.then (fun a2 w2=>wpL Tryz.prog (cPost 0 fqC) (bodyPost Tryz.prog Tryz.f54 (RetV (resV (parP 401 (intN 0) false l 0)) w)) a2 w2) (bodyPost Tryz.prog Tryz.f54 (RetV (resV (parP 401 (intN 0) false l 0)) w))) a1 w1 :=
  fun rn hr a1 w1 hS1 hM1=>znm ⟨w,[]⟩ rn false (l) a1 w1 (RetV (resV (parP 401 (intN 0) false l 0)) w) hl2 hS1 hM1 (fun w' hc=>⟨rfl,hc.below (Nat.le_refl _) (fun x h=>by cases h)⟩)
 refine zbp [.string ⟨(l).toArray⟩] (fn:=Tryz.f54) (c:=fqC) kr kr nle ?_
 intro a hS
 refine zaT 0 kr ?_
 unfold fqS fqM at key
 generalize hL:(l)=l0 at *
 generalize intN 0=n0 at *
 refine vf (X:=⟨w,[]⟩) [] fqN (cPre 0 fqC) (fun r=>[(0,(.string ⟨l0.toArray⟩,0))]) (fun r=>[]) 0 (fun _=>0) (hS) (⟨Chg.refl _ _,fun k x h=>(by cases h),fun k k' x x' h=>by cases h⟩) [(.p _ false h)] [cV (O),cU 7 95 (rdC l0 0) (rdC (l0) 0) (fun b w hc hB=>P b w hB)] (VEx.n) (fun r=>[(2,(.pointer (some ⟨r 0,0,none⟩),1)),(4,(.pointer (some ⟨r 7,0,none⟩),8)),(5,(.pointer (some ⟨r 10,0,none⟩),11)),(6,(.bool false,0))]) [] (fun r=>[(0,(26,zcN)),(7,(95,rdC (l0) 0)),(10,(26,xcN n0))]) ?_
 intro rn a1 w1 hr hS1 hK1 hM1
 exact key rn hr a1 w1 hS1 hM1
theorem zdl (l:List UInt8) (w:World):Calls Tryz.prog 54 #[.string ⟨l.toArray⟩] w (RetV (resV (parF l)) w):=by
 unfold parF
 by_cases h:400<l.length
 ·rw [if_pos h]
  exact ziA l w h
 ·rw [if_neg h]
  cases l with
  | nil=>exact zhT [] (fun _ h=>by cases h) w (by simp)
  | cons c r =>
   unfold sgnL
   simp only
   by_cases hc:c=45
   ·subst hc
    rw [if_pos rfl]
    exact zlh r w (by omega)
   ·rw [if_neg hc]
    exact zhT (c :: r) (fun _ h=>by injection h with h _;exact hc h) w (by omega)
end Go.Proofs.YtegnalgjjmpcmaaGreatDoor
