/- FieldText: printing and parsing numbers. -/
import Derived.Test.YtegnalgjjmpcmaaGreatDoorPUU
import Derived.Test.YtegnalgjjmpcmaaGreatDoorPUK
namespace Go.Proofs.YtegnalgjjmpcmaaGreatDoor
open Go Go.RowKit
set_option maxRecDepth 100000
set_option linter.unusedVariables false
set_option linter.unusedSimpArgs false
theorem zlx (r:Rw) (w:World) (hs:smallR 80000000 r) (h:okR r=false):Calls Tryz.prog 53 #[vR r] w (RetV (.string ⟨#[]⟩) w):=by
 have V:=fun w=>zlC r w hs h
 exact zac kr Tryz.func53 rfl [vR r] nle [] [.t] [cV (V)]
theorem zm0 (r:Rw) (w:World) (hs:smallR 80000000 r) (h:okR r=false):Calls Tryz.prog 56 #[vR r] w (RetV (.string ⟨#[]⟩) w):=by
 have V:=fun w=>zhE r w hs h
 exact zac kr Tryz.func56 rfl [vR r] nle [] [.t] [cV (V)]
theorem zsl (u:Rw) (l:List UInt8) (w:World) (HAW:∀ W,Below w.heap.size w W→Calls Tryz.prog 46 #[] W (RetV (.bool true) W)) (h:rawB u=false):Calls Tryz.prog 10 #[vR u,.string ⟨l.toArray⟩] w (RetV (.bool true) w):=by
 have R:=fun b w hB=>zbS u b w hB
 rw [h] at R
 exact zac kr Tryz.func10 rfl [vR u,.string ⟨l.toArray⟩] nle [] [.f,.t,.t,.t,.t,.t] [cW (fun w' hc=>HAW w' (Chg.bl0 hc)),cU 5 26 (cells1 u) (cells1 u) (fun b w hc hB=>R b w hB)]
theorem zrd (u:Rw) (l:List UInt8) (w:World) (HAW:∀ W,Below w.heap.size w W→Calls Tryz.prog 46 #[] W (RetV (.bool true) W)) (h:rawB u=true) (hl:450<l.length):Calls Tryz.prog 10 #[vR u,.string ⟨l.toArray⟩] w (RetV (.bool true) w):=by
 have R:=fun b w hB=>zbS u b w hB
 rw [h] at R
 have g:decide ((450:Int)<((ByteArray.mk l.toArray).size:Int))=true:=decide_eq_true (by rw [zaq];omega)
 exact zac kr Tryz.func10 rfl [vR u,.string ⟨l.toArray⟩] nle [] [.f,.f,.f,.f,.f,(.p _ true g)] [cW (fun w' hc=>HAW w' (Chg.bl0 hc)),cU 5 26 (cells1 u) (cells1 u) (fun b w hc hB=>R b w hB)]
theorem zsj (u:Rw) (l p:List UInt8) (v:Nm) (w:World) (HAW:∀ W,Below w.heap.size w W→Calls Tryz.prog 46 #[] W (RetV (.bool true) W)) (h:rawB u=true) (hl:l.length≤450)
  (F1:∀ w',Chg [] w w'→Calls Tryz.prog 53 #[vR u] w' (RetV (.string ⟨p.toArray⟩) w')) (G1:∀ w,Calls Tryz.prog 56 #[vR u] w (RetV (.string ⟨p.toArray⟩) w))
  (F2:∀ w,Calls Tryz.prog 54 #[.string ⟨l.toArray⟩] w (RetV (.tuple #[vN v,.int .i64 0]) w)) (G2:∀ w,Calls Tryz.prog 55 #[.string ⟨l.toArray⟩] w (RetV (.tuple #[vN v,.int .i64 0]) w))
  (V:∀ w,Calls Tryz.prog 57 #[vR u] w (RetV (.bool false) w)) (F3:∀ w,Calls Tryz.prog 54 #[.string ⟨p.toArray⟩] w (RetV (.tuple #[vZ,.int .i64 4]) w)) :
  Calls Tryz.prog 10 #[vR u,.string ⟨l.toArray⟩] w (RetV (.bool true) w):=by
 have R:=fun b w hB=>zbS u b w hB
 rw [h] at R
 have g:decide ((450:Int)<((ByteArray.mk l.toArray).size:Int))=false:=decide_eq_false (by rw [zaq];omega)
 have hp:((ByteArray.mk p.toArray).toList == (ByteArray.mk p.toArray).toList)=true:=by simp
 skip
 exact zac kr Tryz.func10 rfl [vR u,.string ⟨l.toArray⟩] nle [(9,7)] [.f,.f,.f,.f,.f,(.p _ false g),(.p _ true hp),(.p _ true hp),(.p _ true hp),(.p _ true hp),.t,.t,.t,.t,.t,.t,.t,.t,.t,.t,.t,.t,.t,.t,.t,.t,.t,.u,.u,.u,.t,.t,.t,.t] [cW (fun w' hc=>HAW w' (Chg.bl0 hc)),cU 5 26 (cells1 u) (cells1 u) (fun b w hc hB=>R b w hB),cW F1,cV (F2),cV (G2),cV (F3),cV (G1),lV _ (.bool true) (fun w hC=>zdo (v) (.tmp 45) (.tmp 46) w),cV (V)]
theorem zsr (u:Rw) (l p:List UInt8) (v:Nm) (w:World) (HAW:∀ W,Below w.heap.size w W→Calls Tryz.prog 46 #[] W (RetV (.bool true) W)) (h:rawB u=true) (hl:l.length≤450)
  (F1:∀ w',Chg [] w w'→Calls Tryz.prog 53 #[vR u] w' (RetV (.string ⟨p.toArray⟩) w')) (G1:∀ w,Calls Tryz.prog 56 #[vR u] w (RetV (.string ⟨p.toArray⟩) w))
  (F2:∀ w,Calls Tryz.prog 54 #[.string ⟨l.toArray⟩] w (RetV (.tuple #[vN v,.int .i64 0]) w)) (G2:∀ w,Calls Tryz.prog 55 #[.string ⟨l.toArray⟩] w (RetV (.tuple #[vN v,.int .i64 0]) w))
  (V:∀ w,Calls Tryz.prog 57 #[vR u] w (RetV (.bool true) w)) (hpl:400<p.length) (F3:∀ w,Calls Tryz.prog 54 #[.string ⟨p.toArray⟩] w (RetV (.tuple #[vZ,.int .i64 3]) w)) :
  Calls Tryz.prog 10 #[vR u,.string ⟨l.toArray⟩] w (RetV (.bool true) w):=by
 have R:=fun b w hB=>zbS u b w hB
 rw [h] at R
 have g:decide ((450:Int)<((ByteArray.mk l.toArray).size:Int))=false:=decide_eq_false (by rw [zaq];omega)
 have g4:decide ((400:Int)<((ByteArray.mk p.toArray).size:Int))=true:=decide_eq_true (by rw [zaq];omega)
 have hp:((ByteArray.mk p.toArray).toList == (ByteArray.mk p.toArray).toList)=true:=by simp
 skip
 exact zac kr Tryz.func10 rfl [vR u,.string ⟨l.toArray⟩] nle [(9,7)] [.f,.f,.f,.f,.f,(.p _ false g),(.p _ true hp),(.p _ true hp),(.p _ true hp),(.p _ true hp),.t,.t,.t,.t,.t,.t,.t,.t,.f,.f,.f,.t,.f,.t,(.p _ true g4),(.p _ true g4),(.p _ true g4),.u,.u,.u,(.p _ true g4),.t,(.p _ true g4),.t] [cW (fun w' hc=>HAW w' (Chg.bl0 hc)),cU 5 26 (cells1 u) (cells1 u) (fun b w hc hB=>R b w hB),cW F1,cV (F2),cV (G2),cV (F3),cV (G1),lV _ (.bool true) (fun w hC=>zdo (v) (.tmp 45) (.tmp 46) w),cV (V)]
theorem zsv (x:Nm) (l p:List UInt8) (v:Nm) (w:World) (HAW:∀ W,Below w.heap.size w W→Calls Tryz.prog 46 #[] W (RetV (.bool true) W)) (h:rawB (rwN x)=true) (hl:l.length≤450)
  (F1:∀ w',Chg [] w w'→Calls Tryz.prog 53 #[vN x] w' (RetV (.string ⟨p.toArray⟩) w')) (G1:∀ w,Calls Tryz.prog 56 #[vN x] w (RetV (.string ⟨p.toArray⟩) w))
  (F2:∀ w,Calls Tryz.prog 54 #[.string ⟨l.toArray⟩] w (RetV (.tuple #[vN v,.int .i64 0]) w)) (G2:∀ w,Calls Tryz.prog 55 #[.string ⟨l.toArray⟩] w (RetV (.tuple #[vN v,.int .i64 0]) w))
  (V:∀ w,Calls Tryz.prog 57 #[vN x] w (RetV (.bool true) w)) (hpl:p.length≤400) (F3:∀ w,Calls Tryz.prog 54 #[.string ⟨p.toArray⟩] w (RetV (.tuple #[vN x,.int .i64 0]) w)) :
  Calls Tryz.prog 10 #[vN x,.string ⟨l.toArray⟩] w (RetV (.bool true) w):=by
 have R:=fun b w hB=>zbS (rwN x) b w hB
 rw [h] at R
 have g:decide ((450:Int)<((ByteArray.mk l.toArray).size:Int))=false:=decide_eq_false (by rw [zaq];omega)
 have g4:decide ((400:Int)<((ByteArray.mk p.toArray).size:Int))=false:=decide_eq_false (by rw [zaq];omega)
 have hp:((ByteArray.mk p.toArray).toList == (ByteArray.mk p.toArray).toList)=true:=by simp
 skip
 exact zac kr Tryz.func10 rfl [vN x,.string ⟨l.toArray⟩] nle [(9,7),(9,29)] [.f,.f,.f,.f,.f,(.p _ false g),(.p _ true hp),(.p _ true hp),(.p _ true hp),(.p _ true hp),.t,.t,.t,.t,.t,.t,.t,.t,.f,.f,.f,.t,.f,.t,(.p _ false g4),(.p _ false g4),(.p _ false g4),.t,.t,.t,(.p _ false g4),.t,.t,(.p _ false g4),.t] [cW (fun w' hc=>HAW w' (Chg.bl0 hc)),cU 5 26 (cells1 (rwN x)) (cells1 (rwN x)) (fun b w hc hB=>R b w hB),cW F1,cV (F2),cV (G2),cV (F3),cV (G1),lV _ (.bool true) (fun w hC=>zdo (v) (.tmp 45) (.tmp 46) w),cV (V),lV _ (.bool true) (fun w hC=>zdo (x) (.tmp 67) (.tmp 68) w)]
theorem zss (u:Rw) (l p:List UInt8) (e:Int) (w:World) (HAW:∀ W,Below w.heap.size w W→Calls Tryz.prog 46 #[] W (RetV (.bool true) W)) (h:rawB u=true) (hl:l.length≤450)
  (F1:∀ w',Chg [] w w'→Calls Tryz.prog 53 #[vR u] w' (RetV (.string ⟨p.toArray⟩) w')) (G1:∀ w,Calls Tryz.prog 56 #[vR u] w (RetV (.string ⟨p.toArray⟩) w))
  (F2:∀ w,Calls Tryz.prog 54 #[.string ⟨l.toArray⟩] w (RetV (.tuple #[vZ,.int .i64 e]) w)) (G2:∀ w,Calls Tryz.prog 55 #[.string ⟨l.toArray⟩] w (RetV (.tuple #[vZ,.int .i64 e]) w))
  (V:∀ w,Calls Tryz.prog 57 #[vR u] w (RetV (.bool false) w)) (F3:∀ w,Calls Tryz.prog 54 #[.string ⟨p.toArray⟩] w (RetV (.tuple #[vZ,.int .i64 4]) w)) :
  Calls Tryz.prog 10 #[vR u,.string ⟨l.toArray⟩] w (RetV (.bool true) w):=by
 have R:=fun b w hB=>zbS u b w hB
 rw [h] at R
 have g:decide ((450:Int)<((ByteArray.mk l.toArray).size:Int))=false:=decide_eq_false (by rw [zaq];omega)
 have hp:((ByteArray.mk p.toArray).toList == (ByteArray.mk p.toArray).toList)=true:=by simp
 have he:(e == e)=true:=by simp
 exact zac kr Tryz.func10 rfl [vR u,.string ⟨l.toArray⟩] nle [] [.f,.f,.f,.f,.f,(.p _ false g),(.p _ true hp),(.p _ true hp),(.p _ true hp),(.p _ true hp),.t,.t,.t,.t,(.p _ true he),(.p _ true he),(.p _ true he),(.p _ true he),.t,.t,.t,(.p _ true he),.t,(.p _ true he),.t,.t,.t,.u,.u,.u,.t,(.p _ true he),.t,(.p _ true he)] [cW (fun w' hc=>HAW w' (Chg.bl0 hc)),cU 5 26 (cells1 u) (cells1 u) (fun b w hc hB=>R b w hB),cW F1,cV (F2),cV (G2),cV (F3),cV (G1),cV (V)]
theorem zsn (u:Rw) (l p:List UInt8) (e:Int) (w:World) (HAW:∀ W,Below w.heap.size w W→Calls Tryz.prog 46 #[] W (RetV (.bool true) W)) (h:rawB u=true) (hl:l.length≤450)
  (F1:∀ w',Chg [] w w'→Calls Tryz.prog 53 #[vR u] w' (RetV (.string ⟨p.toArray⟩) w')) (G1:∀ w,Calls Tryz.prog 56 #[vR u] w (RetV (.string ⟨p.toArray⟩) w))
  (F2:∀ w,Calls Tryz.prog 54 #[.string ⟨l.toArray⟩] w (RetV (.tuple #[vZ,.int .i64 e]) w)) (G2:∀ w,Calls Tryz.prog 55 #[.string ⟨l.toArray⟩] w (RetV (.tuple #[vZ,.int .i64 e]) w))
  (V:∀ w,Calls Tryz.prog 57 #[vR u] w (RetV (.bool true) w)) (hpl:400<p.length) (F3:∀ w,Calls Tryz.prog 54 #[.string ⟨p.toArray⟩] w (RetV (.tuple #[vZ,.int .i64 3]) w)) :
  Calls Tryz.prog 10 #[vR u,.string ⟨l.toArray⟩] w (RetV (.bool true) w):=by
 have R:=fun b w hB=>zbS u b w hB
 rw [h] at R
 have g:decide ((450:Int)<((ByteArray.mk l.toArray).size:Int))=false:=decide_eq_false (by rw [zaq];omega)
 have g4:decide ((400:Int)<((ByteArray.mk p.toArray).size:Int))=true:=decide_eq_true (by rw [zaq];omega)
 have hp:((ByteArray.mk p.toArray).toList == (ByteArray.mk p.toArray).toList)=true:=by simp
 have he:(e == e)=true:=by simp
 exact zac kr Tryz.func10 rfl [vR u,.string ⟨l.toArray⟩] nle [] [.f,.f,.f,.f,.f,(.p _ false g),(.p _ true hp),(.p _ true hp),(.p _ true hp),(.p _ true hp),.t,.t,.t,.t,(.p _ true he),(.p _ true he),(.p _ true he),(.p _ true he),.f,.f,.f,(.p _ true he),.f,(.p _ true he),(.p _ true g4),(.p _ true g4),(.p _ true g4),.u,.u,.u,(.p _ true g4),(.p _ true he),(.p _ true g4),(.p _ true he)] [cW (fun w' hc=>HAW w' (Chg.bl0 hc)),cU 5 26 (cells1 u) (cells1 u) (fun b w hc hB=>R b w hB),cW F1,cV (F2),cV (G2),cV (F3),cV (G1),cV (V)]
theorem zsB (x:Nm) (l p:List UInt8) (e:Int) (w:World) (HAW:∀ W,Below w.heap.size w W→Calls Tryz.prog 46 #[] W (RetV (.bool true) W)) (h:rawB (rwN x)=true) (hl:l.length≤450)
  (F1:∀ w',Chg [] w w'→Calls Tryz.prog 53 #[vN x] w' (RetV (.string ⟨p.toArray⟩) w')) (G1:∀ w,Calls Tryz.prog 56 #[vN x] w (RetV (.string ⟨p.toArray⟩) w))
  (F2:∀ w,Calls Tryz.prog 54 #[.string ⟨l.toArray⟩] w (RetV (.tuple #[vZ,.int .i64 e]) w)) (G2:∀ w,Calls Tryz.prog 55 #[.string ⟨l.toArray⟩] w (RetV (.tuple #[vZ,.int .i64 e]) w))
  (V:∀ w,Calls Tryz.prog 57 #[vN x] w (RetV (.bool true) w)) (hpl:p.length≤400) (F3:∀ w,Calls Tryz.prog 54 #[.string ⟨p.toArray⟩] w (RetV (.tuple #[vN x,.int .i64 0]) w)) :
  Calls Tryz.prog 10 #[vN x,.string ⟨l.toArray⟩] w (RetV (.bool true) w):=by
 have R:=fun b w hB=>zbS (rwN x) b w hB
 rw [h] at R
 have g:decide ((450:Int)<((ByteArray.mk l.toArray).size:Int))=false:=decide_eq_false (by rw [zaq];omega)
 have g4:decide ((400:Int)<((ByteArray.mk p.toArray).size:Int))=false:=decide_eq_false (by rw [zaq];omega)
 have hp:((ByteArray.mk p.toArray).toList == (ByteArray.mk p.toArray).toList)=true:=by simp
 have he:(e == e)=true:=by simp
 exact zac kr Tryz.func10 rfl [vN x,.string ⟨l.toArray⟩] nle [(9,29)] [.f,.f,.f,.f,.f,(.p _ false g),(.p _ true hp),(.p _ true hp),(.p _ true hp),(.p _ true hp),.t,.t,.t,.t,(.p _ true he),(.p _ true he),(.p _ true he),(.p _ true he),.f,.f,.f,(.p _ true he),.f,(.p _ true he),(.p _ false g4),(.p _ false g4),(.p _ false g4),.t,.t,.t,(.p _ false g4),.t,(.p _ true he),(.p _ false g4),(.p _ true he)] [cW (fun w' hc=>HAW w' (Chg.bl0 hc)),cU 5 26 (cells1 (rwN x)) (cells1 (rwN x)) (fun b w hc hB=>R b w hB),cW F1,cV (F2),cV (G2),cV (F3),cV (G1),cV (V),lV _ (.bool true) (fun w hC=>zdo (x) (.tmp 67) (.tmp 68) w)]
theorem znT (w:World) (ht:HasTab w):Calls Tryz.prog 46 #[] w (RetV (.bool true) w):=by
 have R2:=fun w=>zc4 2 w
 have R3:=fun w=>zc4 3 w
 have O1:=fun w=>zcq 1 w (by omega) (by omega)
 have O3:=fun w=>zcq 3 w (by omega) (by omega)
 have Om:=fun w=>zc2 (-1) w (by omega) (by omega)
 have A1:=fun w=>zeQ (rootN 2) (rootN 3) w ((BN.root 2).mono (by omega)) ((BN.root 3).mono (by omega)) (zaG 2) (zaG 3)
 have D:=fun w=>zpb (intN 1) e6 w ((zjh 1 (by decide)).mono (by omega)) ((BN1 0 1 1 0 1 (by decide)).mono (by omega)) (zaW 1) (zfL _ (by decide)) (by intro h;have:=congrArg Nm.c1 h;revert this;decide)
 have A2:=fun w=>zeQ (intN 1) (rootN 2) w ((zjh 1 (by decide)).mono (by omega)) ((BN.root 2).mono (by omega)) (zaW 1) (zaG 2)
 have S:=fun w=>zjt (intN 1) (rootN 2) w ((zjh 1 (by decide)).mono (by omega)) ((BN.root 2).mono (by omega)) (zaW 1) (zaG 2)
 have M:=fun w=>zgA e7 e8 w ((BN1 1 1 0 0 1 (by decide)).mono (by omega)) ((BN1 1 (-1) 0 0 1 (by decide)).mono (by omega)) (zfL _ (by decide)) (zfL _ (by decide))
 have C:=fun w=>zo1 e6 (intN 3) w ((BN1 0 1 1 0 1 (by decide)).mono (by omega)) ((zjh 3 (by decide)).mono (by omega)) (zfL _ (by decide)) (zaW 3)
 have P:=fun w=>zdl [49,47,52,114,50,43,49,47,52,114,54] w
 rw [show resV (parF [49,47,52,114,50,43,49,47,52,114,54]) = .tuple #[vN e4,.int .i64 0] from by rw [show parF [49,47,52,114,50,43,49,47,52,114,54]=(e4,0) from by kernel_rfl];rfl] at P
 have P5:=fun w' (hc:Chg [] w w')=>zeo e5 w' (ht.below (Chg.bl0 hc)) (zfL _ (by decide)) ((BN1 0 (-1) 1 0 1 (by decide)).mono (by omega))
 have P4:=fun w' (hc:Chg [] w w')=>zeo e4 w' (ht.below (Chg.bl0 hc)) (zfL _ (by decide)) ((BN1 0 1 0 1 4 (by decide)).mono (by omega))
 rw [show printT e5 = [45,114,50,43,114,51] from by kernel_rfl] at P5
 rw [show printT e4 = [49,47,52,114,50,43,49,47,52,114,54] from by kernel_rfl] at P4
 rw [show addN (rootN 2) (rootN 3)=e6 from by kernel_rfl] at A1
 rw [show divN (intN 1) e6=e5 from by kernel_rfl] at D
 rw [show addN (intN 1) (rootN 2)=e7 from by kernel_rfl] at A2
 rw [show subN (intN 1) (rootN 2)=e8 from by kernel_rfl] at S
 rw [show mulN e7 e8=intN (-1) from by kernel_rfl] at M
 rw [show cmpK e6 (intN 3)=1 from by kernel_rfl] at C
 generalize e4=e4 at *
 generalize e5=e5 at *
 generalize e6=e6 at *
 generalize e7=e7 at *
 generalize e8=e8 at *
 generalize intN 1=n1 at *
 generalize intN 3=n3 at *
 generalize intN (-1)=nm at *
 generalize rootN 2=r2 at *
 generalize rootN 3=r3 at *
 exact zac kr Tryz.func46 rfl [] nle [(5,14)] [.t,.t,.t,.t,.t,.t,.t,.t,.t,.t,.t,.t,.t,.t,.t,.t,.t,.t,.t,.t] [cV (R2),cV (R3),cV (A1),cV (O1),cV (D),cV (O1),cV (R2),cV (A2),cV (O1),cV (R2),cV (S),cV (M),cV (P),cW P5,cV (Om),lV _ (.bool true) (fun w hC=>zdo (nm) (.tmp 39) (.tmp 40) w),cV (O3),cV (C),cW P4]
theorem zn1:resV (parF []) = .tuple #[vZ,.int .i64 4]:=by
 have h:(parF []).2=4:=by decide +kernel
 unfold resV
 rw [if_neg (by rw [h];decide),h]
theorem zqJ (u:Rw) (l:List UInt8) (w:World) (ht:HasTab w):Calls Tryz.prog 10 #[vR u,.string ⟨l.toArray⟩] w (RetV (.bool true) w):=by
 have HAW:∀ W,Below w.heap.size w W→Calls Tryz.prog 46 #[] W (RetV (.bool true) W):=fun W h=>znT W (ht.below h)
 cases hr:rawB u with
 | false=>exact zsl u l w HAW hr
 | true =>
  by_cases hl:450<l.length
  ·exact zrd u l w HAW hr hl
  ·have hl':l.length≤450:=by omega
   have su:=(zfO hr).mono (show 20≤80000000 by omega)
   have F2:=fun w=>zdl l w
   have G2:=fun w=>zkp l w
   generalize hq:parF l=q at F2 G2
   obtain ⟨v,e⟩:=q
   clear hq
   cases hu:okR u with
   | false =>
    have F3:=fun w=>zdl [] w
    rw [zn1] at F3
    have F1:=fun w' (hc:Chg [] w w')=>zlx u w' su hu
    have G1:=fun w=>zm0 u w su hu
    have V:=fun w=>zhE u w su hu
    by_cases he:e=0
    ·subst he
     exact zsj u l [] v w HAW hr hl' F1 G1 F2 G2 V F3
    ·have er:resV (v,e) = .tuple #[vZ,.int .i64 e]:=if_neg he
     rw [er] at F2 G2
     exact zss u l [] e w HAW hr hl' F1 G1 F2 G2 V F3
   | true =>
    obtain ⟨x,rfl,ox,bx⟩:=zoi hr hu
    have F1:=fun w' (hc:Chg [] w w')=>zeo x w' (ht.below (Chg.bl0 hc)) ox bx
    have G1:=fun w=>zkq x w ox bx
    have V:=fun w=>zaF x w (bx.mono (by omega)) ox
    have F3:=fun w=>zdl (printT x) w
    by_cases hp:400<(printT x).length
    ·have e3:resV (parF (printT x)) = .tuple #[vZ,.int .i64 3]:=by
      unfold parF
      rw [if_pos hp]
      exact if_neg (show ¬ ((3:Int)=0) by decide)
     rw [e3] at F3
     by_cases he:e=0
     ·subst he
      exact zsr _ l (printT x) v w HAW hr hl' F1 G1 F2 G2 V hp F3
     ·have er:resV (v,e) = .tuple #[vZ,.int .i64 e]:=if_neg he
      rw [er] at F2 G2
      exact zsn _ l (printT x) e w HAW hr hl' F1 G1 F2 G2 V hp F3
    ·rw [zj9 x ox bx (by omega)] at F3
     by_cases he:e=0
     ·subst he
      exact zsv x l (printT x) v w HAW hr hl' F1 G1 F2 G2 V (by omega) F3
     ·have er:resV (v,e) = .tuple #[vZ,.int .i64 e]:=if_neg he
      rw [er] at F2 G2
      exact zsB x l (printT x) e w HAW hr hl' F1 G1 F2 G2 V (by omega) F3
theorem zrJ (u:Rw) (s:ByteArray) (w:World) (ht:HasTab w):Calls Tryz.prog 10 #[vR u,.string s] w (RetV (.bool true) w):=by
 obtain ⟨⟨l⟩⟩:=s
 exact zqJ u l w ht
end Go.Proofs.YtegnalgjjmpcmaaGreatDoor
