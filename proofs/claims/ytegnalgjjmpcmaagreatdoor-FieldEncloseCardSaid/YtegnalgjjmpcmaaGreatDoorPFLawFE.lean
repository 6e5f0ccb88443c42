/- FieldEnclose: the enclosures of a number. -/
import Derived.Test.YtegnalgjjmpcmaaGreatDoorPFFieN
import Derived.Test.YtegnalgjjmpcmaaGreatDoorPFJ
import Derived.Test.YtegnalgjjmpcmaaGreatDoorPFK
namespace Go.Proofs.YtegnalgjjmpcmaaGreatDoor
open Go Go.RowKit
set_option maxRecDepth 100000
set_option linter.unusedVariables false
set_option linter.unusedSimpArgs false
theorem zoQ (u:Rw) (n:Int) (w:World) (HAW:∀ W,Below w.heap.size w W→Calls Tryz.prog 46 #[] W (RetV (.bool true) W)) (h:rawB u=false):Calls Tryz.prog 13 #[vR u,.int .i64 n] w (RetV (.bool true) w):=by
 have R:=fun b w hB=>zbz u b w hB
 rw [h] at R
 exact zac kr Tryz.func13 rfl [vR u,.int .i64 n] nle [] [.f,.t,.t,.t,.u,.u,.t,.t,.t] [cW (fun w' hc=>HAW w' (Chg.bl0 hc)),cU 5 26 (cells1 u) (cells1 u) (fun b w hc hB=>R b w hB)]
theorem zmQ (u:Rw) (n:Int) (w:World) (HAW:∀ W,Below w.heap.size w W→Calls Tryz.prog 46 #[] W (RetV (.bool true) W)) (h:rawB u=true) (h0:60<n) (h1:n≤1000):Calls Tryz.prog 13 #[vR u,.int .i64 n] w (RetV (.bool true) w):=by
 have R:=fun b w hB=>zbz u b w hB
 rw [h] at R
 have g0:decide (60<n)=true:=decide_eq_true h0
 have g1:decide (n≤1000)=true:=decide_eq_true h1
 exact zac kr Tryz.func13 rfl [vR u,.int .i64 n] nle [] [.f,.f,.f,.f,(.p _ true g0),(.p _ true g0),.f,(.p _ true g0),.f,(.p _ true g1)] [cW (fun w' hc=>HAW w' (Chg.bl0 hc)),cU 5 26 (cells1 u) (cells1 u) (fun b w hc hB=>R b w hB)]
theorem zoW (u:Rw) (n lo hi:Int) (w:World) (HAW:∀ W,Below w.heap.size w W→Calls Tryz.prog 46 #[] W (RetV (.bool true) W)) (h:rawB u=true) (h0:n≤60)
  (F:∀ w,Calls Tryz.prog 77 #[vR u,.int .i64 n] w (RetV (.tuple #[vI lo,vI hi,.int .i64 1]) w)) (G:∀ w,Calls Tryz.prog 78 #[vR u,.int .i64 n] w (RetV (.tuple #[vI lo,vI hi,.int .i64 1]) w)) :
  Calls Tryz.prog 13 #[vR u,.int .i64 n] w (RetV (.bool true) w):=by
 have R:=fun b w hB=>zbz u b w hB
 rw [h] at R
 have g0:decide (60<n)=false:=decide_eq_false (by omega)
 exact zac kr Tryz.func13 rfl [vR u,.int .i64 n] nle [(7,2),(7,6)] [.f,.f,.f,.f,(.p _ false g0),(.p _ false g0),.f,(.p _ false g0),.f,.f,.f,.f,.f,.f,.f,.f,.f,.f,.f,.t,.t,.t,.t,.t,.t,.t,.t,.t,.t] [cW (fun w' hc=>HAW w' (Chg.bl0 hc)),cU 5 26 (cells1 u) (cells1 u) (fun b w hc hB=>R b w hB),cV (F),cV (G),lV _ (.bool false) (fun w hC=>za2 (lo) (.tmp 39) (.tmp 40) w),lV _ (.bool false) (fun w hC=>za2 (hi) (.tmp 43) (.tmp 44) w)]
theorem zoP (u:Rw) (n lo hi:Int) (w:World) (HAW:∀ W,Below w.heap.size w W→Calls Tryz.prog 46 #[] W (RetV (.bool true) W)) (h:rawB u=true) (h0:n≤60)
  (F:∀ w,Calls Tryz.prog 77 #[vR u,.int .i64 n] w (RetV (.tuple #[vI lo,vI hi,.int .i64 2]) w)) (G:∀ w,Calls Tryz.prog 78 #[vR u,.int .i64 n] w (RetV (.tuple #[vI lo,vI hi,.int .i64 2]) w)) :
  Calls Tryz.prog 13 #[vR u,.int .i64 n] w (RetV (.bool true) w):=by
 have R:=fun b w hB=>zbz u b w hB
 rw [h] at R
 have g0:decide (60<n)=false:=decide_eq_false (by omega)
 exact zac kr Tryz.func13 rfl [vR u,.int .i64 n] nle [(7,2),(7,6)] [.f,.f,.f,.f,(.p _ false g0),(.p _ false g0),.f,(.p _ false g0),.f,.f,.f,.f,.f,.f,.f,.f,.f,.f,.f,.t,.t,.t,.t,.t,.t,.t,.t,.t,.t] [cW (fun w' hc=>HAW w' (Chg.bl0 hc)),cU 5 26 (cells1 u) (cells1 u) (fun b w hc hB=>R b w hB),cV (F),cV (G),lV _ (.bool false) (fun w hC=>za2 (lo) (.tmp 39) (.tmp 40) w),lV _ (.bool false) (fun w hC=>za2 (hi) (.tmp 43) (.tmp 44) w)]
theorem zoR (u:Rw) (n lo hi:Int) (w:World) (HAW:∀ W,Below w.heap.size w W→Calls Tryz.prog 46 #[] W (RetV (.bool true) W)) (h:rawB u=true) (h0:60<n) (h1:1000<n)
  (F:∀ w,Calls Tryz.prog 77 #[vR u,.int .i64 n] w (RetV (.tuple #[vI lo,vI hi,.int .i64 1]) w)) (G:∀ w,Calls Tryz.prog 78 #[vR u,.int .i64 n] w (RetV (.tuple #[vI lo,vI hi,.int .i64 1]) w)) :
  Calls Tryz.prog 13 #[vR u,.int .i64 n] w (RetV (.bool true) w):=by
 have R:=fun b w hB=>zbz u b w hB
 rw [h] at R
 have g0:decide (60<n)=true:=decide_eq_true h0
 have g1:decide (n≤1000)=false:=decide_eq_false (by omega)
 exact zac kr Tryz.func13 rfl [vR u,.int .i64 n] nle [(7,2),(7,6)] [.f,.f,.f,.f,(.p _ true g0),(.p _ true g0),.f,(.p _ true g0),.f,(.p _ false g1),.f,.f,.f,.f,.f,.f,.f,.f,.f,.t,.t,.t,.t,.t,.t,.t,.t,.t,.t] [cW (fun w' hc=>HAW w' (Chg.bl0 hc)),cU 5 26 (cells1 u) (cells1 u) (fun b w hc hB=>R b w hB),cV (F),cV (G),lV _ (.bool false) (fun w hC=>za2 (lo) (.tmp 39) (.tmp 40) w),lV _ (.bool false) (fun w hC=>za2 (hi) (.tmp 43) (.tmp 44) w)]
theorem zoX (u:Rw) (n lo hi:Int) (w:World) (HAW:∀ W,Below w.heap.size w W→Calls Tryz.prog 46 #[] W (RetV (.bool true) W)) (h:rawB u=true) (h0:60<n) (h1:1000<n)
  (F:∀ w,Calls Tryz.prog 77 #[vR u,.int .i64 n] w (RetV (.tuple #[vI lo,vI hi,.int .i64 2]) w)) (G:∀ w,Calls Tryz.prog 78 #[vR u,.int .i64 n] w (RetV (.tuple #[vI lo,vI hi,.int .i64 2]) w)) :
  Calls Tryz.prog 13 #[vR u,.int .i64 n] w (RetV (.bool true) w):=by
 have R:=fun b w hB=>zbz u b w hB
 rw [h] at R
 have g0:decide (60<n)=true:=decide_eq_true h0
 have g1:decide (n≤1000)=false:=decide_eq_false (by omega)
 exact zac kr Tryz.func13 rfl [vR u,.int .i64 n] nle [(7,2),(7,6)] [.f,.f,.f,.f,(.p _ true g0),(.p _ true g0),.f,(.p _ true g0),.f,(.p _ false g1),.f,.f,.f,.f,.f,.f,.f,.f,.f,.t,.t,.t,.t,.t,.t,.t,.t,.t,.t] [cW (fun w' hc=>HAW w' (Chg.bl0 hc)),cU 5 26 (cells1 u) (cells1 u) (fun b w hc hB=>R b w hB),cV (F),cV (G),lV _ (.bool false) (fun w hC=>za2 (lo) (.tmp 39) (.tmp 40) w),lV _ (.bool false) (fun w hC=>za2 (hi) (.tmp 43) (.tmp 44) w)]
theorem zoV (u:Rw) (n lo hi:Int) (w:World) (HAW:∀ W,Below w.heap.size w W→Calls Tryz.prog 46 #[] W (RetV (.bool true) W)) (h:rawB u=true) (h0:n≤60)
  (F:∀ w,Calls Tryz.prog 77 #[vR u,.int .i64 n] w (RetV (.tuple #[vI lo,vI lo,.int .i64 0]) w)) (G:∀ w,Calls Tryz.prog 78 #[vR u,.int .i64 n] w (RetV (.tuple #[vI lo,vI lo,.int .i64 0]) w)) :
  Calls Tryz.prog 13 #[vR u,.int .i64 n] w (RetV (.bool true) w):=by
 have R:=fun b w hB=>zbz u b w hB
 rw [h] at R
 have g0:decide (60<n)=false:=decide_eq_false (by omega)
 exact zac kr Tryz.func13 rfl [vR u,.int .i64 n] nle [(7,2),(7,6),(9,5)] [.f,.f,.f,.f,(.p _ false g0),(.p _ false g0),.f,(.p _ false g0),.f,.f,.f,.f,.f,.f,.f,.f,.f,.f,.f,.f,.f,.f,.f,.t,.t,.t,.t,.t,.t] [cW (fun w' hc=>HAW w' (Chg.bl0 hc)),cU 5 26 (cells1 u) (cells1 u) (fun b w hc hB=>R b w hB),cV (F),cV (G),lV _ (.bool false) (fun w hC=>za2 (lo) (.tmp 39) (.tmp 40) w),lV _ (.bool false) (fun w hC=>za2 (lo) (.tmp 43) (.tmp 44) w),lV _ (.bool true) (fun w hC=>zcn (lo) (.tmp 55) (.tmp 56) w)]
theorem zo2 (u:Rw) (n lo hi:Int) (w:World) (HAW:∀ W,Below w.heap.size w W→Calls Tryz.prog 46 #[] W (RetV (.bool true) W)) (h:rawB u=true) (h0:n≤60)
  (F:∀ w,Calls Tryz.prog 77 #[vR u,.int .i64 n] w (RetV (.tuple #[vI lo,vI hi,.int .i64 0]) w)) (G:∀ w,Calls Tryz.prog 78 #[vR u,.int .i64 n] w (RetV (.tuple #[vI lo,vI hi,.int .i64 0]) w)) (hne:lo≠hi) (S:∀ w,Calls Tryz.prog 79 #[vI hi,vI lo] w (RetI 1 w)) (O:∀ w,Calls Tryz.prog 80 #[.int .i64 1] w (RetI 1 w)) :
  Calls Tryz.prog 13 #[vR u,.int .i64 n] w (RetV (.bool true) w):=by
 have R:=fun b w hB=>zbz u b w hB
 rw [h] at R
 have g0:decide (60<n)=false:=decide_eq_false (by omega)
 exact zac kr Tryz.func13 rfl [vR u,.int .i64 n] nle [(7,2),(7,6),(9,5),(9,12)] [.f,.f,.f,.f,(.p _ false g0),(.p _ false g0),.f,(.p _ false g0),.f,.f,.f,.f,.f,.f,.f,.f,.f,.f,.f,.f,.f,.f,.f,.f,.f,.f,.f,.f,.f] [cW (fun w' hc=>HAW w' (Chg.bl0 hc)),cU 5 26 (cells1 u) (cells1 u) (fun b w hc hB=>R b w hB),cV (F),cV (G),lV _ (.bool false) (fun w hC=>za2 (lo) (.tmp 39) (.tmp 40) w),lV _ (.bool false) (fun w hC=>za2 (hi) (.tmp 43) (.tmp 44) w),lV _ (.bool false) (fun w hC=>zcx (lo) (hi) (hne) (.tmp 55) (.tmp 56) w),cV (S),cV (O),lV _ (.bool true) (fun w hC=>zcn (1) (.tmp 62) (.tmp 63) w)]
theorem zon (u:Rw) (n:Int) (w:World) (ht:HasTab w):Calls Tryz.prog 13 #[vR u,.int .i64 n] w (RetV (.bool true) w):=by
 have HAW:∀ W,Below w.heap.size w W→Calls Tryz.prog 46 #[] W (RetV (.bool true) W):=fun W h=>zi1 W (ht.below h)
 cases hr:rawB u with
 | false=>exact zoQ u n w HAW hr
 | true =>
  have su:=(zfe hr).mono (show 20≤80000000 by omega)
  cases hu:okR u with
  | false =>
   by_cases h0:n≤60
   ·exact zoW u n 0 0 w HAW hr h0 (fun w=>zeQ u n w su hu) (fun w=>zeR u n w su hu)
   ·by_cases h1:n≤1000
    ·exact zmQ u n w HAW hr (by omega) h1
    ·exact zoR u n 0 0 w HAW hr (by omega) (by omega) (fun w=>zeQ u n w su hu) (fun w=>zeR u n w su hu)
  | true =>
   obtain ⟨x,rfl,ox,bx⟩:=zlL hr hu
   by_cases h0:n≤60
   ·by_cases hn:n<0
    ·exact zoP _ n 0 0 w HAW hr h0 (fun w=>zfR x n w (bx.mono (by omega)) ox hn) (fun w=>zfY x n w (bx.mono (by omega)) ox hn)
    ·obtain ⟨k,rfl⟩:∃ k:Nat,n=(k:Int):=⟨n.toNat,by omega⟩
     have hk:k≤60:=by omega
     have oy:=zca ox (zbv ((2 ^ k:Nat):Int))
     obtain ⟨lo,hl⟩:=Fl.ex oy
     have F:=fun w=>zgj x k lo w hk (bx.mono (by omega)) ox hl
     have G:=fun w=>zgw x k lo w hk bx ox hl
     have by':=bx.mulN (BN.int ((zhw k hk).mono (show 8≤20 by omega)) (by omega)) ox.ne (zbv ((2 ^ k:Nat):Int)).ne
     have bl:Bd 100 lo:=by
      have h1:=hl.bound oy
      generalize mulN x (intN ((2 ^ k:Nat):Int))=y at *
      have e2:Bd 46 ((2:Int) * (y.c1.natAbs:Int)):=((show Bd 1 2 by unfold Bd;decide).mul (by'.h1.le (y:=(y.c1.natAbs:Int)) (by simp))).mono (by omega)
      have e3:Bd 46 ((2:Int) * (y.c2.natAbs:Int)):=((show Bd 1 2 by unfold Bd;decide).mul (by'.h2.le (y:=(y.c2.natAbs:Int)) (by simp))).mono (by omega)
      have e4:Bd 46 ((3:Int) * (y.c3.natAbs:Int)):=((show Bd 1 3 by unfold Bd;decide).mul (by'.h3.le (y:=(y.c3.natAbs:Int)) (by simp))).mono (by omega)
      have e1:Bd 46 (y.c0.natAbs:Int):=(by'.h0.le (y:=(y.c0.natAbs:Int)) (by simp)).mono (by omega)
      exact ((((e1.add e2).add (e3.mono (by omega))).add (e4.mono (by omega))).le (x:=bigN y) (y:=lo) h1).mono (by omega)
     unfold hiN at F G
     generalize mulN x (intN ((2 ^ k:Nat):Int))=y at *
     by_cases e:intN lo=y
     ·simp only [if_pos e] at F G
      exact zoV _ _ lo 0 w HAW hr h0 F G
     ·simp only [if_neg e] at F G
      have S:=fun w=>zl0 (lo+1) lo w ((bl.add (Bd.one (by omega))).mono (by omega)) (bl.mono (by omega))
      rw [show lo+1 - lo=1 by omega] at S
      exact zo2 _ _ lo (lo+1) w HAW hr h0 F G (by omega) S (fun w=>zaG 1 w (by omega) (by omega))
   ·by_cases h1:n≤1000
    ·exact zmQ _ n w HAW hr (by omega) h1
    ·exact zoX _ n 0 0 w HAW hr (by omega) (by omega) (fun w=>zfT x n w (bx.mono (by omega)) ox (by omega)) (fun w=>zgy x n w (bx.mono (by omega)) ox (by omega))
end Go.Proofs.YtegnalgjjmpcmaaGreatDoor
