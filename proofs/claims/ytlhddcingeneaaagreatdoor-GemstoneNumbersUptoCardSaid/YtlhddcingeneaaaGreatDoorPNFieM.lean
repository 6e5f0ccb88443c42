/- The reference's field: exact quotient, lowest terms, making numbers. -/
import Derived.Test.YtlhddcingeneaaaGreatDoorPNK
import Derived.Test.YtlhddcingeneaaaGreatDoorPNJ
import Derived.Test.YtlhddcingeneaaaGreatDoorPNG
import Derived.Test.YtlhddcingeneaaaGreatDoorPNI
namespace Go.Proofs.YtlhddcingeneaaaGreatDoor
open Go Go.RowKit
set_option maxRecDepth 100000
set_option linter.unusedVariables false
set_option linter.unusedSimpArgs false
theorem gover_any (x y:Int) (w:World) (hx:Bd 80000000 x) (hy:Bd 80000000 y) (h0:y≠0):Calls Tryz.prog 104 #[vI x,vI y] w (RetI (x.fdiv y) w):=by
 have H1:=fun w=>RDivMod_any x y w hx hy h0
 show Calls Tryz.prog 104 #[.agg #[.bool (sg x),.string (mg x)],.agg #[.bool (sg y),.string (mg y)]] w (RetV (vI (x.fdiv y)) w)
 exact vm_pure kr Tryz.func104 rfl [.agg #[.bool (sg x),.string (mg x)],.agg #[.bool (sg y),.string (mg y)]] nle [] [] [cV (H1)]
theorem greduced_any (x:Nm) (w:World) (h:BN 80000000 x) (hd:x.d≠0):Calls Tryz.prog 53 #[vA4 x.c0 x.c1 x.c2 x.c3,vI x.d] w (RetV (vN (low x)) w):=by
 obtain ⟨g1,hg1⟩:∃ g:Nat,g=x.d.natAbs.gcd x.c0.natAbs:=⟨_,rfl⟩
 obtain ⟨g2,hg2⟩:∃ g:Nat,g=g1.gcd x.c1.natAbs:=⟨_,rfl⟩
 obtain ⟨g3,hg3⟩:∃ g:Nat,g=g2.gcd x.c2.natAbs:=⟨_,rfl⟩
 obtain ⟨g4,hg4⟩:∃ g:Nat,g=g3.gcd x.c3.natAbs:=⟨_,rfl⟩
 have b1:=h.h4.gcd h.h0
 rw [← hg1] at b1
 have b2:=b1.gcd h.h1
 rw [Int.natAbs_natCast,← hg2] at b2
 have b3:=b2.gcd h.h2
 rw [Int.natAbs_natCast,← hg3] at b3
 have H1:=fun w=>RGcd_any x.d x.c0 w h.h4 h.h0
 have H2:=fun w=>RGcd_any (g1:Int) x.c1 w b1 h.h1
 have H3:=fun w=>RGcd_any (g2:Int) x.c2 w b2 h.h2
 have H4:=fun w=>RGcd_any (g3:Int) x.c3 w b3 h.h3
 simp only [Int.natAbs_natCast,← hg1,← hg2,← hg3,← hg4] at H1 H2 H3 H4
 have hcof:g4=cof x:=by unfold cof;rw [hg4,hg3,hg2,hg1]
 rw [hcof] at H4
 clear hg1 hg2 hg3 hg4 b1 b2 b3 hcof
 have HA:=fun w=>RAbs_any (cof x:Nat) w
 simp only [Int.natAbs_natCast] at HA
 have hS:=fun w=>RSign_any x.d w
 have hO:=fun w=>ROf_any 1 w (by omega) (by omega)
 have hc:=cof_pos hd
 have hB:=Bd.cof h
 have hne:=sgG_ne hd
 have hbG:Bd 80000000 (sgG x):=by unfold sgG;split;exact hB.neg;exact hB
 have V0:=fun w=>gover_any x.c0 (sgG x) w h.h0 hbG hne
 have V1:=fun w=>gover_any x.c1 (sgG x) w h.h1 hbG hne
 have V2:=fun w=>gover_any x.c2 (sgG x) w h.h2 hbG hne
 have V3:=fun w=>gover_any x.c3 (sgG x) w h.h3 hbG hne
 have V4:=fun w=>gover_any x.d (sgG x) w h.h4 hbG hne
 by_cases hn:x.d<0
 ·have hs:decide (x.d.sign<0)=true:=decide_eq_true (by rw [Int.sign_eq_neg_one_of_neg hn];omega)
  have hG:sgG x = -(cof x:Int):=by unfold sgG;rw [if_pos hn]
  have HN:=fun w=>RNeg_any (cof x:Nat) w
  rw [← hG] at HN
  have h1:sgG x≠1:=by omega
  unfold low
  generalize (cof x:Int)=c at *
  generalize sgG x=g at *
  show Calls Tryz.prog 53 #[vA4 x.c0 x.c1 x.c2 x.c3,.agg #[.bool (sg x.d),.string (mg x.d)]] w _
  exact vm_pure kr Tryz.func53 rfl [.agg #[.bool (sg x.c0),.string (mg x.c0),.bool (sg x.c1),.string (mg x.c1),.bool (sg x.c2),.string (mg x.c2),.bool (sg x.c3),.string (mg x.c3)],.agg #[.bool (sg x.d),.string (mg x.d)]] nle [(10,2)] [.t,.t,.t,.t,.f,(.p _ true hs),.t,.t,.t,.t,.t,.f] [cV (H1),cV (H2),cV (H3),cV (H4),cV (HA),cV (hS),cV (HN),cV (hO),lV _ (.bool true) (fun w hC=>neI_diff (g) (1) (h1) (.tmp 29) (.tmp 30) w),cV (V0),cV (V1),cV (V2),cV (V3),cV (V4)]
 ·have hs:decide (x.d.sign<0)=false:=decide_eq_false (by rw [Int.sign_eq_one_of_pos (by omega)];omega)
  have hG:sgG x=(cof x:Int):=by unfold sgG;rw [if_neg hn]
  rw [← hG] at H4 HA
  by_cases h1:sgG x=1
  ·have e:low x=x:=by unfold low;rw [h1];exact Nm.ext (fdiv_one' _) (fdiv_one' _) (fdiv_one' _) (fdiv_one' _) (fdiv_one' _)
   rw [e]
   rw [h1] at H4 HA
   show Calls Tryz.prog 53 #[vA4 x.c0 x.c1 x.c2 x.c3,.agg #[.bool (sg x.d),.string (mg x.d)]] w _
   exact vm_pure kr Tryz.func53 rfl [.agg #[.bool (sg x.c0),.string (mg x.c0),.bool (sg x.c1),.string (mg x.c1),.bool (sg x.c2),.string (mg x.c2),.bool (sg x.c3),.string (mg x.c3)],.agg #[.bool (sg x.d),.string (mg x.d)]] nle [(10,2)] [.t,.t,.t,.t,.f,(.p _ false hs),.f] [cV (H1),cV (H2),cV (H3),cV (H4),cV (HA),cV (hS),cV (hO),lV _ (.bool false) (fun w hC=>neI_same (1) (.tmp 29) (.tmp 30) w)]
  ·unfold low
   generalize sgG x=g at *
   show Calls Tryz.prog 53 #[vA4 x.c0 x.c1 x.c2 x.c3,.agg #[.bool (sg x.d),.string (mg x.d)]] w _
   exact vm_pure kr Tryz.func53 rfl [.agg #[.bool (sg x.c0),.string (mg x.c0),.bool (sg x.c1),.string (mg x.c1),.bool (sg x.c2),.string (mg x.c2),.bool (sg x.c3),.string (mg x.c3)],.agg #[.bool (sg x.d),.string (mg x.d)]] nle [(10,2)] [.t,.t,.t,.t,.f,(.p _ false hs),.t,.t,.t,.t,.t,.f] [cV (H1),cV (H2),cV (H3),cV (H4),cV (HA),cV (hS),cV (hO),lV _ (.bool true) (fun w hC=>neI_diff (g) (1) (h1) (.tmp 29) (.tmp 30) w),cV (V0),cV (V1),cV (V2),cV (V3),cV (V4)]
theorem gMake_int (x:Nm) (w:World) (h:BN 80000000 x) (hd:x.d≠0):Calls Tryz.prog 136 #[vA4 x.c0 x.c1 x.c2 x.c3,vI x.d] w (RetV (.tuple #[vN (low x),.int .i64 0]) w):=by
 have V0:=fun w=>RValid_yes x.c0 w
 have V1:=fun w=>RValid_yes x.c1 w
 have V2:=fun w=>RValid_yes x.c2 w
 have V3:=fun w=>RValid_yes x.c3 w
 have V4:=fun w=>RValid_yes x.d w
 have S:=fun w=>RSign_any x.d w
 have L:=fun w=>greduced_any x w h hd
 have hs:(x.d.sign == 0)=false:=by rw [beq_eq_false_iff_ne];exact fun e=>hd (Int.sign_eq_zero_iff_zero.1 e)
 generalize low x=l at *
 show Calls Tryz.prog 136 #[vA4 x.c0 x.c1 x.c2 x.c3,.agg #[.bool (sg x.d),.string (mg x.d)]] w _
 exact vm_pure kr Tryz.func136 rfl [.agg #[.bool (sg x.c0),.string (mg x.c0),.bool (sg x.c1),.string (mg x.c1),.bool (sg x.c2),.string (mg x.c2),.bool (sg x.c3),.string (mg x.c3)],.agg #[.bool (sg x.d),.string (mg x.d)]] nle [] [.t,.f,.t,.f,.t,.f,.t,.f,.f,.f,(.p _ false hs)] [cV (V0),cV (V1),cV (V2),cV (V3),cV (V4),cV (S),cV (L)]
end Go.Proofs.YtlhddcingeneaaaGreatDoor
