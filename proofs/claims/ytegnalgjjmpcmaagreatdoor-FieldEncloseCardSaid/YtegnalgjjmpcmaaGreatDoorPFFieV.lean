/- The reference's field: signs, comparisons, absolute values; what is answered for numbers that are not valid. -/
import Derived.Test.YtegnalgjjmpcmaaGreatDoorPFFieU
namespace Go.Proofs.YtegnalgjjmpcmaaGreatDoor
open Go Go.RowKit
set_option maxRecDepth 100000
set_option linter.unusedVariables false
set_option linter.unusedSimpArgs false
def rZ:Rw:=⟨false,⟨#[]⟩,false,⟨#[]⟩,false,⟨#[]⟩,false,⟨#[]⟩,false,⟨#[]⟩⟩
theorem zcV (x:Int) (h:x=0) (p q:Operand) (w:World):(eqT .eql 23 p q (vI x) (.agg #[.bool false,.string ⟨#[]⟩])).run Tryz.prog w = .ok (.bool true) w:=by
 rw [← zaQ,h];exact zcn 0 p q w
theorem zha (x:Int) (h:x≠0) (p q:Operand) (w:World):(eqT .eql 23 p q (vI x) (.agg #[.bool false,.string ⟨#[]⟩])).run Tryz.prog w = .ok (.bool false) w:=by
 rw [← zaQ];exact zcx x 0 h p q w
theorem zds (x:Nm) (w:World) (hx:BN 80000000 x) (ox:Ok x):Calls Tryz.prog 74 #[vN x] w (RetV (.bool (ratB x)) w):=by
 have V:=fun w=>zbu x w hx ox
 unfold ratB
 by_cases h1:x.c1=0
 ·rw [decide_eq_true h1]
  by_cases h2:x.c2=0
  ·rw [decide_eq_true h2]
   by_cases h3:x.c3=0
   ·rw [decide_eq_true h3]
    exact zac kr Tryz.func74 rfl [.agg #[.bool (sg x.c0),.string (mg x.c0),.bool (sg x.c1),.string (mg x.c1),.bool (sg x.c2),.string (mg x.c2),.bool (sg x.c3),.string (mg x.c3),.bool (sg x.d),.string (mg x.d)]] nle [(1,7),(1,14),(1,21)] [.t,.t,.t,.t,.t,.t,.t,.t,.t,.t,.t,.t,.t,.t,.t,.t,.t,.t] [cV (V),lV _ (.bool true) (fun w hC=>zcV x.c1 h1 (.tmp 8) (.tmp 9) w),lV _ (.bool true) (fun w hC=>zcV x.c2 h2 (.tmp 15) (.tmp 16) w),lV _ (.bool true) (fun w hC=>zcV x.c3 h3 (.tmp 22) (.tmp 23) w)]
   ·rw [decide_eq_false h3]
    exact zac kr Tryz.func74 rfl [.agg #[.bool (sg x.c0),.string (mg x.c0),.bool (sg x.c1),.string (mg x.c1),.bool (sg x.c2),.string (mg x.c2),.bool (sg x.c3),.string (mg x.c3),.bool (sg x.d),.string (mg x.d)]] nle [(1,7),(1,14),(1,21)] [.t,.t,.t,.t,.t,.t,.t,.t,.t,.t,.t,.t,.t,.t,.t,.t,.t,.t] [cV (V),lV _ (.bool true) (fun w hC=>zcV x.c1 h1 (.tmp 8) (.tmp 9) w),lV _ (.bool true) (fun w hC=>zcV x.c2 h2 (.tmp 15) (.tmp 16) w),lV _ (.bool false) (fun w hC=>zha x.c3 h3 (.tmp 22) (.tmp 23) w)]
  ·rw [decide_eq_false h2]
   exact zac kr Tryz.func74 rfl [.agg #[.bool (sg x.c0),.string (mg x.c0),.bool (sg x.c1),.string (mg x.c1),.bool (sg x.c2),.string (mg x.c2),.bool (sg x.c3),.string (mg x.c3),.bool (sg x.d),.string (mg x.d)]] nle [(1,7),(1,14)] [.t,.t,.t,.t,.t,.t,.t,.t,.t,.t,.t,.t,.f,.f,.f,.f,.f,.f] [cV (V),lV _ (.bool true) (fun w hC=>zcV x.c1 h1 (.tmp 8) (.tmp 9) w),lV _ (.bool false) (fun w hC=>zha x.c2 h2 (.tmp 15) (.tmp 16) w)]
 ·rw [decide_eq_false h1]
  exact zac kr Tryz.func74 rfl [.agg #[.bool (sg x.c0),.string (mg x.c0),.bool (sg x.c1),.string (mg x.c1),.bool (sg x.c2),.string (mg x.c2),.bool (sg x.c3),.string (mg x.c3),.bool (sg x.d),.string (mg x.d)]] nle [(1,7)] [.t,.t,.t,.t,.t,.t,.f,.f,.f,.f,.f,.f,.f,.f,.f,.f,.f,.f] [cV (V),lV _ (.bool false) (fun w hC=>zha x.c1 h1 (.tmp 8) (.tmp 9) w)]
end Go.Proofs.YtegnalgjjmpcmaaGreatDoor
