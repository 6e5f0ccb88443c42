/- The reference's field: opposites, sums, products, differences. -/
import Derived.Test.YtegnalgjjmpcmaaGreatDoorPFFieT
namespace Go.Proofs.YtegnalgjjmpcmaaGreatDoor
open Go Go.RowKit
set_option maxRecDepth 100000
set_option linter.unusedVariables false
set_option linter.unusedSimpArgs false
theorem zkM (r:Rw) (w:World) (hs:smallR 80000000 r) (h:okR r=false):Calls Tryz.prog 57 #[vR r] w (RetV (.bool false) w):=by
 have:=zfa r w hs
 rwa [h] at this
theorem zll (x:Nm) (w:World) (hb:BN 80000000 x) (h:Ok x):Calls Tryz.prog 30 #[vN x] w (RetV (vN (negN x)) w):=by
 have V:=fun w=>zbu x w hb h
 have N0:=fun w=>zck x.c0 w
 have N1:=fun w=>zck x.c1 w
 have N2:=fun w=>zck x.c2 w
 have N3:=fun w=>zck x.c3 w
 unfold negN
 exact zac kr Tryz.func30 rfl [.agg #[.bool (sg x.c0),.string (mg x.c0),.bool (sg x.c1),.string (mg x.c1),.bool (sg x.c2),.string (mg x.c2),.bool (sg x.c3),.string (mg x.c3),.bool (sg x.d),.string (mg x.d)]] nle [] [.f,.t,.t,.t,.t,.f] [cV (V),cV (N0),cV (N1),cV (N2),cV (N3)]
def z5f (a b c d e:Int) (i:Nat):Int:=match i with
 | 0=>a
 | 1=>b
 | 2=>c
 | 3=>d
 | _=>e
end Go.Proofs.YtegnalgjjmpcmaaGreatDoor
