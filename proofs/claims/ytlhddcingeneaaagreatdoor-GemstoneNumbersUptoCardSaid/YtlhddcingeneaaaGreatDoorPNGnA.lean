/- Fixed-point intervals (program): floor, ceil, made, Valid, extremes, root. -/
import Derived.Test.YtlhddcingeneaaaGreatDoorPNY
import Derived.Test.YtlhddcingeneaaaGreatDoorPNK
import Derived.Test.YtlhddcingeneaaaGreatDoorPNG
import Derived.Test.YtlhddcingeneaaaGreatDoorPNH
namespace Go.Proofs.YtlhddcingeneaaaGreatDoor
open Go Go.RowKit
set_option maxRecDepth 100000
set_option linter.unusedVariables false
set_option linter.unusedSimpArgs false
def vIv (a b:Int):Value:=.agg #[.int .i64 a,.int .i64 b]
theorem fl_uniq {a b q:Int} (hb:0<b) (h1:q * b≤a) (h2:a<(q+1) * b):a / b=q:=by
 have e1:q≤a / b:=Int.le_ediv_of_mul_le hb h1
 have e2:a / b<q+1:=Int.ediv_lt_of_lt_mul hb h2
 omega
theorem tdm {a b:Int} (hb:1≤b):(a.tdiv b) * b+a.tmod b=a∧(0≤a→0≤a.tmod b)∧(a<0→a.tmod b≤0) ∧ -b<a.tmod b∧a.tmod b<b∧(a.tdiv b).natAbs≤a.natAbs:=by
 refine ⟨by have:=Int.mul_tdiv_add_tmod a b;rwa [Int.mul_comm] at this,fun h=>Int.tmod_nonneg b h,fun h=>?_,Int.lt_tmod_of_pos a (by omega),Int.tmod_lt_of_pos a (by omega),by rw [Int.natAbs_tdiv];exact Nat.div_le_self _ _⟩
 have:=Int.tmod_nonneg b (show 0 ≤ -a by omega)
 rw [Int.neg_tmod] at this
 omega
theorem itfloor_any (a b:Int) (w:World) (hb:1≤b) (ha:a.natAbs<72057594037927936):Calls Tryz.prog 171 #[.int .i64 a,.int .i64 b] w (RetV (.int .i64 (a / b)) w):=by
 obtain ⟨e,p,n,l,u,s⟩:=tdm (a:=a) hb
 have Q1:=fun w=>quo_run a b w (by omega) ha
 have Q2:=fun w=>rem_run a b w (by omega)
 have k:=@fl_uniq a b
 generalize a.tdiv b=T at *
 generalize a.tmod b=R at *
 cases h1:(R != (0:Int)) with
 | false =>
  have h0:R=0:=by simpa using h1
  rw [k (q:=T) (by omega) (by omega) (by rw [Int.add_mul];omega)]
  exact vm_pure kr Tryz.func171 rfl [.int .i64 a,.int .i64 b] nle [(1,2),(2,2)] [(.p _ false h1),(.p _ false h1),(.p _ false h1),.f] [lV (Op.intDiv .quo .i64 ((a):Int) ((b):Int)) (.int .i64 (T)) (fun w hC=>Q1 w),lV (Op.intDiv .rem .i64 ((a):Int) ((b):Int)) (.int .i64 (R)) (fun w hC=>Q2 w)]
 | true =>
  have h0:R≠0:=by simpa using h1
  cases h2:decide (a<(0:Int)) with
  | true =>
   have h3:=of_decide_eq_true h2
   rw [k (q:=T - 1) (by omega) (by rw [Int.sub_mul];omega) (by rw [Int.add_mul,Int.sub_mul];omega)]
   have v1:IntKind.i64.wrap (T - 1)=T - 1:=wr64 (by omega) (by omega)
   exact vm_pure kr Tryz.func171 rfl [.int .i64 a,.int .i64 b] nle [(1,2),(2,2),(3,1)] [(.p _ true h1),(.p _ true h1),(.p _ true h1),(.p _ true h2)] [lV (Op.intDiv .quo .i64 ((a):Int) ((b):Int)) (.int .i64 (T)) (fun w hC=>Q1 w),lV (Op.intDiv .rem .i64 ((a):Int) ((b):Int)) (.int .i64 (R)) (fun w hC=>Q2 w),lE .i64 (((T):Int) - ((1):Int)) (T - 1) (v1)]
  | false =>
   have h3:=of_decide_eq_false h2
   rw [k (q:=T) (by omega) (by omega) (by rw [Int.add_mul];omega)]
   exact vm_pure kr Tryz.func171 rfl [.int .i64 a,.int .i64 b] nle [(1,2),(2,2)] [(.p _ true h1),(.p _ true h1),(.p _ true h1),(.p _ false h2)] [lV (Op.intDiv .quo .i64 ((a):Int) ((b):Int)) (.int .i64 (T)) (fun w hC=>Q1 w),lV (Op.intDiv .rem .i64 ((a):Int) ((b):Int)) (.int .i64 (R)) (fun w hC=>Q2 w)]
theorem ediv_abs {a b:Int} (hb:1≤b) (ha:a.natAbs<72057594037927936):(a / b).natAbs≤72057594037927936:=by
 have h1:a / b * b≤a:=Int.ediv_mul_le a (by omega)
 have h2:a<(a / b+1) * b:=Int.lt_ediv_add_one_mul_self a (by omega)
 generalize a / b=q at *
 rcases Int.lt_or_le q 0 with h | h
 ·have:(q+1) * b≤(q+1) * 1:=Int.mul_le_mul_of_nonpos_left (show q+1≤0 by omega) hb
  omega
 ·have:q * 1≤q * b:=Int.mul_le_mul_of_nonneg_left hb h
  omega
theorem neg_v {a b:Int} (h:a = -b) (hb:b.natAbs≤72057594037927936):(Value.int .i64 (IntKind.i64.wrap (0 - b))) = .int .i64 a:=by
 rw [wr64 (by omega) (by omega),h]
 exact congrArg _ (by omega)
theorem itceil_any (a b:Int) (w:World) (hb:1≤b) (ha:a.natAbs<72057594037927936):Calls Tryz.prog 172 #[.int .i64 a,.int .i64 b] w (RetV (.int .i64 (-(-a / b))) w):=by
 have F:=fun w=>itfloor_any (-a) b w hb (by omega)
 have N1:=neg_v (a:=-a) (b:=a) rfl (by omega)
 have N2:=neg_v (a:=-(-a / b)) (b:=-a / b) rfl (ediv_abs hb (by omega))
 generalize -a / b=q at *
 exact vm_pure kr Tryz.func172 rfl [.int .i64 a,.int .i64 b] nle [(1,1),(1,4)] [] [lP (.int .i64 (IntKind.i64.wrap (0 - a))) (.int .i64 (-a)) N1,cV (F),lP (.int .i64 (IntKind.i64.wrap (0 - q))) (.int .i64 (-q)) N2]
theorem itmade_any (a b:Int) (w:World) (ha:-1073741824≤a) (hb:b≤1073741824):Calls Tryz.prog 165 #[.int .i64 a,.int .i64 b] w (RetV (.tuple #[vIv a b,.int .i64 0]) w):=by
 have h1:decide (a<(-1073741824:Int))=false:=decide_eq_false (by omega)
 have h2:decide ((1073741824:Int)<b)=false:=decide_eq_false (by omega)
 exact vm_pure kr Tryz.func165 rfl [.int .i64 a,.int .i64 b] nle [] [(.p _ false h1),(.p _ false h1),(.p _ false h1),(.p _ false h2)] []
theorem itValid_any (a b:Int) (w:World) (ha:-1073741824≤a) (hab:a≤b) (hb:b≤1073741824):Calls Tryz.prog 119 #[vIv a b] w (RetV (.bool true) w):=by
 have h0:decide (a≤b)=true:=decide_eq_true (by omega)
 have h1:decide ((-1073741824:Int)≤a)=true:=decide_eq_true (by omega)
 have h2:decide (b≤(1073741824:Int))=true:=decide_eq_true (by omega)
 exact vm_pure kr Tryz.func119 rfl [vIv a b] nle [(1,13)] [(.p _ true h0),(.p _ true h0),(.p _ true h0),(.p _ true h0),(.p _ true h1),(.p _ true h1),(.p _ true h1),(.p _ true h1)] [lP (.bool (decide (b≤(1073741824:Int)))) (.bool true) (congrArg Value.bool h2)]
theorem itvalid_any (a b c d:Int) (bk:Nat) (w:World) (hB:Hc w bk 65 #[.int .i64 a,.int .i64 b,.int .i64 c,.int .i64 d]) (ha:-1073741824≤a) (hab:a≤b) (hb:b≤1073741824) (hc:-1073741824≤c) (hcd:c≤d) (hd:d≤1073741824) :
  Calls Tryz.prog 174 #[.slice (some ⟨bk,0,none⟩) 2 2] w (fun e w'=>e = .returned (.bool true)∧Hc w' bk 65 #[.int .i64 a,.int .i64 b,.int .i64 c,.int .i64 d]∧Chg [bk] w w'):=by
 have V0:=fun w=>itValid_any a b w ha hab hb
 have V1:=fun w=>itValid_any c d w hc hcd hd
 exact vm_blk kr Tryz.func174 rfl (fun b=>.slice (some ⟨b,0,none⟩) 2 2) bk 65 (#[.int .i64 a,.int .i64 b,.int .i64 c,.int .i64 d]) (#[.int .i64 a,.int .i64 b,.int .i64 c,.int .i64 d]) (hB) [] nle [] [.t,.f,.t,.f,.f] [cV (V0),cV (V1)]
theorem itextremes_any (x y m M:Int) (bk:Nat) (w:World) (hB:Hc w bk 3 #[.int .i64 x,.int .i64 y]) (hm:(if y<x then y else x)=m) (hM:(if y > x then y else x)=M) :
  Calls Tryz.prog 170 #[.slice (some ⟨bk,0,none⟩) 2 2] w (fun e w'=>e = .returned (.tuple #[.int .i64 m,.int .i64 M])∧Hc w' bk 3 #[.int .i64 x,.int .i64 y]∧Chg [bk] w w'):=by
 have e1:(Value.int .i64 (if x<x then x else x)) = .int .i64 x:=by rw [ite_self]
 have e2:(Value.int .i64 (if x > x then x else x)) = .int .i64 x:=by rw [ite_self]
 have e3:(Value.int .i64 (if y<x then y else x)) = .int .i64 m:=by rw [hm]
 have e4:(Value.int .i64 (if y > x then y else x)) = .int .i64 M:=by rw [hM]
 exact vm_blk kr Tryz.func170 rfl (fun b=>.slice (some ⟨b,0,none⟩) 2 2) bk 3 (#[.int .i64 x,.int .i64 y]) (#[.int .i64 x,.int .i64 y]) (hB) [] nle [(5,2),(5,5)] [.t,.t,.f] [lP (.int .i64 (if x<x then x else x)) (.int .i64 x) e1,lP (.int .i64 (if x > x then x else x)) (.int .i64 x) e2,lP (.int .i64 (if y<x then y else x)) (.int .i64 m) e3,lP (.int .i64 (if y > x then y else x)) (.int .i64 M) e4]
def IsRt (r n:Int):Prop:=0≤r∧r * r≤n∧n<(r+1) * (r+1)
theorem IsRt.uniq {r q n:Int} (h:IsRt r n) (g:IsRt q n):r=q:=by
 obtain ⟨h0,h1,h2⟩:=h
 obtain ⟨g0,g1,g2⟩:=g
 rcases Int.lt_trichotomy r q with k | k | k
 ·have:(r+1) * (r+1)≤q * q:=Int.mul_le_mul (by omega) (by omega) (by omega) (by omega)
  omega
 ·exact k
 ·have:(q+1) * (q+1)≤r * r:=Int.mul_le_mul (by omega) (by omega) (by omega) (by omega)
  omega
theorem half_shr (k:Nat) (w:World):(Op.shift .shr .i64 (k:Int) .u64 1).run Tryz.prog w = .ok (.int .i64 ((k / 2:Nat):Int)) w:=by
 unfold Op.shift
 go_simp
 exact Int.fdiv_eq_ediv_of_nonneg _ (by decide)
noncomputable def irN:Nat:=Tryz.f173.ntmps
noncomputable def irC:Code:=Tryz.f173.body.getD .skip
noncomputable def ir0:Code:=cB 0 irC
theorem le_quo {x n:Int} (hx:0<x):x≤n / x↔x * x≤n:=Int.le_ediv_iff_mul_le hx
theorem ediv_small' {n x:Int} (hn:0≤n) (hx:1≤x):0≤n / x∧n / x≤n:=⟨Int.ediv_nonneg hn (by omega),Int.ediv_le_self _ hn⟩
theorem sq_le {x y:Int} (h0:0≤x) (h:x≤y):x * x≤y * y:=Int.mul_le_mul h h h0 (by omega)
theorem sq_le' {x y:Int} (hy:0≤y) (h:x * x≤y * y):x≤y:=by
 rcases Int.lt_or_le y x with k | k
 ·have:(y+1) * (y+1)≤x * x:=sq_le (by omega) (by omega)
  have e:(y+1) * (y+1)=y * y+y+y+1:=by rw [Int.add_mul,Int.mul_add];omega
  omega
 ·exact k
theorem itroot_any (n r:Int) (w:World) (hr:IsRt r n) (hn:n<1152921504606846976):Calls Tryz.prog 173 #[.int .i64 n] w (RetV (.int .i64 r) w):=by
 refine vm_start [.int .i64 n] (fn:=Tryz.f173) (c:=irC) kr kr nle ?_
 intro a hS
 have hS:St irN [(0,(.int .i64 n,0))] a:=hS
 have hn0:0≤n:=by
  have:=sq_le (x:=0) (y:=r) (by omega) hr.1
  have:=hr.2.1
  omega
 refine wp_cut 0 kr ?_
 refine vm_piece (E0:=[(0,(.int .i64 (n),0))]) kr [] irN (cPre 0 irC) kr hS [] [] (VEx.n) [(0,(.int .i64 (n),0)),(3,(.int .i64 ((0:Int)),0)),(4,(.int .i64 (((2147483648:Nat):Int)),0))] [] (hQ:=?_)
 intro a1 w1 hS1 hK1 hM1
 refine wp_for 0 kr kr (fun m a' w'=>∃ q:Int,0≤q∧q * q≤n∧n<(q+(2 ^ m:Nat)) * (q+(2 ^ m:Nat))∧m≤32∧St irN [(0,(.int .i64 n,0)),(3,(.int .i64 q,0)),(4,(.int .i64 ((2 ^ m / 2:Nat):Int),0))] a'∧Below w.heap.size w w') 32 ⟨0,by omega,by omega,by show n<(0+(4294967296:Int)) * (0+4294967296);omega,by omega,(by rw [show (2 ^ 32 / 2:Nat)=2147483648 from by decide];exact hS1),hM1.bl0⟩ ?_
 clear hS1 hM1 hS hK1
 rintro m a2 w2 ⟨q,hq0,hq1,hq2,hm,hS2,hB2⟩
 refine wpL_one ?_
 have hq3:q≤1073741824:=sq_le' (by omega) (by omega)
 cases m with
 | zero =>
  obtain rfl:r=q:=hr.uniq ⟨hq0,hq1,hq2⟩
  have h1:decide ((0:Int)<((2 ^ 0 / 2:Nat):Int))=false:=by decide
  generalize ((2 ^ 0 / 2:Nat):Int)=bt at *
  refine vm_piece (E0:=[(0,(.int .i64 (n),0)),(3,(.int .i64 (r),0)),(4,(.int .i64 (bt),0))]) kr [] irN [cI (cI ir0)] kr hS2 [(.p _ false h1)] [] (VEx.x 0) [(3,(.int .i64 (r),0))] [] (hQ:=?_)
  intro a3 w3 hS3 hK3 hM3
  refine exit_n (then_n ?_)
  have hB3:Below w.heap.size w w3:=hB2.trans (hM3.bl0.mono hB2.size)
  refine vm_piece (E0:=[(3,(.int .i64 (r),0))]) kr [] irN (cPost 0 irC) kr hS3 [] [] (VEx.r) [(2,(.int .i64 (r),0))] [] (hQ:=?_)
  intro a4 w4 hS4 hK4 hM4
  exact vm_out (fn:=Tryz.f173) hS4 (.int .i64 r) (fun g=>by kernel_rfl) ⟨rfl,hB3.trans (hM4.bl0.mono hB3.size)⟩
 | succ k =>
  have e2:2 ^ (k+1)=2 * 2 ^ k:=by rw [Nat.pow_succ];omega
  have p1:2 ^ k≤2 ^ 31:=Nat.pow_le_pow_right (by decide) (by omega)
  have p0:0<2 ^ k:=Nat.pow_pos (by decide)
  have e3:2 ^ (k+1) / 2=2 ^ k:=by omega
  have H:=half_shr (2 ^ k)
  rw [e3] at hS2
  rw [e2] at hq2
  have hfin:∀ q':Int,0≤q'→q' * q'≤n→n<(q'+(2 ^ k:Nat)) * (q'+(2 ^ k:Nat))→∀ a' w',St irN [(0,(.int .i64 n,0)),(3,(.int .i64 q',0)),(4,(.int .i64 ((2 ^ k / 2:Nat):Int),0))] a'→Below w.heap.size w w'→∃ m,m<k+1∧∃ q:Int,0≤q∧q * q≤n∧n<(q+(2 ^ m:Nat)) * (q+(2 ^ m:Nat))∧m≤32∧St irN [(0,(.int .i64 n,0)),(3,(.int .i64 q,0)),(4,(.int .i64 ((2 ^ m / 2:Nat):Int),0))] a'∧Below w.heap.size w w' :=
   fun q' x1 x2 x3 a' w' x4 x5=>⟨k,by omega,q',x1,x2,x3,by omega,x4,x5⟩
  generalize 2 ^ k=B at *
  have h1:decide ((0:Int)<((B:Nat):Int))=true:=decide_eq_true (by omega)
  obtain ⟨x,hxx⟩:∃ x,x=q+(B:Int):=⟨_,rfl⟩
  have v1:IntKind.i64.wrap (q+(B:Int))=x:=by rw [hxx];exact wr64 (by omega) (by omega)
  have hx:0<x:=by omega
  have hd:=le_quo (n:=n) hx
  have hs:=ediv_small' hn0 (show 1≤x by omega)
  have Q:=fun w=>mquo_run n x (n / x) w (by omega) (Int.tdiv_eq_ediv_of_nonneg hn0) (by omega) (by omega)
  have e4:q+((2 * B:Nat):Int)=x+(B:Int):=by omega
  rw [e4] at hq2
  generalize n / x=z at *
  cases h2:decide (x≤z) with
  | true =>
   have h3:=hd.1 (of_decide_eq_true h2)
   refine vm_piece (E0:=[(0,(.int .i64 (n),0)),(3,(.int .i64 (q),0)),(4,(.int .i64 (((B:Nat):Int)),0))]) kr [(5,2),(6,3),(4,1)] irN [cI (cI ir0)] kr hS2 [(.p _ true h1),(.p _ true h2)] [lE .i64 (((q):Int)+((((B:Nat):Int)):Int)) (x) (v1),lV (Op.intDiv .quo .i64 ((n):Int) ((x):Int)) (.int .i64 (z)) (fun w hC=>Q w),lV (Op.shift .shr .i64 ((B:Nat):Int) .u64 1) (.int .i64 ((B / 2:Nat):Int)) (fun w hC=>H w)] (VEx.n) [(0,(.int .i64 (n),0)),(3,(.int .i64 (x),0)),(4,(.int .i64 (((B / 2:Nat):Int)),0))] [] (hQ:=?_)
   intro a3 w3 hS3 hK3 hM3
   exact hfin x (by omega) h3 hq2 a3 w3 hS3 (hB2.trans (hM3.bl0.mono hB2.size))
  | false =>
   have h3:n<x * x:=by
    rcases Int.lt_or_le n (x * x) with g | g
    ·exact g
    ·exact absurd (hd.2 g) (of_decide_eq_false h2)
   refine vm_piece (E0:=[(0,(.int .i64 (n),0)),(3,(.int .i64 (q),0)),(4,(.int .i64 (((B:Nat):Int)),0))]) kr [(5,2),(6,3),(4,1)] irN [cI (cI ir0)] kr hS2 [(.p _ true h1),(.p _ false h2)] [lE .i64 (((q):Int)+((((B:Nat):Int)):Int)) (x) (v1),lV (Op.intDiv .quo .i64 ((n):Int) ((x):Int)) (.int .i64 (z)) (fun w hC=>Q w),lV (Op.shift .shr .i64 ((B:Nat):Int) .u64 1) (.int .i64 ((B / 2:Nat):Int)) (fun w hC=>H w)] (VEx.n) [(0,(.int .i64 (n),0)),(3,(.int .i64 (q),0)),(4,(.int .i64 (((B / 2:Nat):Int)),0))] [] (hQ:=?_)
   intro a3 w3 hS3 hK3 hM3
   exact hfin q hq0 hq1 (by rw [← hxx];exact h3) a3 w3 hS3 (hB2.trans (hM3.bl0.mono hB2.size))
end Go.Proofs.YtlhddcingeneaaaGreatDoor
