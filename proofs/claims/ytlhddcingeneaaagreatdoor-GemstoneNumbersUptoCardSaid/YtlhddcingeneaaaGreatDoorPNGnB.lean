/- Fixed-point intervals (program): Square, Sub, Div, Sqrt, Ratio. -/
import Derived.Test.YtlhddcingeneaaaGreatDoorPNGnA
import Derived.Test.YtlhddcingeneaaaGreatDoorPNB
import Derived.Test.YtlhddcingeneaaaGreatDoorPNLawB
namespace Go.Proofs.YtlhddcingeneaaaGreatDoor
open Go Go.RowKit
set_option maxRecDepth 100000
set_option linter.unusedVariables false
set_option linter.unusedSimpArgs false
def sqL (lo:Int):Int:=lo * lo / 16777216
def sqH (hi:Int):Int:=-(-(hi * hi) / 16777216)
theorem sq_in {lo hi:Int} (h0:16777216≤lo) (h:lo≤hi) (h1:hi≤67108864):lo * lo≤hi * hi∧281474976710656≤lo * lo∧hi * hi≤4503599627370496 :=
 ⟨sq_le (by omega) h,sq_le (x:=16777216) (by omega) h0,sq_le (y:=67108864) (by omega) h1⟩
theorem itSquare_any (lo hi:Int) (w:World) (h0:16777216≤lo) (h:lo≤hi) (h1:hi≤67108864):Calls Tryz.prog 121 #[vIv lo hi] w (RetV (.tuple #[vIv (sqL lo) (sqH hi),.int .i64 0]) w):=by
 obtain ⟨b1,b2,b3⟩:=sq_in h0 h h1
 have V:=fun w=>itValid_any lo hi w (by omega) h (by omega)
 have c1:decide (lo≤(0:Int))=false:=decide_eq_false (by omega)
 unfold sqL sqH
 have v1:IntKind.i64.wrap (lo * lo)=lo * lo:=wr64 (by omega) (by omega)
 have v2:IntKind.i64.wrap (hi * hi)=hi * hi:=wr64 (by omega) (by omega)
 have E:=fun b w hB=>itextremes_any (lo * lo) (hi * hi) (lo * lo) (hi * hi) b w hB (by split <;> omega) (by split <;> omega)
 have F:=fun w=>itfloor_any (lo * lo) 16777216 w (by omega) (by omega)
 have C:=fun w=>itceil_any (hi * hi) 16777216 w (by omega) (by omega)
 have M:=fun w=>itmade_any (lo * lo / 16777216) (-(-(hi * hi) / 16777216)) w (by omega) (by omega)
 generalize -(-(hi * hi) / 16777216)=d at *
 generalize lo * lo / 16777216=c at *
 obtain ⟨p,hp⟩:∃ p,p=lo * lo:=⟨_,rfl⟩
 obtain ⟨q,hq⟩:∃ q,q=hi * hi:=⟨_,rfl⟩
 rw [← hp,← hq] at E
 rw [← hp] at F
 rw [← hq] at C
 have v1:IntKind.i64.wrap (lo * lo)=p:=by rw [v1,hp]
 have v2:IntKind.i64.wrap (hi * hi)=q:=by rw [v2,hq]
 exact vm_pure kr Tryz.func121 rfl [vIv lo hi] nle [(3,4),(3,9)] [.f,(.p _ false c1),(.p _ false c1),(.p _ false c1),(.p _ false c1),.f] [cV (V),lE .i64 (((lo):Int) * ((lo):Int)) (p) (v1),lE .i64 (((hi):Int) * ((hi):Int)) (q) (v2),cU 16 3 (#[.int .i64 p,.int .i64 q]) (#[.int .i64 p,.int .i64 q]) (fun b w hC hB=>E b w hB),cV (F),cV (C),cV (M)]
theorem itSub_any (a b c d:Int) (w:World) (ha:-1073741824≤a) (hab:a≤b) (hb:b≤1073741824) (hc:-1073741824≤c) (hcd:c≤d) (hd:d≤1073741824) (h0:-1073741824≤a - d) (h1:b - c≤1073741824):Calls Tryz.prog 124 #[vIv a b,vIv c d] w (RetV (.tuple #[vIv (a - d) (b - c),.int .i64 0]) w):=by
 have V:=fun bk w hB=>itvalid_any a b c d bk w hB ha hab hb hc hcd hd
 have v1:IntKind.i64.wrap (a - d)=a - d:=wr64 (by omega) (by omega)
 have v2:IntKind.i64.wrap (b - c)=b - c:=wr64 (by omega) (by omega)
 have M:=fun w=>itmade_any (a - d) (b - c) w h0 h1
 obtain ⟨p,hp⟩:∃ p,p=a - d:=⟨_,rfl⟩
 obtain ⟨q,hq⟩:∃ q,q=b - c:=⟨_,rfl⟩
 rw [← hp,← hq] at M ⊢
 have v1:IntKind.i64.wrap (a - d)=p:=by rw [v1,hp]
 have v2:IntKind.i64.wrap (b - c)=q:=by rw [v2,hq]
 exact vm_pure kr Tryz.func124 rfl [vIv a b,vIv c d] nle [(3,4),(3,9)] [.f] [cU 6 65 (#[.int .i64 a,.int .i64 b,.int .i64 c,.int .i64 d]) (#[.int .i64 a,.int .i64 b,.int .i64 c,.int .i64 d]) (fun b w hC hB=>V b w hB),lE .i64 (((a):Int) - ((d):Int)) (p) (v1),lE .i64 (((b):Int) - ((c):Int)) (q) (v2),cV (M)]
def dvL (d:Int):Int:=281474976710656 / d
def dvH (c:Int):Int:=-(-281474976710656 / c)
theorem dv_in {c d:Int} (hc:16777216≤c) (hcd:c≤d):0≤dvL d∧dvL d≤dvL c∧dvL c≤dvH c∧dvH d≤dvH c∧dvH c≤16777216:=by
 unfold dvL dvH
 have a1:0≤281474976710656 / d:=Int.ediv_nonneg (by omega) (by omega)
 have a2:281474976710656 / d * d≤281474976710656:=Int.ediv_mul_le _ (by omega)
 have a3:281474976710656 / d * c≤281474976710656 / d * d:=Int.mul_le_mul_of_nonneg_left hcd a1
 have a4:281474976710656 / d≤281474976710656 / c:=Int.le_ediv_of_mul_le (by omega) (by omega)
 have b1:-16777216 ≤ -281474976710656 / c:=Int.le_ediv_of_mul_le (by omega) (by omega)
 have b0:-281474976710656 / c<0:=Int.ediv_neg_of_neg_of_pos (by omega) (by omega)
 have b2:-281474976710656 / c * c ≤ -281474976710656:=Int.ediv_mul_le _ (by omega)
 have b3:-281474976710656 / c * d ≤ -281474976710656 / c * c:=Int.mul_le_mul_of_nonpos_left (show -281474976710656 / c≤0 by omega) hcd
 have b4:-281474976710656 / c ≤ -281474976710656 / d:=Int.le_ediv_of_mul_le (by omega) (by omega)
 have c1:281474976710656 / c * c≤281474976710656:=Int.ediv_mul_le _ (by omega)
 have c2:(281474976710656 / c + -281474976710656 / c) * c≤0:=by rw [Int.add_mul];omega
 have c3:281474976710656 / c + -281474976710656 / c≤0:=by
  rcases Int.lt_or_le 0 (281474976710656 / c + -281474976710656 / c) with k | k
  ·have:=Int.mul_pos k (show 0<c by omega)
   omega
  ·exact k
 omega
theorem itDiv_any (c d:Int) (w:World) (hc:16777216≤c) (hcd:c≤d) (hd:d≤1073741824):Calls Tryz.prog 126 #[vIv 16777216 16777216,vIv c d] w (RetV (.tuple #[vIv (dvL d) (dvH c),.int .i64 0]) w):=by
 obtain ⟨a1,a2,a3,a4,a5⟩:=dv_in hc hcd
 have V:=fun bk w hB=>itvalid_any 16777216 16777216 c d bk w hB (by omega) (by omega) (by omega) (by omega) hcd (by omega)
 have F1:=fun w=>itfloor_any 281474976710656 c w (by omega) (by decide)
 have F2:=fun w=>itfloor_any 281474976710656 d w (by omega) (by decide)
 have C1:=fun w=>itceil_any 281474976710656 c w (by omega) (by decide)
 have C2:=fun w=>itceil_any 281474976710656 d w (by omega) (by decide)
 have M:=fun w=>itmade_any (dvL d) (dvH c) w (by omega) (by omega)
 have E1:=fun b w hB=>itextremes_any (dvL c) (dvL d) (dvL d) (dvL c) b w hB (by split <;> omega) (by split <;> omega)
 have E2:=fun b w hB=>itextremes_any (dvH c) (dvH d) (dvH d) (dvH c) b w hB (by split <;> omega) (by split <;> omega)
 have g1:decide (c≤(0:Int))=false:=decide_eq_false (by omega)
 have g2:decide (d<(0:Int))=false:=decide_eq_false (by omega)
 change ∀ w,Calls Tryz.prog 171 #[.int .i64 281474976710656,.int .i64 c] w (RetV (.int .i64 (dvL c)) w) at F1
 change ∀ w,Calls Tryz.prog 171 #[.int .i64 281474976710656,.int .i64 d] w (RetV (.int .i64 (dvL d)) w) at F2
 change ∀ w,Calls Tryz.prog 172 #[.int .i64 281474976710656,.int .i64 c] w (RetV (.int .i64 (dvH c)) w) at C1
 change ∀ w,Calls Tryz.prog 172 #[.int .i64 281474976710656,.int .i64 d] w (RetV (.int .i64 (dvH d)) w) at C2
 generalize dvL c=lc at *
 generalize dvL d=ld at *
 generalize dvH c=kc at *
 generalize dvH d=kd at *
 exact vm_pure kr Tryz.func126 rfl [vIv 16777216 16777216,vIv c d] nle [] [.f,(.p _ false g1),(.p _ false g1),(.p _ false g1),(.p _ false g1),.f,(.p _ false g2)] [cU 6 65 (#[.int .i64 16777216,.int .i64 16777216,.int .i64 c,.int .i64 d]) (#[.int .i64 16777216,.int .i64 16777216,.int .i64 c,.int .i64 d]) (fun b w hC hB=>V b w hB),cV (F1),cV (F2),cU 36 3 (#[.int .i64 lc,.int .i64 ld]) (#[.int .i64 lc,.int .i64 ld]) (fun b w hC hB=>E1 b w hB),cV (C1),cV (C2),cU 51 3 (#[.int .i64 kc,.int .i64 kd]) (#[.int .i64 kc,.int .i64 kd]) (fun b w hC hB=>E2 b w hB),cV (M)]
def upS (s n:Int):Int:=if s * s<n then s+1 else s
theorem rt_le {r n:Int} (h:IsRt r n) (hn:n≤281474976710656):r≤16777216:=sq_le' (by omega) (by have:=h.2.1;omega)
theorem itSqrt_any (lo hi r s:Int) (w:World) (h0:0≤lo) (h:lo≤hi) (h1:hi≤16777216) (hr:IsRt r (lo * 16777216)) (hs:IsRt s (hi * 16777216)):Calls Tryz.prog 122 #[vIv lo hi] w (RetV (.tuple #[vIv r (upS s (hi * 16777216)),.int .i64 0]) w):=by
 have V:=fun w=>itValid_any lo hi w (by omega) h (by omega)
 have c1:decide (lo<(0:Int))=false:=decide_eq_false (by omega)
 have v1:IntKind.i64.wrap (lo * 16777216)=lo * 16777216:=wr64 (by omega) (by omega)
 have v2:IntKind.i64.wrap (hi * 16777216)=hi * 16777216:=wr64 (by omega) (by omega)
 have R1:=fun w=>itroot_any (lo * 16777216) r w hr (by omega)
 have R2:=fun w=>itroot_any (hi * 16777216) s w hs (by omega)
 have b1:=rt_le hr (by omega)
 have b2:=rt_le hs (by omega)
 have b3:=hr.1
 have b4:=hs.1
 have b5:=hs.2.1
 have b6:0≤s * s:=Int.mul_nonneg b4 b4
 have v3:IntKind.i64.wrap (s * s)=s * s:=wr64 (by omega) (by omega)
 have v4:IntKind.i64.wrap (s+1)=s+1:=wr64 (by omega) (by omega)
 unfold upS
 obtain ⟨p,hp⟩:∃ p,p=lo * 16777216:=⟨_,rfl⟩
 obtain ⟨q,hq⟩:∃ q,q=hi * 16777216:=⟨_,rfl⟩
 obtain ⟨t,ht⟩:∃ t,t=s * s:=⟨_,rfl⟩
 rw [← hp] at R1
 rw [← hq] at R2 ⊢
 rw [← ht] at ⊢
 have v1:IntKind.i64.wrap (lo * 16777216)=p:=by rw [v1,hp]
 have v2:IntKind.i64.wrap (hi * 16777216)=q:=by rw [v2,hq]
 have v3:IntKind.i64.wrap (s * s)=t:=by rw [v3,ht]
 cases hc:decide (t<q) with
 | true =>
  rw [if_pos (of_decide_eq_true hc)]
  have M:=fun w=>itmade_any r (s+1) w (by omega) (by omega)
  exact vm_pure kr Tryz.func122 rfl [vIv lo hi] nle [(5,2),(5,6),(6,2),(6,5),(7,1)] [.f,(.p _ false c1),(.p _ true hc)] [cV (V),lE .i64 (((lo):Int) * ((16777216):Int)) (p) (v1),cV (R1),lE .i64 (((hi):Int) * ((16777216):Int)) (q) (v2),cV (R2),lE .i64 (((s):Int) * ((s):Int)) (t) (v3),lE .i64 (((hi):Int) * ((16777216):Int)) (q) (v2),lE .i64 (((s):Int)+((1):Int)) (s+1) (v4),cV (M)]
 | false =>
  rw [if_neg (of_decide_eq_false hc)]
  have M:=fun w=>itmade_any r s w (by omega) (by omega)
  exact vm_pure kr Tryz.func122 rfl [vIv lo hi] nle [(5,2),(5,6),(6,2),(6,5)] [.f,(.p _ false c1),(.p _ false hc)] [cV (V),lE .i64 (((lo):Int) * ((16777216):Int)) (p) (v1),cV (R1),lE .i64 (((hi):Int) * ((16777216):Int)) (q) (v2),cV (R2),lE .i64 (((s):Int) * ((s):Int)) (t) (v3),lE .i64 (((hi):Int) * ((16777216):Int)) (q) (v2),cV (M)]
theorem fits_small {a:Int} (h:a.natAbs≤1073741824):fits64 a=true:=by
 unfold fits64
 simp
 omega
theorem itbig_any (a b:Int) (w:World) (h0:-1073741824≤a) (h:a≤b) (h1:b≤1073741824):Calls Tryz.prog 115 #[vI a,vI b] w (RetV (.tuple #[vIv a b,.int .i64 0]) w):=by
 have I1:=fun w=>Int64_any a w
 have I2:=fun w=>Int64_any b w
 have M:=fun w=>itmade_any a b w h0 h1
 rw [fits_small (by omega),if_pos rfl] at I1 I2
 exact vm_pure kr Tryz.func115 rfl [vI a,vI b] nle [] [.f,.f,.f,.f] [cV (I1),cV (I2),cV (M)]
def rtL (n:Int):Int:=n * 16777216 / 1000
def rtH (n:Int):Int:=-(-(n * 16777216) / 1000)
theorem bd_mid {x:Int} (h:x.natAbs<18446744073709551616):Bd 1000 x:=(show Bd 8 x by unfold Bd;simpa using h).mono (by omega)
theorem itRatio_any (n:Int) (w:World) (h0:1000≤n) (h1:n≤4000):Calls Tryz.prog 68 #[.int .i64 n,.int .i64 1000] w (RetV (.tuple #[vIv (rtL n) (rtH n),.int .i64 0]) w):=by
 have O1:=fun w=>Of_any n w (by omega) (by omega)
 have O2:=fun w=>Of_any 16777216 w (by omega) (by omega)
 have O3:=fun w=>Of_any 1000 w (by omega) (by omega)
 have O4:=fun w=>Of_any 1 w (by omega) (by omega)
 have P:=fun w=>Mul_any n 16777216 w ((bd_mid (by omega)).mono (by omega)) ((bd_mid (by omega)).mono (by omega))
 have D:=fun w=>DivMod_any (n * 16777216) 1000 w ((bd_mid (by omega)).mono (by omega)) ((bd_mid (by omega)).mono (by omega)) (by omega)
 rw [Int.fdiv_eq_ediv_of_nonneg _ (by omega),Int.fmod_eq_emod_of_nonneg _ (by omega)] at D
 have S:=fun w=>Sign_any (n * 16777216 % 1000) w
 have A1:=fun w=>Add_any (n * 16777216 / 1000) 1 w ((bd_mid (by omega)).mono (by omega)) ((bd_mid (by omega)).mono (by omega))
 have e1:n * 16777216 % 1000=0 → -(-(n * 16777216) / 1000)=n * 16777216 / 1000:=by omega
 have e2:n * 16777216 % 1000≠0 → -(-(n * 16777216) / 1000)=n * 16777216 / 1000+1:=by omega
 have e3:-1073741824≤n * 16777216 / 1000∧n * 16777216 / 1000+1≤1073741824:=by omega
 have G1:=fun w=>itbig_any (n * 16777216 / 1000) (n * 16777216 / 1000) w (by omega) (by omega) (by omega)
 have G2:=fun w=>itbig_any (n * 16777216 / 1000) (n * 16777216 / 1000+1) w (by omega) (by omega) (by omega)
 unfold rtL rtH
 unfold RetI at O1 O2 O3 O4 P A1
 unfold RetN at S
 generalize n * 16777216 / 1000=q at *
 generalize n * 16777216 % 1000=r at *
 generalize n * 16777216=p at *
 cases hr:(r.sign != (0:Int)) with
 | false =>
  rw [e1 (Int.sign_eq_zero_iff_zero.1 (by simpa using hr))]
  generalize r.sign=s at *
  exact vm_pure kr Tryz.func68 rfl [.int .i64 n,.int .i64 1000] nle [] [.f,.f,.f,(.p _ false hr)] [cV (O1),cV (O2),cV (P),cV (O3),cV (D),cV (S),cV (G1)]
 | true =>
  rw [e2 (fun e=>by rw [e] at hr;cases hr)]
  generalize r.sign=s at *
  exact vm_pure kr Tryz.func68 rfl [.int .i64 n,.int .i64 1000] nle [] [.f,.f,.f,(.p _ true hr)] [cV (O1),cV (O2),cV (P),cV (O3),cV (D),cV (S),cV (O4),cV (A1),cV (G2)]
end Go.Proofs.YtlhddcingeneaaaGreatDoor
