/- GemstoneNumbers: Index, Critical, Milligrams and Density of both, and the law. -/
import Derived.Test.YtlhddcingeneaaaGreatDoorPNGnD
import Derived.Test.YtlhddcingeneaaaGreatDoorPNGwC
import Derived.Test.YtlhddcingeneaaaGreatDoorPNZ
import Derived.Test.YtlhddcingeneaaaGreatDoorPNFieZ
import Derived.Test.YtlhddcingeneaaaGreatDoorPNFieM
namespace Go.Proofs.YtlhddcingeneaaaGreatDoor
open Go Go.RowKit
set_option maxRecDepth 100000
set_option linter.unusedVariables false
set_option linter.unusedSimpArgs false
theorem rightM_i {m:Mt} (h:rightM m=true):1000≤m.i∧m.i≤4000:=by
 unfold rightM at h
 simp only [Bool.and_eq_true,decide_eq_true_eq] at h
 omega
theorem rt_in {n:Int} (h0:1000≤n) (h1:n≤4000):16777216≤rtL n∧rtL n≤rtH n∧rtH n≤67108864:=by
 unfold rtL rtH
 omega
theorem rt_ex {n:Int} (h:0≤n):∃ r,IsRt r n:=by
 obtain ⟨r,h1,h2⟩:=isq_ex n.toNat
 have e:((n.toNat:Nat):Int)=n:=Int.toNat_of_nonneg h
 refine ⟨(r:Int),by omega,?_,?_⟩
 ·have:((r * r:Nat):Int)≤((n.toNat:Nat):Int):=by exact_mod_cast h1
  rw [e] at this
  exact this
 ·have:((n.toNat:Nat):Int)<(((r+1) * (r+1):Nat):Int):=by exact_mod_cast h2
  rw [e] at this
  exact this
theorem gmIndex_no (m:Mt) (w:World) (hl:m.nm.length≤1000000) (hm:rightM m=false):Calls Tryz.prog 27 #[vMt m] w (RetV (.tuple #[vIv 0 0,.int .i64 1]) w):=by
 have M:=fun w=>gmmaterial_any m w hl
 rw [hm] at M
 exact vm_pure kr Tryz.func27 rfl [vMt m] nle [] [.t] [cV (M)]
theorem gmIndex_yes (m:Mt) (w:World) (hl:m.nm.length≤1000000) (hm:rightM m=true):Calls Tryz.prog 27 #[vMt m] w (RetV (.tuple #[vIv (rtL m.i) (rtH m.i),.int .i64 0]) w):=by
 have M:=fun w=>gmmaterial_any m w hl
 obtain ⟨h0,h1⟩:=rightM_i hm
 have R:=fun w=>itRatio_any m.i w h0 h1
 rw [hm] at M
 generalize rtL m.i=a at *
 generalize rtH m.i=b at *
 exact vm_pure kr Tryz.func27 rfl [vMt m] nle [] [.f] [cV (M),cV (R)]
theorem gmCritical_no (m:Mt) (w:World) (hl:m.nm.length≤1000000) (hm:rightM m=false):Calls Tryz.prog 29 #[vMt m] w (RetV (.tuple #[vIv 0 0,.int .i64 1]) w):=by
 have M:=fun w=>gmIndex_no m w hl hm
 exact vm_pure kr Tryz.func29 rfl [vMt m] nle [] [.t] [cV (M)]
theorem gmCritical_yes (m:Mt) (r s:Int) (w:World) (hl:m.nm.length≤1000000) (hm:rightM m=true) (hr:IsRt r (crA (rtL m.i) * 16777216)) (hs:IsRt s (crB (rtH m.i) * 16777216)):Calls Tryz.prog 29 #[vMt m] w (RetV (.tuple #[vIv r (upS s (crB (rtH m.i) * 16777216)),.int .i64 0]) w):=by
 have M:=fun w=>gmIndex_yes m w hl hm
 obtain ⟨h0,h1⟩:=rightM_i hm
 obtain ⟨h2,h3,h4⟩:=rt_in h0 h1
 have R:=fun w=>rfCritical_any (rtL m.i) (rtH m.i) r s w h2 h3 h4 hr hs
 generalize upS s (crB (rtH m.i) * 16777216)=u at *
 clear hr hs
 generalize rtL m.i=a at *
 generalize rtH m.i=b at *
 exact vm_pure kr Tryz.func29 rfl [vMt m] nle [] [.f] [cV (M),cV (R)]
theorem gnIndex_no (m:Mt) (w:World) (hl:m.nm.length≤1000000) (hm:rightM m=false):Calls Tryz.prog 28 #[vMt m] w (RetV (.tuple #[vIv 0 0,.int .i64 1]) w):=by
 have M:=fun w=>gnRight_any m w hl
 rw [hm] at M
 exact vm_pure kr Tryz.func28 rfl [vMt m] nle [] [.t] [cV (M)]
theorem gnIndex_yes (m:Mt) (w:World) (hl:m.nm.length≤1000000) (hm:rightM m=true):Calls Tryz.prog 28 #[vMt m] w (RetV (.tuple #[vIv (rtL m.i) (rtH m.i),.int .i64 0]) w):=by
 have M:=fun w=>gnRight_any m w hl
 obtain ⟨h0,h1⟩:=rightM_i hm
 have R:=fun w=>iuRatio_any m.i w h0 h1
 rw [hm] at M
 generalize rtL m.i=a at *
 generalize rtH m.i=b at *
 exact vm_pure kr Tryz.func28 rfl [vMt m] nle [] [.f] [cV (M),cV (R)]
theorem gnCritical_no (m:Mt) (w:World) (hl:m.nm.length≤1000000) (hm:rightM m=false):Calls Tryz.prog 30 #[vMt m] w (RetV (.tuple #[vIv 0 0,.int .i64 1]) w):=by
 have M:=fun w=>gnIndex_no m w hl hm
 exact vm_pure kr Tryz.func30 rfl [vMt m] nle [] [.t] [cV (M)]
theorem gnCritical_yes (m:Mt) (r s:Int) (w:World) (hl:m.nm.length≤1000000) (hm:rightM m=true) (hr:IsRt r (crA (rtL m.i) * 16777216)) (hs:IsRt s (crB (rtH m.i) * 16777216)):Calls Tryz.prog 30 #[vMt m] w (RetV (.tuple #[vIv r (upS s (crB (rtH m.i) * 16777216)),.int .i64 0]) w):=by
 have M:=fun w=>gnIndex_yes m w hl hm
 obtain ⟨h0,h1⟩:=rightM_i hm
 obtain ⟨h2,h3,h4⟩:=rt_in h0 h1
 have R:=fun w=>rgCritical_any (rtL m.i) (rtH m.i) r s w h2 h3 h4 hr hs
 generalize upS s (crB (rtH m.i) * 16777216)=u at *
 clear hr hs
 generalize rtL m.i=a at *
 generalize rtH m.i=b at *
 exact vm_pure kr Tryz.func30 rfl [vMt m] nle [] [.f] [cV (M),cV (R)]
theorem gnDensity_any (a b:Int) (w:World) (a0:-9223372036854775808≤a) (a1:a≤9223372036854775807) (b0:-9223372036854775808≤b) (b1:b≤9223372036854775807):Calls Tryz.prog 32 #[.int .i64 a,.int .i64 b] w (RetV (denV a b) w):=by
 unfold denV
 cases hd:denOk a b with
 | true =>
  rw [if_pos rfl]
  unfold denOk at hd
  simp only [Bool.and_eq_true,decide_eq_true_eq] at hd
  obtain ⟨⟨⟨g1,g2⟩,g3⟩,g4⟩:=hd
  have h2:decide (b<(1:Int))=false:=decide_eq_false (by omega)
  have h3:decide ((1000000000000:Int)<a)=false:=decide_eq_false (by omega)
  have h4:decide (a≤b)=false:=decide_eq_false (by omega)
  have v1:IntKind.i64.wrap (a * 1000)=a * 1000:=wr64 (by omega) (by omega)
  have v2:IntKind.i64.wrap (a - b)=a - b:=wr64 (by omega) (by omega)
  have v3:IntKind.i64.wrap (a * 1000+(a - b))=a * 1000+(a - b):=wr64 (by omega) (by omega)
  have v4:IntKind.i64.wrap (a * 1000+(a - b) - 1)=a * 1000+(a - b) - 1:=wr64 (by omega) (by omega)
  have e1:=ediv_small (x:=a * 1000) (y:=a - b) (by omega) (by omega) (by omega)
  have e2:=ediv_small (x:=a * 1000+(a - b) - 1) (y:=a - b) (by omega) (by omega) (by omega)
  have q1:=fun w=>mquo_run (a * 1000) (a - b) (a * 1000 / (a - b)) w (by omega) (Int.tdiv_eq_ediv_of_nonneg (by omega)) (by omega) (by omega)
  have q2:=fun w=>mquo_run (a * 1000+(a - b) - 1) (a - b) ((a * 1000+(a - b) - 1) / (a - b)) w (by omega) (Int.tdiv_eq_ediv_of_nonneg (by omega)) (by omega) (by omega)
  generalize a * 1000 / (a - b)=lo at *
  generalize (a * 1000+(a - b) - 1) / (a - b)=hi at *
  exact vm_pure kr Tryz.func32 rfl [.int .i64 a,.int .i64 b] nle [(3,2),(4,1),(4,3),(4,5),(4,7),(4,8),(4,10)] [(.p _ false h2),(.p _ false h2),(.p _ false h2),(.p _ false h3),(.p _ false h3),(.p _ false h3),(.p _ false h3),(.p _ false h4)] [lE .i64 (((a):Int) - ((b):Int)) (a - b) (v2),lE .i64 (((a):Int) * ((1000):Int)) (a * 1000) (v1),lV (Op.intDiv .quo .i64 ((a * 1000):Int) ((a - b):Int)) (.int .i64 (lo)) (fun w hC=>q1 w),lE .i64 (((a):Int) * ((1000):Int)) (a * 1000) (v1),lE .i64 (((a * 1000):Int)+((a - b):Int)) (a * 1000+(a - b)) (v3),lE .i64 (((a * 1000+(a - b)):Int) - ((1):Int)) (a * 1000+(a - b) - 1) (v4),lV (Op.intDiv .quo .i64 ((a * 1000+(a - b) - 1):Int) ((a - b):Int)) (.int .i64 (hi)) (fun w hC=>q2 w)]
 | false =>
  rw [if_neg (by decide)]
  cases q0:(decide (b<(1:Int))) with
  | true =>
   exact vm_pure kr Tryz.func32 rfl [.int .i64 a,.int .i64 b] nle [] [dT q0,dT q0,dT q0,.t,.t,.t,.t,.t] []
  | false =>
   cases q1:(decide ((1000000000000:Int)<a)) with
   | true =>
    exact vm_pure kr Tryz.func32 rfl [.int .i64 a,.int .i64 b] nle [] [dF q0,dF q0,dF q0,dT q1,dT q1,dT q1,dT q1,.t] []
   | false =>
    cases q2:(decide (a≤b)) with
    | true =>
     exact vm_pure kr Tryz.func32 rfl [.int .i64 a,.int .i64 b] nle [] [dF q0,dF q0,dF q0,dF q1,dF q1,dF q1,dF q1,dT q2] []
    | false =>
     exact absurd hd (by unfold denOk;simp only [Bool.not_eq_false,Bool.and_eq_true,decide_eq_true_eq];have:=of_decide_eq_false q0;have:=of_decide_eq_false q1;have:=of_decide_eq_false q2;omega)
theorem gRatio_k (n:Int) (w:World) (h0:1≤n) (h1:n≤30000):Calls Tryz.prog 74 #[.int .i64 n,.int .i64 1000] w (RetV (.tuple #[vN (low ⟨n,0,0,0,1000⟩),.int .i64 0]) w):=by
 have O1:=fun w=>ROf_any n w (by omega) (by omega)
 have O2:=fun w=>ROf_any 1000 w (by omega) (by omega)
 have b8:∀ {z:Int},-9223372036854775808≤z→z≤9223372036854775807→Bd 80000000 z:=fun a b=>(show Bd 8 _ by unfold Bd;omega).mono (by omega)
 have n0:-9223372036854775808≤n:=by omega
 have n1:n≤9223372036854775807:=by omega
 have M:=fun w=>gMake_int ⟨n,0,0,0,1000⟩ w ⟨b8 n0 n1,Bd.zero _,Bd.zero _,Bd.zero _,b8 (show -9223372036854775808≤(1000:Int) by decide) (show (1000:Int)≤9223372036854775807 by decide)⟩ (by show (1000:Int)≠0;decide)
 unfold vA4 at M
 simp only [sg0,mg0] at M
 generalize low ⟨n,0,0,0,1000⟩=l at *
 exact vm_pure kr Tryz.func74 rfl [.int .i64 n,.int .i64 1000] nle [] [] [cV (O1),cV (O2),cV (M)]
theorem gnMilligrams_argN (m:Mt) (x:Nm) (w:World) (hm:rightM m=false) (hl:m.nm.length≤1000000):Calls Tryz.prog 31 #[vMt m,vN x] w (RetV (.tuple #[zI,.int .i64 1]) w):=by
 have M:=fun w=>gnRight_any m w hl
 rw [hm] at M
 exact vm_pure kr Tryz.func31 rfl [vMt m,vN x] nle [] [.t,.t,.t,.t,.t] [cV (M)]
theorem gnMilligrams_neg (m:Mt) (x:Nm) (w:World) (hm:rightM m=true) (hl:m.nm.length≤1000000) (hx:BN 1000 x) (ox:Ok x) (h:sgnN x<0):Calls Tryz.prog 31 #[vMt m,vN x] w (RetV (.tuple #[zI,.int .i64 2]) w):=by
 have M:=fun w=>gnRight_any m w hl
 have V:=fun w=>gValid_yes x w (hx.mono (by omega)) ox
 have S:=fun w=>gSign_any x w (hx.mono (by omega)) ox
 have h1:decide (sgnN x<(0:Int))=true:=decide_eq_true h
 rw [hm] at M
 generalize sgnN x=s at *
 exact vm_pure kr Tryz.func31 rfl [vMt m,vN x] nle [] [.f,.f,.f,.f,.f,(.p _ true h1)] [cV (M),cV (V),cV (S)]
theorem gnMilligrams_yes (m:Mt) (x:Nm) (f:Int) (w:World) (hm:rightM m=true) (hl:m.nm.length≤1000000) (hx:BN 5 x) (ox:Ok x) (h:0≤sgnN x) (hf:Fl (mulN x (dnN m)) f):Calls Tryz.prog 31 #[vMt m,vN x] w (RetV (.tuple #[vI f,.int .i64 0]) w):=by
 obtain ⟨d1,d2⟩:=rightM_d hm
 have M:=fun w=>gnRight_any m w hl
 have V:=fun w=>gValid_yes x w (hx.mono (by omega)) ox
 have S:=fun w=>gSign_any x w (hx.mono (by omega)) ox
 have K:=fun w=>gRatio_k m.d w (by omega) (by omega)
 have bk:=dnN_bn hm
 have P:=fun w=>gMul_any x (dnN m) w (hx.mono (by omega)) (bk.mono (by omega)) ox (dnN_ok m)
 have F:=fun w=>gFloor_fl (mulN x (dnN m)) f w ((hx.mulN (bk.mono (show 3≤5 by omega)) ox.ne (dnN_ok m).ne).mono (by omega)) (mulN_ok ox (dnN_ok m)) hf
 have h1:decide (sgnN x<(0:Int))=false:=decide_eq_false (by omega)
 rw [hm] at M
 unfold RetI at F
 change ∀ w,Calls Tryz.prog 74 #[.int .i64 m.d,.int .i64 1000] w (RetV (.tuple #[vN (dnN m),.int .i64 0]) w) at K
 generalize sgnN x=s at *
 generalize mulN x (dnN m)=p at *
 generalize dnN m=k at *
 exact vm_pure kr Tryz.func31 rfl [vMt m,vN x] nle [] [.f,.f,.f,.f,.f,(.p _ false h1),.f] [cV (M),cV (V),cV (S),cV (K),cV (P),cV (F)]
theorem eqIv_same (a b:Int) (p q:Operand) (w:World):(eqT .eql 65 p q (.agg #[.int .i64 a,.int .i64 b]) (.agg #[.int .i64 a,.int .i64 b])).run Tryz.prog w = .ok (.bool true) w:=by
 unfold eqT
 go_simp
theorem eqQ_same (a b:Int) (p q:Operand) (w:World):(eqT .eql 62 p q (.agg #[.int .i64 a,.int .i64 b]) (.agg #[.int .i64 a,.int .i64 b])).run Tryz.prog w = .ok (.bool true) w:=by
 unfold eqT
 go_simp
section
variable (m:Mt) (u:Rw) (x y:Int) (w:World)
theorem GN_core (i0 i1 ie c0 c1 ce z me p0 p1 de:Int) (HAW:∀ w',Chg [] w w'→Calls Tryz.prog 10 #[] w' (RetV (.bool true) w')) (g1:decide ((40:Int)<((ByteArray.mk m.nm.toArray).size:Int))=false)
  (F:∀ w,Calls Tryz.prog 11 #[vR u] w (RetV (.bool true) w))
  (I1:∀ w,Calls Tryz.prog 27 #[vMt m] w (RetV (.tuple #[vIv i0 i1,.int .i64 ie]) w)) (I2:∀ w,Calls Tryz.prog 28 #[vMt m] w (RetV (.tuple #[vIv i0 i1,.int .i64 ie]) w))
  (C1:∀ w,Calls Tryz.prog 29 #[vMt m] w (RetV (.tuple #[vIv c0 c1,.int .i64 ce]) w)) (C2:∀ w,Calls Tryz.prog 30 #[vMt m] w (RetV (.tuple #[vIv c0 c1,.int .i64 ce]) w))
  (M1:∀ w,Calls Tryz.prog 12 #[vMt m,vR u] w (RetV (.tuple #[vI z,.int .i64 me]) w)) (M2:∀ w,Calls Tryz.prog 31 #[vMt m,vR u] w (RetV (.tuple #[vI z,.int .i64 me]) w))
  (D1:∀ w,Calls Tryz.prog 17 #[.int .i64 x,.int .i64 y] w (RetV (.tuple #[vIv p0 p1,.int .i64 de]) w)) (D2:∀ w,Calls Tryz.prog 32 #[.int .i64 x,.int .i64 y] w (RetV (.tuple #[vIv p0 p1,.int .i64 de]) w)) :
  Calls Tryz.prog 7 #[vMt m,vR u,.agg #[.int .i64 x,.int .i64 y]] w (RetV (.bool true) w):=by
 exact vm_pure kr Tryz.func7 rfl [vMt m,.agg #[.bool u.n0,.string u.s0,.bool u.n1,.string u.s1,.bool u.n2,.string u.s2,.bool u.n3,.string u.s3,.bool u.n4,.string u.s4],.agg #[.int .i64 x,.int .i64 y]] nle [(13,2),(13,6),(13,11),(13,16),(13,21),(13,26),(13,31),(13,36)] [.f,(.p _ false g1),(.p _ false g1),(.p _ false g1),(.p _ false g1),.f,.t,.t,.t,.t,.t,.t,.t,.t,.t,.t,.t,.t,.t,.t,.t,.t,.t,.t,.t,.t,.t,.t,.t,.t,.t,.t,.t,.t] [cW HAW,cV (F),cV (I1),cV (I2),cV (C1),cV (C2),cV (M1),cV (M2),cV (D1),cV (D2),lV _ (.bool true) (fun w hC=>eqIv_same (i0) (i1) (.tmp 82) (.tmp 83) w),lP (.bool (ie == ie)) (.bool true) (congrArg Value.bool (beq_self_eq_true ie)),lV _ (.bool true) (fun w hC=>eqIv_same (c0) (c1) (.tmp 91) (.tmp 92) w),lP (.bool (ce == ce)) (.bool true) (congrArg Value.bool (beq_self_eq_true ce)),lV _ (.bool true) (fun w hC=>eqI_same (z) (.tmp 101) (.tmp 102) w),lP (.bool (me == me)) (.bool true) (congrArg Value.bool (beq_self_eq_true me)),lV _ (.bool true) (fun w hC=>eqQ_same (p0) (p1) (.tmp 111) (.tmp 112) w),lP (.bool (de == de)) (.bool true) (congrArg Value.bool (beq_self_eq_true de))]
theorem denV_some (a b:Int):∃ p0 p1 de,denV a b = .tuple #[vIv p0 p1,.int .i64 de]:=by
 unfold denV
 split
 ·exact ⟨_,_,_,rfl⟩
 ·exact ⟨0,0,2,rfl⟩
theorem GN_all (hG:GW w) (hu:smallR 80000000 u) (x0:-9223372036854775808≤x) (x1:x≤9223372036854775807) (y0:-9223372036854775808≤y) (y1:y≤9223372036854775807):Calls Tryz.prog 7 #[vMt m,vR u,.agg #[.int .i64 x,.int .i64 y]] w (RetV (.bool true) w):=by
 have HAW:∀ w',Chg [] w w'→Calls Tryz.prog 10 #[] w' (RetV (.bool true) w'):=fun w' hc=>gaawake_any w' (hG.below hc.bl0)
 have z1:((ByteArray.mk m.nm.toArray).size:Int)=(m.nm.length:Int):=by rw [str_size]
 have F1:=fun w=>gFew_any u w hu
 cases g1:decide ((40:Int)<((ByteArray.mk m.nm.toArray).size:Int)) with
 | true =>
  clear F1
  exact vm_pure kr Tryz.func7 rfl [vMt m,.agg #[.bool u.n0,.string u.s0,.bool u.n1,.string u.s1,.bool u.n2,.string u.s2,.bool u.n3,.string u.s3,.bool u.n4,.string u.s4],.agg #[.int .i64 x,.int .i64 y]] nle [] [.f,(.p _ true g1),(.p _ true g1),(.p _ true g1),(.p _ true g1),.t] [cW HAW]
 | false =>
 have k1:=of_decide_eq_false g1
 have hml:m.nm.length≤1000000:=by omega
 cases f1:fewR u with
 | false =>
  rw [f1] at F1
  exact vm_pure kr Tryz.func7 rfl [vMt m,.agg #[.bool u.n0,.string u.s0,.bool u.n1,.string u.s1,.bool u.n2,.string u.s2,.bool u.n3,.string u.s3,.bool u.n4,.string u.s4],.agg #[.int .i64 x,.int .i64 y]] nle [] [.f,(.p _ false g1),(.p _ false g1),(.p _ false g1),(.p _ false g1),.t] [cW HAW,cV (F1)]
 | true =>
 rw [f1] at F1
 obtain ⟨eu,ou,bu⟩:=few_num f1
 have bu:=bn_400 bu
 obtain ⟨p0,p1,de,hde⟩:=denV_some x y
 have D1:=fun w=>gmDensity_any x y w x0 x1 y0 y1
 have D2:=fun w=>gnDensity_any x y w x0 x1 y0 y1
 rw [hde] at D1 D2
 cases hr:rightM m with
 | false =>
  have M1:=fun w=>gmMilligrams_argN m (nmR u) w hr hml
  have M2:=fun w=>gnMilligrams_argN m (nmR u) w hr hml
  rw [← eu] at M1 M2
  exact GN_core m u x y w 0 0 1 0 0 1 0 1 p0 p1 de HAW g1 F1 (fun w=>gmIndex_no m w hml hr) (fun w=>gnIndex_no m w hml hr) (fun w=>gmCritical_no m w hml hr) (fun w=>gnCritical_no m w hml hr) (by rw [vI_zero];exact M1) (by rw [vI_zero];exact M2) D1 D2
 | true =>
  obtain ⟨h0,h1⟩:=rightM_i hr
  obtain ⟨h2,h3,h4⟩:=rt_in h0 h1
  obtain ⟨c0,c1,c2⟩:=cr_in h2 h3 h4
  obtain ⟨r,hrr⟩:=rt_ex (n:=crA (rtL m.i) * 16777216) (by omega)
  obtain ⟨s,hss⟩:=rt_ex (n:=crB (rtH m.i) * 16777216) (by omega)
  have core:=fun z me M1 M2=>GN_core m u x y w (rtL m.i) (rtH m.i) 0 r (upS s (crB (rtH m.i) * 16777216)) 0 z me p0 p1 de HAW g1 F1 (fun w=>gmIndex_yes m w hml hr) (fun w=>gnIndex_yes m w hml hr) (fun w=>gmCritical_yes m r s w hml hr hrr hss) (fun w=>gnCritical_yes m r s w hml hr hrr hss) M1 M2 D1 D2
  rcases Int.lt_or_le (sgnN (nmR u)) 0 with h | h
  ·have M1:=fun w=>gmMilligrams_neg m (nmR u) w hr hml (bu.mono (by omega)) ou h
   have M2:=fun w=>gnMilligrams_neg m (nmR u) w hr hml (bu.mono (by omega)) ou h
   rw [← eu] at M1 M2
   exact core 0 2 (by rw [vI_zero];exact M1) (by rw [vI_zero];exact M2)
  ·obtain ⟨f,hf⟩:=Fl.ex (mulN_ok ou (dnN_ok m))
   have f0:=fl_nonneg (mulN_ok ou (dnN_ok m)) (sgn_mul_nn ou (dnN_ok m) h (dn_pos hr)) hf
   have M1:=fun w=>gmMilligrams_yes m (nmR u) f w hr hml (bu.mono (by omega)) ou h hf
   have M2:=fun w=>gnMilligrams_yes m (nmR u) f w hr hml (bu.mono (by omega)) ou h hf
   rw [show ((f.natAbs:Nat):Int)=f by omega] at M1
   rw [← eu] at M1 M2
   exact core f 0 M1 M2
end
end Go.Proofs.YtlhddcingeneaaaGreatDoor
