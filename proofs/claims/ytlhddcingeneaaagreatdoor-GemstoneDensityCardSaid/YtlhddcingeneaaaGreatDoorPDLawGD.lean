/- GemstoneDensity: the ends of a density. -/
import Derived.Test.YtlhddcingeneaaaGreatDoorPDY
namespace Go.Proofs.YtlhddcingeneaaaGreatDoor
open Go Go.RowKit
set_option maxRecDepth 100000
set_option linter.unusedVariables false
set_option linter.unusedSimpArgs false
theorem gconv32 (n:Nat) (h:n<4294967296) (w:World):(convert 41 3 (.int .u32 (n:Int))).run Tryz.prog w = .ok (.int .i64 (n:Int)) w:=by
 have:IntKind.i64.wrap (n:Int)=n:=wr64 (by omega) (by omega)
 go_simp
 try rw [this]
theorem gconv8 (n:Nat) (h:n<256) (w:World):(convert 5 3 (.int .u8 (n:Int))).run Tryz.prog w = .ok (.int .i64 (n:Int)) w:=by
 have:IntKind.i64.wrap (n:Int)=n:=wr64 (by omega) (by omega)
 go_simp
 try rw [this]
theorem gmrem (n m k:Nat) (hm:0<m) (h:n % m=k) (w:World):(Op.intDiv .rem .i64 (n:Int) (m:Int)).run Tryz.prog w = .ok (.int .i64 (k:Int)) w:=by
 have e:(n:Int).tmod (m:Int)=(k:Int):=by rw [Int.tmod_eq_emod_of_nonneg (by omega),← h];rfl
 unfold Op.intDiv
 rw [if_neg (by omega)]
 simp only [e]
 rfl
theorem zgz {x y k:Int} (hx:0≤x) (hy:1≤y) (hk:1≤k):x * k / (y * k)=x / y∧(x * k+y * k - 1) / (y * k)=(x+y - 1) / y:=by
 refine ⟨Int.mul_ediv_mul_of_pos_left _ _ (by omega),?_⟩
 have h1:=Int.ediv_mul_le (x+y - 1) (show y≠0 by omega)
 have h2:=Int.lt_ediv_add_one_mul_self (x+y - 1) (show 0<y by omega)
 generalize (x+y - 1) / y=q at *
 have hyk:0<y * k:=Int.mul_pos (by omega) (by omega)
 -- (q - 1) y<x≤q y
 have h3:x≤q * y:=by rw [Int.add_mul] at h2;omega
 have h4:(q - 1) * y+1≤x:=by rw [Int.sub_mul];omega
 have h5:x * k≤q * (y * k):=by
  have:=Int.mul_le_mul_of_nonneg_right h3 (show 0≤k by omega)
  rwa [Int.mul_assoc] at this
 have h6:(q - 1) * (y * k)+k≤x * k:=by
  have:=Int.mul_le_mul_of_nonneg_right h4 (show 0≤k by omega)
  rw [Int.add_mul,Int.mul_assoc,Int.one_mul] at this
  exact this
 rw [Int.sub_mul] at h6
 refine Int.le_antisymm ?_ ?_
 ·refine Int.le_of_lt_add_one (Int.ediv_lt_of_lt_mul hyk ?_)
  rw [Int.add_mul];omega
 ·refine Int.le_ediv_of_mul_le hyk ?_
  omega
structure DenFacts (a b lo hi:Int):Prop where
 l0:0≤lo
 l1:lo≤2000000000000000
 u0:0≤hi
 u1:hi≤2000000000000000
 near:hi - lo≤1
 up:0≤hi - lo
 below:lo * (a - b)≤a * 1000
 above:a * 1000≤hi * (a - b)
 lb:0≤lo * (a - b)
 hb:hi * (a - b)≤a * 1000+(a - b)
theorem zgu {a b:Int} (h:denOk a b=true):DenFacts a b (a * 1000 / (a - b)) ((a * 1000+(a - b) - 1) / (a - b)):=by
 unfold denOk at h
 simp only [Bool.and_eq_true,decide_eq_true_eq] at h
 obtain ⟨⟨⟨g1,g2⟩,g3⟩,g4⟩:=h
 have e1:=zbx (x:=a * 1000) (y:=a - b) (by omega) (by omega) (by omega)
 have e2:=zbx (x:=a * 1000+(a - b) - 1) (y:=a - b) (by omega) (by omega) (by omega)
 have h1:=Int.ediv_mul_le (a * 1000) (show a - b≠0 by omega)
 have h2:=Int.lt_ediv_add_one_mul_self (a * 1000) (show 0<a - b by omega)
 have h3:=Int.ediv_mul_le (a * 1000+(a - b) - 1) (show a - b≠0 by omega)
 have h4:=Int.lt_ediv_add_one_mul_self (a * 1000+(a - b) - 1) (show 0<a - b by omega)
 generalize a * 1000 / (a - b)=lo at *
 generalize (a * 1000+(a - b) - 1) / (a - b)=hi at *
 have hD:0<a - b:=by omega
 rw [Int.add_mul] at h2 h4
 have n1:hi<lo+2:=Int.lt_of_mul_lt_mul_right (a:=a - b) (by rw [Int.add_mul];omega) (by omega)
 have n2:lo≤hi:=Int.le_of_mul_le_mul_right (a:=a - b) (by omega) hD
 exact ⟨e1.1,e1.2,e2.1,e2.2,by omega,by omega,h1,by omega,Int.mul_nonneg e1.1 (by omega),by omega⟩
theorem zeO {a b k:Int} (hk:1≤k) (hk9:k≤9) (ha:0≤a) (ha9:a<1000000000) (hb:0≤b) (hb9:b<1000000000):denOk (a * k) (b * k)=denOk a b:=by
 unfold denOk
 have:k=1∨k=2∨k=3∨k=4∨k=5∨k=6∨k=7∨k=8∨k=9:=by omega
 rcases this with rfl | rfl | rfl | rfl | rfl | rfl | rfl | rfl | rfl
 all_goals
  rw [Bool.eq_iff_iff]
  simp only [Bool.and_eq_true,decide_eq_true_eq]
  omega
theorem zfq {a b k:Int} (hk:1≤k) (hk9:k≤9) (ha:0≤a) (ha9:a<1000000000) (hb:0≤b) (hb9:b<1000000000):denV (a * k) (b * k)=denV a b:=by
 unfold denV
 rw [zeO hk hk9 ha ha9 hb hb9]
 cases h:denOk a b with
 | false=>rfl
 | true =>
  have h':=h
  unfold denOk at h
  simp only [Bool.and_eq_true,decide_eq_true_eq] at h
  obtain ⟨s1,s2⟩:=zgz (x:=a * 1000) (y:=a - b) (k:=k) (by omega) (by omega) hk
  rw [if_pos rfl,if_pos rfl,show a * k * 1000=a * 1000 * k by rw [Int.mul_assoc,Int.mul_assoc,Int.mul_comm k],show a * k - b * k=(a - b) * k by rw [Int.sub_mul],s1,s2]
theorem zhx (x:Int × Int) (p q:Operand) (w:World):(eqT .eql 44 p q (.agg #[.int .i64 x.1,.int .i64 x.2]) (.agg #[.int .i64 x.1,.int .i64 x.2])).run Tryz.prog w = .ok (.bool true) w:=by
 unfold eqT
 go_simp
theorem zj7 (n0 n1 k:Nat) (w:World) (hG:GW w) (h0:n0<4294967296) (h1:n1<4294967296) (hk:k<256):Calls Tryz.prog 4 #[.agg #[.int .u32 (n0:Int),.int .u32 (n1:Int)],.int .u8 (k:Int)] w (RetV (.bool true) w):=by
 have HAW:=fun w' (hc:Chg [] w w')=>zev w' (hG.below hc.bl0)
 have C0:=fun w=>gconv32 n0 h0 w
 have C1:=fun w=>gconv32 n1 h1 w
 have CK:=fun w=>gconv8 k hk w
 obtain ⟨a,ea⟩:∃ a,n0 % 1000000000=a:=⟨_,rfl⟩
 obtain ⟨b,eb⟩:∃ b,n1 % 1000000000=b:=⟨_,rfl⟩
 obtain ⟨r,er⟩:∃ r,k % 9=r:=⟨_,rfl⟩
 have ha:a<1000000000:=by omega
 have hb:b<1000000000:=by omega
 have hr:r<9:=by omega
 have R0:=fun w=>gmrem n0 1000000000 a (by omega) ea w
 have R1:=fun w=>gmrem n1 1000000000 b (by omega) eb w
 have RK:=fun w=>gmrem k 9 r (by omega) er w
 have ba:(a:Int) * (1+(r:Int))≤9000000000∧0≤(a:Int) * (1+(r:Int)):=by
  have:r=0∨r=1∨r=2∨r=3∨r=4∨r=5∨r=6∨r=7∨r=8:=by omega
  rcases this with rfl | rfl | rfl | rfl | rfl | rfl | rfl | rfl | rfl <;> omega
 have bb:(b:Int) * (1+(r:Int))≤9000000000∧0≤(b:Int) * (1+(r:Int)):=by
  have:r=0∨r=1∨r=2∨r=3∨r=4∨r=5∨r=6∨r=7∨r=8:=by omega
  rcases this with rfl | rfl | rfl | rfl | rfl | rfl | rfl | rfl | rfl <;> omega
 have v1:IntKind.i64.wrap (1+(r:Int))=1+(r:Int):=wr64 (by omega) (by omega)
 have v2:IntKind.i64.wrap ((a:Int) * (1+(r:Int)))=(a:Int) * (1+(r:Int)):=wr64 (by omega) (by omega)
 have v3:IntKind.i64.wrap ((b:Int) * (1+(r:Int)))=(b:Int) * (1+(r:Int)):=wr64 (by omega) (by omega)
 have D1:=fun w=>zbb (a:Int) (b:Int) w (by omega) (by omega) (by omega) (by omega)
 have D2:=fun w=>zbb ((a:Int) * (1+(r:Int))) ((b:Int) * (1+(r:Int))) w (by omega) (by omega) (by omega) (by omega)
 rw [zfq (a:=(a:Int)) (b:=(b:Int)) (k:=1+(r:Int)) (by omega) (by omega) (by omega) (by omega) (by omega) (by omega)] at D2
 clear er ea eb
 unfold denV at D1 D2
 cases hd:denOk (a:Int) (b:Int) with
 | false =>
  rw [hd,if_neg (by decide)] at D1 D2
  unfold denOk at hd
  clear ba bb
  by_cases g:(b:Int)<1
  ·have g1:decide ((b:Int)<(1:Int))=true:=decide_eq_true g
   exact zaa kr Tryz.func4 rfl [.agg #[.int .u32 (n0:Int),.int .u32 (n1:Int)],.int .u8 (k:Int)] nle [(3,2),(3,3),(3,6),(3,7),(5,2),(5,3),(5,4),(5,5),(5,8),(5,9),(5,10),(5,11)] [.f,.t,.t,.t,.t,.t,.t,.t,.t,(.p _ true g1),(.p _ true g1),(.p _ true g1),.t,(.p _ true g1),.t] [cW HAW,lV (convert 41 3 (.int .u32 (n0:Int))) (.int .i64 (n0:Int)) (fun w hC=>C0 w),lV (Op.intDiv .rem .i64 (((n0:Int)):Int) ((1000000000):Int)) (.int .i64 ((a:Int))) (fun w hC=>R0 w),lV (convert 41 3 (.int .u32 (n1:Int))) (.int .i64 (n1:Int)) (fun w hC=>C1 w),lV (Op.intDiv .rem .i64 (((n1:Int)):Int) ((1000000000):Int)) (.int .i64 ((b:Int))) (fun w hC=>R1 w),cV (D1),lV (convert 5 3 (.int .u8 (k:Int))) (.int .i64 (k:Int)) (fun w hC=>CK w),lV (Op.intDiv .rem .i64 (((k:Int)):Int) ((9):Int)) (.int .i64 ((r:Int))) (fun w hC=>RK w),lE .i64 (((1):Int)+(((r:Int)):Int)) (1+(r:Int)) (v1),lE .i64 ((((a:Int)):Int) * ((1+(r:Int)):Int)) ((a:Int) * (1+(r:Int))) (v2),lV (convert 5 3 (.int .u8 (k:Int))) (.int .i64 (k:Int)) (fun w hC=>CK w),lV (Op.intDiv .rem .i64 (((k:Int)):Int) ((9):Int)) (.int .i64 ((r:Int))) (fun w hC=>RK w),lE .i64 (((1):Int)+(((r:Int)):Int)) (1+(r:Int)) (v1),lE .i64 ((((b:Int)):Int) * ((1+(r:Int)):Int)) ((b:Int) * (1+(r:Int))) (v3),cV (D2)]
  ·have g1:decide ((b:Int)<(1:Int))=false:=decide_eq_false g
   have g2:decide ((a:Int)≤(b:Int))=true:=decide_eq_true (by
    simp only [Bool.and_eq_false_iff,decide_eq_false_iff_not] at hd
    omega)
   exact zaa kr Tryz.func4 rfl [.agg #[.int .u32 (n0:Int),.int .u32 (n1:Int)],.int .u8 (k:Int)] nle [(3,2),(3,3),(3,6),(3,7),(5,2),(5,3),(5,4),(5,5),(5,8),(5,9),(5,10),(5,11),(7,13)] [.f,.t,.t,.t,.t,.t,.t,.t,.t,(.p _ false g1),(.p _ false g1),(.p _ false g1),.t,(.p _ false g1),.t] [cW HAW,lV (convert 41 3 (.int .u32 (n0:Int))) (.int .i64 (n0:Int)) (fun w hC=>C0 w),lV (Op.intDiv .rem .i64 (((n0:Int)):Int) ((1000000000):Int)) (.int .i64 ((a:Int))) (fun w hC=>R0 w),lV (convert 41 3 (.int .u32 (n1:Int))) (.int .i64 (n1:Int)) (fun w hC=>C1 w),lV (Op.intDiv .rem .i64 (((n1:Int)):Int) ((1000000000):Int)) (.int .i64 ((b:Int))) (fun w hC=>R1 w),cV (D1),lV (convert 5 3 (.int .u8 (k:Int))) (.int .i64 (k:Int)) (fun w hC=>CK w),lV (Op.intDiv .rem .i64 (((k:Int)):Int) ((9):Int)) (.int .i64 ((r:Int))) (fun w hC=>RK w),lE .i64 (((1):Int)+(((r:Int)):Int)) (1+(r:Int)) (v1),lE .i64 ((((a:Int)):Int) * ((1+(r:Int)):Int)) ((a:Int) * (1+(r:Int))) (v2),lV (convert 5 3 (.int .u8 (k:Int))) (.int .i64 (k:Int)) (fun w hC=>CK w),lV (Op.intDiv .rem .i64 (((k:Int)):Int) ((9):Int)) (.int .i64 ((r:Int))) (fun w hC=>RK w),lE .i64 (((1):Int)+(((r:Int)):Int)) (1+(r:Int)) (v1),lE .i64 ((((b:Int)):Int) * ((1+(r:Int)):Int)) ((b:Int) * (1+(r:Int))) (v3),cV (D2),lP (.bool (decide ((a:Int)≤(b:Int)))) (.bool true) (congrArg Value.bool g2)]
 | true =>
  rw [hd,if_pos rfl] at D1 D2
  obtain ⟨l0,l1,u0,u1,f1,f2,f3,f4,f5,f6⟩:=zgu hd
  generalize (a:Int) * 1000 / ((a:Int) - (b:Int))=lo at *
  generalize ((a:Int) * 1000+((a:Int) - (b:Int)) - 1) / ((a:Int) - (b:Int))=hi at *
  have w1:IntKind.i64.wrap (hi - lo)=hi - lo:=wr64 (by omega) (by omega)
  have w2:IntKind.i64.wrap ((a:Int) - (b:Int))=(a:Int) - (b:Int):=wr64 (by omega) (by omega)
  have w3:IntKind.i64.wrap (lo * ((a:Int) - (b:Int)))=lo * ((a:Int) - (b:Int)):=wr64 (by omega) (by omega)
  have w4:IntKind.i64.wrap ((a:Int) * 1000)=(a:Int) * 1000:=wr64 (by omega) (by omega)
  have w5:IntKind.i64.wrap (hi * ((a:Int) - (b:Int)))=hi * ((a:Int) - (b:Int)):=wr64 (by omega) (by omega)
  have d1:decide (hi - lo≤1)=true:=decide_eq_true f1
  have d2:decide (0≤hi - lo)=true:=decide_eq_true f2
  have d3:decide (lo * ((a:Int) - (b:Int))≤(a:Int) * 1000)=true:=decide_eq_true f3
  have d4:decide ((a:Int) * 1000≤hi * ((a:Int) - (b:Int)))=true:=decide_eq_true f4
  clear f1 f2 f3 f4 f5 f6 l0 l1 u0 u1 ba bb
  exact zaa kr Tryz.func4 rfl [.agg #[.int .u32 (n0:Int),.int .u32 (n1:Int)],.int .u8 (k:Int)] nle [(3,2),(3,3),(3,6),(3,7),(5,2),(5,3),(5,4),(5,5),(5,8),(5,9),(5,10),(5,11),(8,5),(8,12),(8,20),(8,28),(8,29),(8,31),(8,36),(8,41),(8,42),(8,43)] [.f,.f,.t,.t,.t,.t,.t,.t,.t,.t,.t,.t,.t,(.p _ true d1),(.p _ true d1),(.p _ true d1),(.p _ true d1),(.p _ true d1),(.p _ true d1),(.p _ true d1),(.p _ true d2),(.p _ true d2),(.p _ true d2),(.p _ true d2),(.p _ true d2),(.p _ true d2),(.p _ true d2),(.p _ true d2),(.p _ true d2),(.p _ true d2),(.p _ true d3),(.p _ true d3),(.p _ true d3),(.p _ true d3),(.p _ true d3),(.p _ true d3),(.p _ true d3),(.p _ true d3),(.p _ true d3),(.p _ true d3)] [cW HAW,lV (convert 41 3 (.int .u32 (n0:Int))) (.int .i64 (n0:Int)) (fun w hC=>C0 w),lV (Op.intDiv .rem .i64 (((n0:Int)):Int) ((1000000000):Int)) (.int .i64 ((a:Int))) (fun w hC=>R0 w),lV (convert 41 3 (.int .u32 (n1:Int))) (.int .i64 (n1:Int)) (fun w hC=>C1 w),lV (Op.intDiv .rem .i64 (((n1:Int)):Int) ((1000000000):Int)) (.int .i64 ((b:Int))) (fun w hC=>R1 w),cV (D1),lV (convert 5 3 (.int .u8 (k:Int))) (.int .i64 (k:Int)) (fun w hC=>CK w),lV (Op.intDiv .rem .i64 (((k:Int)):Int) ((9):Int)) (.int .i64 ((r:Int))) (fun w hC=>RK w),lE .i64 (((1):Int)+(((r:Int)):Int)) (1+(r:Int)) (v1),lE .i64 ((((a:Int)):Int) * ((1+(r:Int)):Int)) ((a:Int) * (1+(r:Int))) (v2),lV (convert 5 3 (.int .u8 (k:Int))) (.int .i64 (k:Int)) (fun w hC=>CK w),lV (Op.intDiv .rem .i64 (((k:Int)):Int) ((9):Int)) (.int .i64 ((r:Int))) (fun w hC=>RK w),lE .i64 (((1):Int)+(((r:Int)):Int)) (1+(r:Int)) (v1),lE .i64 ((((b:Int)):Int) * ((1+(r:Int)):Int)) ((b:Int) * (1+(r:Int))) (v3),cV (D2),lV _ (.bool true) (fun w hC=>zhx ((lo,hi)) (.tmp 64) (.tmp 65) w),lE .i64 (((hi):Int) - ((lo):Int)) (hi - lo) (w1),lE .i64 (((hi):Int) - ((lo):Int)) (hi - lo) (w1),lE .i64 ((((a:Int)):Int) - (((b:Int)):Int)) ((a:Int) - (b:Int)) (w2),lE .i64 (((lo):Int) * (((a:Int) - (b:Int)):Int)) (lo * ((a:Int) - (b:Int))) (w3),lE .i64 ((((a:Int)):Int) * ((1000):Int)) ((a:Int) * 1000) (w4),lE .i64 ((((a:Int)):Int) * ((1000):Int)) ((a:Int) * 1000) (w4),lE .i64 ((((a:Int)):Int) - (((b:Int)):Int)) ((a:Int) - (b:Int)) (w2),lE .i64 (((hi):Int) * (((a:Int) - (b:Int)):Int)) (hi * ((a:Int) - (b:Int))) (w5),lP (.bool (decide ((a:Int) * 1000≤hi * ((a:Int) - (b:Int))))) (.bool true) (congrArg Value.bool d4)]
theorem zkd (n0 n1 k:Int) (w:World) (hG:GW w) (h0:0≤n0∧n0≤4294967295) (h1:0≤n1∧n1≤4294967295) (hk:0≤k∧k≤255):Calls Tryz.prog 4 #[.agg #[.int .u32 n0,.int .u32 n1],.int .u8 k] w (RetV (.bool true) w):=by
 obtain ⟨a,rfl⟩:=Int.eq_ofNat_of_zero_le h0.1
 obtain ⟨b,rfl⟩:=Int.eq_ofNat_of_zero_le h1.1
 obtain ⟨c,rfl⟩:=Int.eq_ofNat_of_zero_le hk.1
 exact zj7 a b c w hG (by omega) (by omega) (by omega)
end Go.Proofs.YtlhddcingeneaaaGreatDoor
