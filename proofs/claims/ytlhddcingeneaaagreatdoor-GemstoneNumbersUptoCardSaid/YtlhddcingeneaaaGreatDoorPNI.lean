import Derived.Test.YtlhddcingeneaaaGreatDoorPNE
import Derived.Test.YtlhddcingeneaaaGreatDoorPNB
import Derived.Test.YtlhddcingeneaaaGreatDoorPNH
/- Comparing integers for equality,as the program does. -/
set_option linter.unusedVariables false
set_option linter.unusedSimpArgs false
set_option maxRecDepth 100000
set_option maxHeartbeats 8000000
namespace Go.Proofs.YtlhddcingeneaaaGreatDoor
open Go Go.RowKit
abbrev eqT (o:BinOp) (t:TypeId) (p q:Operand) (a b:Value):Sem Value:=do eqGuard o t p q a b;binOp o t a b
theorem vI_ne' {x y:Int} (h:x≠y):sg x=sg y→¬ (mg x).toList=(mg y).toList:=fun h1 h2=>by
 rw [ByteArray.toList_eq,ByteArray.toList_eq] at h2
 exact h (sg_mg_inj h1 (ByteArray.ext (Array.toList_inj.1 h2)))
theorem eqI_same (x:Int) (p q:Operand) (w:World):(eqT .eql 25 p q (vI x) (vI x)).run Tryz.prog w = .ok (.bool true) w:=by
 unfold eqT
 go_simp
theorem eqI_diff (x y:Int) (h:x≠y) (p q:Operand) (w:World):(eqT .eql 25 p q (vI x) (vI y)).run Tryz.prog w = .ok (.bool false) w:=by
 have:=vI_ne' h
 unfold eqT
 go_simp
 exact this
theorem neI_same (x:Int) (p q:Operand) (w:World):(eqT .neq 25 p q (vI x) (vI x)).run Tryz.prog w = .ok (.bool false) w:=by
 unfold eqT
 go_simp
theorem neI_diff (x y:Int) (h:x≠y) (p q:Operand) (w:World):(eqT .neq 25 p q (vI x) (vI y)).run Tryz.prog w = .ok (.bool true) w:=by
 have:=vI_ne' h
 unfold eqT
 go_simp
 exact this

def vA4 (a b c d:Int):Value:=.agg #[.bool (sg a),.string (mg a),.bool (sg b),.string (mg b),.bool (sg c),.string (mg c),.bool (sg d),.string (mg d)]
def vN (x:Nm):Value:=.agg #[.bool (sg x.c0),.string (mg x.c0),.bool (sg x.c1),.string (mg x.c1),.bool (sg x.c2),.string (mg x.c2),.bool (sg x.c3),.string (mg x.c3),.bool (sg x.d),.string (mg x.d)]

structure BN (k:Nat) (x:Nm):Prop where
 h0:Bd k x.c0
 h1:Bd k x.c1
 h2:Bd k x.c2
 h3:Bd k x.c3
 h4:Bd k x.d
theorem BN.mono {a b:Nat} {x:Nm} (h:BN a x) (hab:a≤b):BN b x:=⟨h.h0.mono hab,h.h1.mono hab,h.h2.mono hab,h.h3.mono hab,h.h4.mono hab⟩
theorem Bd.gcd {k:Nat} {x y:Int} (hx:Bd k x) (hy:Bd k y):Bd k ((Nat.gcd x.natAbs y.natAbs:Nat):Int):=by
 by_cases h:x=0
 ·subst h
  refine hy.le ?_
  simp
 ·refine hx.le ?_
  rw [Int.natAbs_natCast]
  exact Nat.gcd_le_left _ (by omega)
theorem Bd.fdiv {k:Nat} {x g:Int} (hx:Bd k x) (hg:g≠0) (h:g∣x):Bd k (x.fdiv g):=by
 have h1:=fdiv_mul_of_dvd hg h
 refine hx.le ?_
 have h2:=congrArg Int.natAbs h1
 rw [Int.natAbs_mul] at h2
 rw [← h2]
 exact Nat.le_mul_of_pos_right _ (by omega)
theorem fover_any (x y:Int) (w:World) (hx:Bd 100000000 x) (hy:Bd 100000000 y) (h0:y≠0):Calls Tryz.prog 193 #[vI x,vI y] w (RetI (x.fdiv y) w):=by
 have H1:=fun w=>DivMod_any x y w hx hy h0
 show Calls Tryz.prog 193 #[.agg #[.bool (sg x),.string (mg x)],.agg #[.bool (sg y),.string (mg y)]] w (RetV (vI (x.fdiv y)) w)
 exact vm_pure kr Tryz.func193 rfl [.agg #[.bool (sg x),.string (mg x)],.agg #[.bool (sg y),.string (mg y)]] nle [] [] [cV (H1)]
theorem fcommon_any (x:Nm) (w:World) (h:BN 80000000 x):Calls Tryz.prog 89 #[vA4 x.c0 x.c1 x.c2 x.c3,vI x.d] w (RetI (cof x:Nat) w):=by
 obtain ⟨a,b,c,d,e⟩:=x
 obtain ⟨h0,h1,h2,h3,h4⟩:=h
 simp only at h0 h1 h2 h3 h4 ⊢
 obtain ⟨g1,hg1⟩:∃ g:Nat,g=e.natAbs.gcd a.natAbs:=⟨_,rfl⟩
 obtain ⟨g2,hg2⟩:∃ g:Nat,g=g1.gcd b.natAbs:=⟨_,rfl⟩
 obtain ⟨g3,hg3⟩:∃ g:Nat,g=g2.gcd c.natAbs:=⟨_,rfl⟩
 obtain ⟨g4,hg4⟩:∃ g:Nat,g=g3.gcd d.natAbs:=⟨_,rfl⟩
 have b1:=h4.gcd h0
 rw [← hg1] at b1
 have b2:=b1.gcd h1
 rw [Int.natAbs_natCast,← hg2] at b2
 have b3:=b2.gcd h2
 rw [Int.natAbs_natCast,← hg3] at b3
 have H1:=fun w=>Gcd_any e a w h4 h0
 have H2:=fun w=>Gcd_any (g1:Int) b w b1 h1
 have H3:=fun w=>Gcd_any (g2:Int) c w b2 h2
 have H4:=fun w=>Gcd_any (g3:Int) d w b3 h3
 simp only [Int.natAbs_natCast,← hg1,← hg2,← hg3,← hg4] at H1 H2 H3 H4
 have hc:cof ⟨a,b,c,d,e⟩=g4:=by unfold cof;simp only;rw [hg4,hg3,hg2,hg1]
 rw [hc]
 clear hc hg1 hg2 hg3 hg4
 show Calls Tryz.prog 89 #[.agg #[.bool (sg a),.string (mg a),.bool (sg b),.string (mg b),.bool (sg c),.string (mg c),.bool (sg d),.string (mg d)],.agg #[.bool (sg e),.string (mg e)]] w (RetV (vI (g4:Nat)) w)
 exact vm_pure kr Tryz.func89 rfl [.agg #[.bool (sg a),.string (mg a),.bool (sg b),.string (mg b),.bool (sg c),.string (mg c),.bool (sg d),.string (mg d)],.agg #[.bool (sg e),.string (mg e)]] nle [] [.t,.t,.t,.t,.f] [cV (H1),cV (H2),cV (H3),cV (H4)]
theorem BN.low {k:Nat} {x:Nm} (h:BN k x) (hd:x.d≠0):BN k (low x):=by
 have hg:=sgG_ne hd
 obtain ⟨h0,h1,h2,h3,h4⟩:=sgG_dvd x
 exact ⟨h.h0.fdiv hg h0,h.h1.fdiv hg h1,h.h2.fdiv hg h2,h.h3.fdiv hg h3,h.h4.fdiv hg h4⟩
theorem Bd.cof {k:Nat} {x:Nm} (h:BN k x):Bd k (cof x:Nat):=by
 have b1:=h.h4.gcd h.h0
 have b2:=b1.gcd h.h1
 have b3:=b2.gcd h.h2
 have b4:=b3.gcd h.h3
 simp only [Int.natAbs_natCast] at b4
 exact b4
theorem fdiv_one' (x:Int):x.fdiv 1=x:=by simp
theorem flowest_any (x:Nm) (w:World) (h:BN 80000000 x) (hd:x.d≠0):Calls Tryz.prog 155 #[vA4 x.c0 x.c1 x.c2 x.c3,vI x.d] w (RetV (vN (low x)) w):=by
 have HC:=fun w=>fcommon_any x w h
 have hS:=fun w=>Sign_any x.d w
 have hO:=fun w=>Of_any 1 w (by omega) (by omega)
 have hc:=cof_pos hd
 have hB:=Bd.cof h
 have hne:=sgG_ne hd
 have hbG:Bd 80000000 (sgG x):=by unfold sgG;split;exact hB.neg;exact hB
 have V0:=fun w=>fover_any x.c0 (sgG x) w (h.h0.mono (by omega)) (hbG.mono (by omega)) hne
 have V1:=fun w=>fover_any x.c1 (sgG x) w (h.h1.mono (by omega)) (hbG.mono (by omega)) hne
 have V2:=fun w=>fover_any x.c2 (sgG x) w (h.h2.mono (by omega)) (hbG.mono (by omega)) hne
 have V3:=fun w=>fover_any x.c3 (sgG x) w (h.h3.mono (by omega)) (hbG.mono (by omega)) hne
 have V4:=fun w=>fover_any x.d (sgG x) w (h.h4.mono (by omega)) (hbG.mono (by omega)) hne
 by_cases hn:x.d<0
 ·have hs:decide (x.d.sign<0)=true:=decide_eq_true (by rw [Int.sign_eq_neg_one_of_neg hn];omega)
  have hG:sgG x = -(cof x:Int):=by unfold sgG;rw [if_pos hn]
  have HN:=fun w=>Neg_any (cof x:Nat) w
  rw [← hG] at HN
  have h1:sgG x≠1:=by omega
  unfold low
  generalize (cof x:Int)=c at *
  generalize sgG x=g at *
  show Calls Tryz.prog 155 #[vA4 x.c0 x.c1 x.c2 x.c3,.agg #[.bool (sg x.d),.string (mg x.d)]] w _
  exact vm_pure kr Tryz.func155 rfl [.agg #[.bool (sg x.c0),.string (mg x.c0),.bool (sg x.c1),.string (mg x.c1),.bool (sg x.c2),.string (mg x.c2),.bool (sg x.c3),.string (mg x.c3)],.agg #[.bool (sg x.d),.string (mg x.d)]] nle [(4,2)] [(.p _ true hs),.f,.t,.t,.t,.t,.f] [cV (HC),cV (hS),cV (HN),cV (hO),lV _ (.bool false) (fun w hC=>eqI_diff (g) (1) (h1) (.tmp 15) (.tmp 16) w),cV (V0),cV (V1),cV (V2),cV (V3),cV (V4)]
 ·have hs:decide (x.d.sign<0)=false:=decide_eq_false (by rw [Int.sign_eq_one_of_pos (by omega)];omega)
  have hG:sgG x=(cof x:Int):=by unfold sgG;rw [if_neg hn]
  rw [← hG] at HC
  by_cases h1:sgG x=1
  ·have e:low x=x:=by unfold low;rw [h1];exact Nm.ext (fdiv_one' _) (fdiv_one' _) (fdiv_one' _) (fdiv_one' _) (fdiv_one' _)
   rw [e]
   rw [h1] at HC
   show Calls Tryz.prog 155 #[vA4 x.c0 x.c1 x.c2 x.c3,.agg #[.bool (sg x.d),.string (mg x.d)]] w _
   exact vm_pure kr Tryz.func155 rfl [.agg #[.bool (sg x.c0),.string (mg x.c0),.bool (sg x.c1),.string (mg x.c1),.bool (sg x.c2),.string (mg x.c2),.bool (sg x.c3),.string (mg x.c3)],.agg #[.bool (sg x.d),.string (mg x.d)]] nle [(4,2)] [(.p _ false hs),.t] [cV (HC),cV (hS),cV (hO),lV _ (.bool true) (fun w hC=>eqI_same (1) (.tmp 15) (.tmp 16) w)]
  ·unfold low
   generalize sgG x=g at *
   show Calls Tryz.prog 155 #[vA4 x.c0 x.c1 x.c2 x.c3,.agg #[.bool (sg x.d),.string (mg x.d)]] w _
   exact vm_pure kr Tryz.func155 rfl [.agg #[.bool (sg x.c0),.string (mg x.c0),.bool (sg x.c1),.string (mg x.c1),.bool (sg x.c2),.string (mg x.c2),.bool (sg x.c3),.string (mg x.c3)],.agg #[.bool (sg x.d),.string (mg x.d)]] nle [(4,2)] [(.p _ false hs),.f,.t,.t,.t,.t,.f] [cV (HC),cV (hS),cV (hO),lV _ (.bool false) (fun w hC=>eqI_diff (g) (1) (h1) (.tmp 15) (.tmp 16) w),cV (V0),cV (V1),cV (V2),cV (V3),cV (V4)]

theorem sg0:sg 0=false:=rfl
theorem mg0:mg 0=⟨#[]⟩:=by
 have h:=vI_zero
 unfold vI at h
 injection h with h
 have h2:=congrArg (fun a:Array Value=>a[1]?) h
 simpa using h2
def vZ:Value:=.agg #[.bool false,.string ⟨#[]⟩,.bool false,.string ⟨#[]⟩,.bool false,.string ⟨#[]⟩,.bool false,.string ⟨#[]⟩,.bool false,.string ⟨#[]⟩]
theorem vN_one (n d:Int):vN ⟨n,0,0,0,d⟩ = .agg #[.bool (sg n),.string (mg n),.bool false,.string ⟨#[]⟩,.bool false,.string ⟨#[]⟩,.bool false,.string ⟨#[]⟩,.bool (sg d),.string (mg d)]:=by unfold vN;simp only [sg0,mg0]
def intN (n:Int):Nm:=⟨n,0,0,0,1⟩
theorem intN_ok (n:Int):Ok (intN n):=⟨by show (0:Int)<1;decide,by unfold cof intN;simp⟩
theorem fwhole_any (n:Int) (w:World):Calls Tryz.prog 100 #[vI n] w (RetV (vN (intN n)) w):=by
 have H2:=fun w=>Of_any 1 w (by omega) (by omega)
 unfold intN
 rw [vN_one]
 show Calls Tryz.prog 100 #[.agg #[.bool (sg n),.string (mg n)]] w _
 exact vm_pure kr Tryz.func100 rfl [.agg #[.bool (sg n),.string (mg n)]] nle [] [] [cV (H2)]
def rootN (k:Int):Nm:=if k=2 then ⟨0,1,0,0,1⟩ else if k=3 then ⟨0,0,1,0,1⟩ else if k=6 then ⟨0,0,0,1,1⟩ else zN
theorem fMake_int (x:Nm) (w:World) (h:BN 80000000 x) (hd:x.d≠0):Calls Tryz.prog 96 #[vA4 x.c0 x.c1 x.c2 x.c3,vI x.d] w (RetV (.tuple #[vN (low x),.int .i64 0]) w):=by
 have V0:=fun w=>Valid_yes x.c0 w
 have V1:=fun w=>Valid_yes x.c1 w
 have V2:=fun w=>Valid_yes x.c2 w
 have V3:=fun w=>Valid_yes x.c3 w
 have V4:=fun w=>Valid_yes x.d w
 have S:=fun w=>Sign_any x.d w
 have L:=fun w=>flowest_any x w h hd
 have hs:(x.d.sign == 0)=false:=by rw [beq_eq_false_iff_ne];exact fun e=>hd (Int.sign_eq_zero_iff_zero.1 e)
 generalize low x=l at *
 show Calls Tryz.prog 96 #[vA4 x.c0 x.c1 x.c2 x.c3,.agg #[.bool (sg x.d),.string (mg x.d)]] w _
 exact vm_pure kr Tryz.func96 rfl [.agg #[.bool (sg x.c0),.string (mg x.c0),.bool (sg x.c1),.string (mg x.c1),.bool (sg x.c2),.string (mg x.c2),.bool (sg x.c3),.string (mg x.c3)],.agg #[.bool (sg x.d),.string (mg x.d)]] nle [] [.t,.f,.t,.f,.t,.f,.t,.f,.f,.f,(.p _ false hs)] [cV (V0),cV (V1),cV (V2),cV (V3),cV (V4),cV (S),cV (L)]
theorem fValid_pos (x:Nm) (w:World) (h:BN 80000000 x) (hd:0<x.d) (hc:cof x=1):Calls Tryz.prog 44 #[vN x] w (RetV (.bool true) w):=by
 have V0:=fun w=>Valid_yes x.c0 w
 have V1:=fun w=>Valid_yes x.c1 w
 have V2:=fun w=>Valid_yes x.c2 w
 have V3:=fun w=>Valid_yes x.c3 w
 have V4:=fun w=>Valid_yes x.d w
 have S:=fun w=>Sign_any x.d w
 have HC:=fun w=>fcommon_any x w h
 have hO:=fun w=>Of_any 1 w (by omega) (by omega)
 have hs:decide (0<x.d.sign)=true:=by first | exact decide_eq_true (by rw [Int.sign_eq_one_of_pos hd];omega) | exact decide_eq_false (by rw [Int.sign_eq_one_of_pos hd];omega)
 rw [hc] at HC
 exact vm_pure kr Tryz.func44 rfl [.agg #[.bool (sg x.c0),.string (mg x.c0),.bool (sg x.c1),.string (mg x.c1),.bool (sg x.c2),.string (mg x.c2),.bool (sg x.c3),.string (mg x.c3),.bool (sg x.d),.string (mg x.d)]] nle [(7,16)] [.t,.f,.t,.f,.t,.f,.t,.f,.f,.t,.t,.t,.t,.t,(.p _ true hs),(.p _ true hs),(.p _ true hs),(.p _ true hs),(.p _ true hs),(.p _ true hs),(.p _ true hs),(.p _ true hs)] [cV (V0),cV (V1),cV (V2),cV (V3),cV (V4),cV (S),cV (HC),cV (hO),lV _ (.bool true) (fun w hC=>eqI_same (1) (.tmp 28) (.tmp 29) w)]
structure Rw where
 n0:Bool
 s0:ByteArray
 n1:Bool
 s1:ByteArray
 n2:Bool
 s2:ByteArray
 n3:Bool
 s3:ByteArray
 n4:Bool
 s4:ByteArray
def vR (r:Rw):Value:=.agg #[.bool r.n0,.string r.s0,.bool r.n1,.string r.s1,.bool r.n2,.string r.s2,.bool r.n3,.string r.s3,.bool r.n4,.string r.s4]
def nmR (r:Rw):Nm:=⟨ival r.n0 r.s0,ival r.n1 r.s1,ival r.n2 r.s2,ival r.n3 r.s3,ival r.n4 r.s4⟩
def vldR (r:Rw):Bool:=vld r.n0 r.s0 && vld r.n1 r.s1 && vld r.n2 r.s2 && vld r.n3 r.s3 && vld r.n4 r.s4
def smallR (k:Nat) (r:Rw):Prop:=r.s0.size≤k∧r.s1.size≤k∧r.s2.size≤k∧r.s3.size≤k∧r.s4.size≤k
def okR (r:Rw):Bool:=vldR r && decide (0<(nmR r).d) && decide (cof (nmR r)=1)
theorem vR_eq {r:Rw} (h:vldR r=true):vR r=vN (nmR r):=by
 unfold vldR at h
 simp only [Bool.and_eq_true] at h
 obtain ⟨⟨⟨⟨h0,h1⟩,h2⟩,h3⟩,h4⟩:=h
 obtain ⟨a0,b0⟩:=vld_form h0
 obtain ⟨a1,b1⟩:=vld_form h1
 obtain ⟨a2,b2⟩:=vld_form h2
 obtain ⟨a3,b3⟩:=vld_form h3
 obtain ⟨a4,b4⟩:=vld_form h4
 unfold vR vN nmR
 simp only [← a0,← b0,← a1,← b1,← a2,← b2,← a3,← b3,← a4,← b4]
theorem BN_R {k:Nat} {r:Rw} (hs:smallR k r) (h:vldR r=true):BN k (nmR r):=by
 unfold vldR at h
 simp only [Bool.and_eq_true] at h
 obtain ⟨⟨⟨⟨h0,h1⟩,h2⟩,h3⟩,h4⟩:=h
 obtain ⟨g0,g1,g2,g3,g4⟩:=hs
 have t:∀ {n s},vld n s=true→s.size≤k→Bd k (ival n s):=fun {n s} h g=>by
  have:=Bd.of_size (ival n s)
  rw [← (vld_form h).2] at this
  exact this.mono g
 exact ⟨t h0 g0,t h1 g1,t h2 g2,t h3 g3,t h4 g4⟩
theorem okR_ok {r:Rw} (h:okR r=true):Ok (nmR r)∧vldR r=true:=by
 unfold okR at h
 simp only [Bool.and_eq_true,decide_eq_true_eq] at h
 exact ⟨⟨h.1.2,h.2⟩,h.1.1⟩
theorem fValid_yes (x:Nm) (w:World) (hb:BN 80000000 x) (h:Ok x):Calls Tryz.prog 44 #[vN x] w (RetV (.bool true) w):=fValid_pos x w hb h.pos h.cop

theorem BN.neg {k:Nat} {x:Nm} (h:BN k x):BN k (negN x):=⟨h.h0.neg,h.h1.neg,h.h2.neg,h.h3.neg,h.h4⟩
theorem BN.cj1 {k:Nat} {x:Nm} (h:BN k x):BN k (cj1 x):=⟨h.h0,h.h1.neg,h.h2,h.h3.neg,h.h4⟩
theorem BN.cj2 {k:Nat} {x:Nm} (h:BN k x):BN k (cj2 x):=⟨h.h0,h.h1,h.h2.neg,h.h3.neg,h.h4⟩
theorem Bd.mul2 {k:Nat} {x y:Int} (hx:Bd k x) (hy:Bd k y):Bd (2 * k) (x * y):=(hx.mul hy).mono (by omega)
theorem BN.addR {k:Nat} {x y:Nm} (hx:BN k x) (hy:BN k y):BN (2 * k+1) (addR x y) :=
 ⟨(hx.h0.mul2 hy.h4).add (hy.h0.mul2 hx.h4),(hx.h1.mul2 hy.h4).add (hy.h1.mul2 hx.h4),(hx.h2.mul2 hy.h4).add (hy.h2.mul2 hx.h4),(hx.h3.mul2 hy.h4).add (hy.h3.mul2 hx.h4),(hx.h4.mul2 hy.h4).mono (by omega)⟩
theorem BN.mulR {k:Nat} {x y:Nm} (hx:BN k x) (hy:BN k y):BN (2 * k+5) (mulR x y):=by
 have sm:∀ {c z:Int} {j:Nat},c.natAbs<256→Bd j z→Bd (j+1) (c * z):=fun {c z j} hc h=>by
  have h1:Bd 1 c:=by unfold Bd;omega
  exact (h1.mul h).mono (by omega)
 refine ⟨?_,?_,?_,?_,(hx.h4.mul2 hy.h4).mono (by omega)⟩
 ·exact (((((hx.h0.mul2 hy.h0).mono (by omega)).add (sm (by decide) (hx.h1.mul2 hy.h1))).add ((sm (by decide) (hx.h2.mul2 hy.h2)).mono (by omega))).add ((sm (by decide) (hx.h3.mul2 hy.h3)).mono (by omega))).mono (by omega)
 ·exact ((((hx.h0.mul2 hy.h1).add (hx.h1.mul2 hy.h0)).add (sm (by decide) (hx.h2.mul2 hy.h3))).add ((sm (by decide) (hx.h3.mul2 hy.h2)).mono (by omega))).mono (by omega)
 ·exact ((((hx.h0.mul2 hy.h2).add (hx.h2.mul2 hy.h0)).add (sm (by decide) (hx.h1.mul2 hy.h3))).add ((sm (by decide) (hx.h3.mul2 hy.h1)).mono (by omega))).mono (by omega)
 ·exact ((((hx.h0.mul2 hy.h3).add (hx.h3.mul2 hy.h0)).add ((hx.h1.mul2 hy.h2).mono (by omega))).add ((hx.h2.mul2 hy.h1).mono (by omega))).mono (by omega)
theorem BN.addN {k:Nat} {x y:Nm} (hx:BN k x) (hy:BN k y) (h1:x.d≠0) (h2:y.d≠0):BN (2 * k+1) (addN x y):=(hx.addR hy).low (Int.mul_ne_zero h1 h2)
theorem BN.mulN {k:Nat} {x y:Nm} (hx:BN k x) (hy:BN k y) (h1:x.d≠0) (h2:y.d≠0):BN (2 * k+5) (mulN x y):=(hx.mulR hy).low (Int.mul_ne_zero h1 h2)
theorem BN.subN {k:Nat} {x y:Nm} (hx:BN k x) (hy:BN k y) (h1:x.d≠0) (h2:y.d≠0):BN (2 * k+1) (subN x y):=hx.addN hy.neg h1 h2
theorem BN.int {k:Nat} {n:Int} (h:Bd k n) (hk:1≤k):BN k (intN n):=⟨h,Bd.zero k,Bd.zero k,Bd.zero k,Bd.one hk⟩
theorem BN.root (n:Int):BN 1 (rootN n):=by
 unfold rootN
 split
 ·exact ⟨Bd.zero _,Bd.one (by omega),Bd.zero _,Bd.zero _,Bd.one (by omega)⟩
 ·split
  ·exact ⟨Bd.zero _,Bd.zero _,Bd.one (by omega),Bd.zero _,Bd.one (by omega)⟩
  ·split
   ·exact ⟨Bd.zero _,Bd.zero _,Bd.zero _,Bd.one (by omega),Bd.one (by omega)⟩
   ·exact ⟨Bd.zero _,Bd.zero _,Bd.zero _,Bd.zero _,Bd.one (by omega)⟩
theorem fNeg_any (x:Nm) (w:World) (hb:BN 80000000 x) (h:Ok x):Calls Tryz.prog 200 #[vN x] w (RetV (vN (negN x)) w):=by
 have V:=fun w=>fValid_yes x w hb h
 have N0:=fun w=>Neg_any x.c0 w
 have N1:=fun w=>Neg_any x.c1 w
 have N2:=fun w=>Neg_any x.c2 w
 have N3:=fun w=>Neg_any x.c3 w
 exact vm_pure kr Tryz.func200 rfl [.agg #[.bool (sg x.c0),.string (mg x.c0),.bool (sg x.c1),.string (mg x.c1),.bool (sg x.c2),.string (mg x.c2),.bool (sg x.c3),.string (mg x.c3),.bool (sg x.d),.string (mg x.d)]] nle [] [.f,.t,.t,.t,.t,.f] [cV (V),cV (N0),cV (N1),cV (N2),cV (N3)]
theorem fAdd_any (x y:Nm) (w:World) (hx:BN 30000000 x) (hy:BN 30000000 y) (ox:Ok x) (oy:Ok y):Calls Tryz.prog 199 #[vN x,vN y] w (RetV (vN (addN x y)) w):=by
 have V1:=fun w=>fValid_yes x w (hx.mono (by omega)) ox
 have V2:=fun w=>fValid_yes y w (hy.mono (by omega)) oy
 have mu:∀ {a b:Int},Bd 30000000 a→Bd 30000000 b→∀ w,Calls Tryz.prog 113 #[vI a,vI b] w (RetI (a * b) w):=fun ha hb w=>Mul_any _ _ w (ha.mono (by omega)) (hb.mono (by omega))
 have ad:∀ {a b c d:Int},Bd 30000000 a→Bd 30000000 b→Bd 30000000 c→Bd 30000000 d→∀ w,Calls Tryz.prog 94 #[vI (a * b),vI (c * d)] w (RetI (a * b+c * d) w):=fun ha hb hc hd w=>Add_any _ _ w ((ha.mul2 hb).mono (by omega)) ((hc.mul2 hd).mono (by omega))
 have L:=fun w=>flowest_any (addR x y) w ((hx.addR hy).mono (by omega)) (Int.mul_ne_zero ox.ne oy.ne)
 have M0a:=mu hx.h0 hy.h4
 have M0b:=mu hy.h0 hx.h4
 have A0:=ad hx.h0 hy.h4 hy.h0 hx.h4
 have M1a:=mu hx.h1 hy.h4
 have M1b:=mu hy.h1 hx.h4
 have A1:=ad hx.h1 hy.h4 hy.h1 hx.h4
 have M2a:=mu hx.h2 hy.h4
 have M2b:=mu hy.h2 hx.h4
 have A2:=ad hx.h2 hy.h4 hy.h2 hx.h4
 have M3a:=mu hx.h3 hy.h4
 have M3b:=mu hy.h3 hx.h4
 have A3:=ad hx.h3 hy.h4 hy.h3 hx.h4
 have M4:=mu hx.h4 hy.h4
 show Calls Tryz.prog 199 #[vN x,vN y] w (RetV (vN (low (addR x y))) w)
 generalize low (addR x y)=l at *
 unfold addR at L
 simp only at L
 exact vm_pure kr Tryz.func199 rfl [.agg #[.bool (sg x.c0),.string (mg x.c0),.bool (sg x.c1),.string (mg x.c1),.bool (sg x.c2),.string (mg x.c2),.bool (sg x.c3),.string (mg x.c3),.bool (sg x.d),.string (mg x.d)],.agg #[.bool (sg y.c0),.string (mg y.c0),.bool (sg y.c1),.string (mg y.c1),.bool (sg y.c2),.string (mg y.c2),.bool (sg y.c3),.string (mg y.c3),.bool (sg y.d),.string (mg y.d)]] nle [] [.f,.f,.f,.f,.f,.t,.t,.t,.t,.f] [cV (V1),cV (V2),cV (M0a),cV (M0b),cV (A0),cV (M1a),cV (M1b),cV (A1),cV (M2a),cV (M2b),cV (A2),cV (M3a),cV (M3b),cV (A3),cV (M4),cV (L)]
theorem fSub_any (x y:Nm) (w:World) (hx:BN 30000000 x) (hy:BN 30000000 y) (ox:Ok x) (oy:Ok y):Calls Tryz.prog 158 #[vN x,vN y] w (RetV (vN (subN x y)) w):=by
 have H1:=fun w=>fNeg_any y w (hy.mono (by omega)) oy
 have H2:=fun w=>fAdd_any x (negN y) w hx hy.neg ox (negN_ok oy)
 show Calls Tryz.prog 158 #[vN x,vN y] w (RetV (vN (addN x (negN y))) w)
 generalize addN x (negN y)=l at *
 exact vm_pure kr Tryz.func158 rfl [.agg #[.bool (sg x.c0),.string (mg x.c0),.bool (sg x.c1),.string (mg x.c1),.bool (sg x.c2),.string (mg x.c2),.bool (sg x.c3),.string (mg x.c3),.bool (sg x.d),.string (mg x.d)],.agg #[.bool (sg y.c0),.string (mg y.c0),.bool (sg y.c1),.string (mg y.c1),.bool (sg y.c2),.string (mg y.c2),.bool (sg y.c3),.string (mg y.c3),.bool (sg y.d),.string (mg y.d)]] nle [] [] [cV (H1),cV (H2)]

noncomputable def prN:Nat:=Tryz.f101.ntmps
noncomputable def prC:Code:=Tryz.f101.body.getD .skip
noncomputable def pr2:Code:=cB 2 prC
noncomputable def pr0:Code:=cB 0 prC
def qd (a b c d:Int) (i:Nat):Int:=match i with
 | 0=>a
 | 1=>b
 | 2=>c
 | _=>d
def cel (q:Nat→Int):Array Value:=#[.bool (sg (q 0)),.string (mg (q 0)),.bool (sg (q 1)),.string (mg (q 1)),.bool (sg (q 2)),.string (mg (q 2)),.bool (sg (q 3)),.string (mg (q 3))]
def upd (q:Nat→Int) (k:Nat) (v:Int):Nat→Int:=fun i=>bif Nat.beq i k then v else q i
theorem upd_same (q:Nat→Int) (k:Nat):upd q k (q k)=q:=by
 funext i
 unfold upd
 cases h:Nat.beq i k with
 | true=>rw [Nat.eq_of_beq_eq_true h];rfl
 | false=>rfl
def sqf (i j:Nat):Nat:=match i &&& j with
 | 0=>1
 | 1=>2
 | 2=>3
 | _=>6
def xo (i j:Nat):Nat:=i ^^^ j
def stepQ (X Y:Nat→Int) (i j:Nat) (q:Nat→Int):Nat→Int:=upd q (xo i j) (q (xo i j)+(sqf i j:Int) * (X i * Y j))
theorem cases16 {i j:Nat} (hi:i<4) (hj:j<4):(i=0∨i=1∨i=2∨i=3)∧(j=0∨j=1∨j=2∨j=3):=by omega
theorem stepQ_zero {X Y:Nat→Int} {i j:Nat} (q:Nat→Int) (h:X i=0∨Y j=0):stepQ X Y i j q=q:=by
 unfold stepQ
 have:X i * Y j=0:=Int.mul_eq_zero.2 h
 rw [this,Int.mul_zero,Int.add_zero,upd_same]
theorem mg_yes {x:Int} (h:x=0):((mg x).toList == (ByteArray.mk #[]).toList)=true:=by
 rw [h,mg0];simp
theorem mg_eq_no' {y:Int} (h:y≠0):((mg y).toList == (ByteArray.mk #[]).toList)=false:=by
 have:=(mg_full h).2
 rw [show (ByteArray.mk #[]).toList = [] from by rw [← mg_zero];exact (mg_empty (z:=0) rfl).1]
 cases hh:(mg y).toList with
 | nil=>rw [hh] at this;cases this
 | cons a l=>rfl
def prMem (nX nY nZ:Array Value) (q:Nat→Int):Mem:=[(0,(28,nX)),(1,(28,nY)),(2,(28,nZ)),(3,(26,cel q))]
def prMem2 (nX nY nZ:Array Value) (q:Nat→Int) (x:Int):Mem:=[(0,(28,nX)),(1,(28,nY)),(2,(28,nZ)),(3,(26,cel q)),(104,(25,#[.bool (sg x),.string (mg x)]))]
theorem prod_round {Xv Yv:Nat→Int} {nX nY nZ:Array Value} {q:Nat→Int} {X:Cx} {r:Nat→Nat} {i j:Nat} {a:Act} {w:World} {Q:Exit→Act→World→Prop} (hi:i<4) (hj:j<4)
  (hO:∀ w,Calls Tryz.prog 90 #[.int .i64 (sqf i j:Int)] w (RetI (sqf i j:Int) w))
  (hM1:∀ w,Calls Tryz.prog 113 #[vI (Xv i),vI (Yv j)] w (RetI (Xv i * Yv j) w))
  (hM2:∀ w,Calls Tryz.prog 113 #[vI (sqf i j:Int),vI (Xv i * Yv j)] w (RetI ((sqf i j:Int) * (Xv i * Yv j)) w))
  (hA:∀ w,Calls Tryz.prog 94 #[vI (q (xo i j)),vI ((sqf i j:Int) * (Xv i * Yv j))] w (RetI (q (xo i j)+(sqf i j:Int) * (Xv i * Yv j)) w))
  (hM:MemOk X r (prMem2 nX nY nZ q (Xv i)) w)
  (hS:St prN [(19,(.int .i64 j,0)),(5,(.pointer (some ⟨r 3,0,none⟩),4)),(6,(.int .i64 i,0)),(7,(.pointer (some ⟨r 104,0,none⟩),105)),(18,(.agg (cel Yv),0))] a)
  (hQ:∀ a' w',St prN [(19,(.int .i64 ((j+1:Nat):Int),0))] a'→Kp (keeps pr2 prN) a a'→MemOk X r (prMem2 nX nY nZ (stepQ Xv Yv i j q) (Xv i)) w'→Q .normal a' w') :
  wpL Tryz.prog [cI (cI pr2)] Q a w:=by
 by_cases hx:Xv i=0
 ·have h1:=mg_yes hx
  rw [stepQ_zero q (.inl hx)] at hQ
  refine vm_keep (X:=X) kr [] prN [cI (cI pr2)] (ne_nil kr) (fun r=>[(19,(.int .i64 ((j:Int)),0)),(5,(.pointer (some ⟨r 3,0,none⟩),4)),(6,(.int .i64 ((i:Int)),0)),(7,(.pointer (some ⟨r 104,0,none⟩),105)),(18,(.agg (cel Yv),0))]) (fun r=>[(0,(28,nX)),(1,(28,nY)),(2,(28,nZ)),(3,(26,cel q)),(104,(25,#[.bool (sg (Xv i)),.string (mg (Xv i))]))]) 110 (r) (hS) (hM) (fun r hr=>⟨by simp only [hr 3 (by omega),hr 104 (by omega)],rfl⟩) (keysLt_all kr) [.t,(.p _ true h1),(.p _ true h1),(.p _ true h1),(.p _ true h1),.t] [] (VEx.n) (fun r=>[(19,(.int .i64 (((j+1:Nat):Int)),0))]) (keeps pr2 prN) (fun r=>[(0,(28,nX)),(1,(28,nY)),(2,(28,nZ)),(3,(26,cel q)),(104,(25,#[.bool (sg (Xv i)),.string (mg (Xv i))]))]) (fun r hr=>⟨rfl,rfl⟩) (keysLt_all kr) (fun r g=>by obtain ⟨rfl | rfl | rfl | rfl,rfl | rfl | rfl | rfl⟩:=cases16 hi hj <;> kernel_rfl) (fun r g=>by obtain ⟨rfl | rfl | rfl | rfl,rfl | rfl | rfl | rfl⟩:=cases16 hi hj <;> kernel_rfl) ?_
  exact hQ
 ·have h1:=mg_eq_no' hx
  by_cases hy:Yv j=0
  ·have h2:=mg_yes hy
   rw [stepQ_zero q (.inr hy)] at hQ
   refine vm_keep (X:=X) kr [] prN [cI (cI pr2)] (ne_nil kr) (fun r=>[(19,(.int .i64 ((j:Int)),0)),(5,(.pointer (some ⟨r 3,0,none⟩),4)),(6,(.int .i64 ((i:Int)),0)),(7,(.pointer (some ⟨r 104,0,none⟩),105)),(18,(.agg (cel Yv),0))]) (fun r=>[(0,(28,nX)),(1,(28,nY)),(2,(28,nZ)),(3,(26,cel q)),(104,(25,#[.bool (sg (Xv i)),.string (mg (Xv i))]))]) 110 (r) (hS) (hM) (fun r hr=>⟨by simp only [hr 3 (by omega),hr 104 (by omega)],rfl⟩) (keysLt_all kr) [.t,(.p _ false h1),(.p _ false h1),(.p _ false h1),(.p _ false h1),(.p _ true h2)] [] (VEx.n) (fun r=>[(19,(.int .i64 (((j+1:Nat):Int)),0))]) (keeps pr2 prN) (fun r=>[(0,(28,nX)),(1,(28,nY)),(2,(28,nZ)),(3,(26,cel q)),(104,(25,#[.bool (sg (Xv i)),.string (mg (Xv i))]))]) (fun r hr=>⟨rfl,rfl⟩) (keysLt_all kr) (fun r g=>by obtain ⟨rfl | rfl | rfl | rfl,rfl | rfl | rfl | rfl⟩:=cases16 hi hj <;> kernel_rfl) (fun r g=>by obtain ⟨rfl | rfl | rfl | rfl,rfl | rfl | rfl | rfl⟩:=cases16 hi hj <;> kernel_rfl) ?_
   exact hQ
  ·have h2:=mg_eq_no' hy
   refine vm_keep (X:=X) kr [] prN [cI (cI pr2)] (ne_nil kr) (fun r=>[(19,(.int .i64 ((j:Int)),0)),(5,(.pointer (some ⟨r 3,0,none⟩),4)),(6,(.int .i64 ((i:Int)),0)),(7,(.pointer (some ⟨r 104,0,none⟩),105)),(18,(.agg (cel Yv),0))]) (fun r=>[(0,(28,nX)),(1,(28,nY)),(2,(28,nZ)),(3,(26,cel q)),(104,(25,#[.bool (sg (Xv i)),.string (mg (Xv i))]))]) 110 (r) (hS) (hM) (fun r hr=>⟨by simp only [hr 3 (by omega),hr 104 (by omega)],rfl⟩) (keysLt_all kr) [.t,(.p _ false h1),(.p _ false h1),(.p _ false h1),(.p _ false h1),(.p _ false h2)] [cV (hO),cV (hM1),cV (hM2),cV (hA)] (VEx.n) (fun r=>[(19,(.int .i64 (((j+1:Nat):Int)),0))]) (keeps pr2 prN) (fun r=>[(0,(28,nX)),(1,(28,nY)),(2,(28,nZ)),(3,(26,cel (stepQ Xv Yv i j q))),(104,(25,#[.bool (sg (Xv i)),.string (mg (Xv i))]))]) (fun r hr=>⟨rfl,rfl⟩) (keysLt_all kr) (fun r g=>by obtain ⟨rfl | rfl | rfl | rfl,rfl | rfl | rfl | rfl⟩:=cases16 hi hj <;> kernel_rfl) (fun r g=>by obtain ⟨rfl | rfl | rfl | rfl,rfl | rfl | rfl | rfl⟩:=cases16 hi hj <;> kernel_rfl) ?_
   exact hQ
def rowQ (X Y:Nat→Int) (i:Nat):Nat→(Nat→Int)→(Nat→Int)
 | 0,q=>q
 | j+1,q=>stepQ X Y i j (rowQ X Y i j q)
def allQ (X Y:Nat→Int):Nat→(Nat→Int)
 | 0=>fun _=>0
 | i+1=>rowQ X Y i 4 (allQ X Y i)
theorem sqf_le (i j:Nat):sqf i j≤6:=by unfold sqf;split <;> decide
theorem sqf_mul {k:Nat} {x y:Int} (i j:Nat) (hx:Bd k x) (hy:Bd k y):Bd (2 * k+1) ((sqf i j:Int) * (x * y)):=by
 have h1:Bd 1 (sqf i j:Int):=by have:=sqf_le i j;unfold Bd;omega
 exact (h1.mul (hx.mul2 hy)).mono (by omega)
theorem BQ_step {k m:Nat} {X Y q:Nat→Int} (i j:Nat) (hm:2 * k+1≤m) (hX:∀ i,Bd k (X i)) (hY:∀ j,Bd k (Y j)) (hq:∀ t,Bd m (q t)):∀ t,Bd (m+1) (stepQ X Y i j q t):=fun t=>by
 unfold stepQ upd
 cases Nat.beq t (xo i j) with
 | true=>exact (hq _).add ((sqf_mul i j (hX i) (hY j)).mono hm)
 | false=>exact (hq t).mono (by omega)
theorem BQ_row {k m:Nat} {X Y q:Nat→Int} (i:Nat) (hm:2 * k+1≤m) (hX:∀ i,Bd k (X i)) (hY:∀ j,Bd k (Y j)) (hq:∀ t,Bd m (q t)):∀ j t,Bd (m+j) (rowQ X Y i j q t)
 | 0,t=>hq t
 | j+1,t=>BQ_step i j (by omega) hX hY (BQ_row i hm hX hY hq j) t
theorem BQ_all {k:Nat} {X Y:Nat→Int} (hX:∀ i,Bd k (X i)) (hY:∀ j,Bd k (Y j)):∀ i t,Bd (2 * k+1+4 * i) (allQ X Y i t)
 | 0,t=>Bd.zero _
 | i+1,t=>BQ_row i (by omega) hX hY (BQ_all hX hY i) 4 t
theorem prod_inner {k m:Nat} {Xv Yv:Nat→Int} {nX nY nZ:Array Value} {q:Nat→Int} {X:Cx} {r:Nat→Nat} {i:Nat} {a:Act} {w:World} {Q:Exit→Act→World→Prop} (hi:i<4) (hm:2 * k+1≤m) (hm2:m≤100000000) (hX:∀ i,Bd k (Xv i)) (hY:∀ j,Bd k (Yv j)) (hq:∀ t,Bd m (q t))
  (hM:MemOk X r (prMem2 nX nY nZ q (Xv i)) w)
  (hS:St prN [(19,(.int .i64 ((0:Nat):Int),0)),(5,(.pointer (some ⟨r 3,0,none⟩),4)),(6,(.int .i64 i,0)),(7,(.pointer (some ⟨r 104,0,none⟩),105)),(18,(.agg (cel Yv),0))] a)
  (hQ:∀ a' w',St prN [] a'→Kp (keeps pr2 prN) a a'→MemOk X r (prMem2 nX nY nZ (rowQ Xv Yv i 4 q) (Xv i)) w'→Q .normal a' w'):pr2.wp Tryz.prog Q a w:=by
 refine wp_for 2 kr kr (fun n a' w'=>∃ j,4 - j=n∧j≤4∧Kp (keeps pr2 prN) a a'∧St prN [(19,(.int .i64 (j:Int),0)),(5,(.pointer (some ⟨r 3,0,none⟩),4)),(6,(.int .i64 i,0)),(7,(.pointer (some ⟨r 104,0,none⟩),105)),(18,(.agg (cel Yv),0))] a'∧MemOk X r (prMem2 nX nY nZ (rowQ Xv Yv i j q) (Xv i)) w') 4
  ⟨0,rfl,by omega,Kp.refl _ _,hS,hM⟩ ?_
 rintro n a1 w1 ⟨j,rfl,hj,hK1,hS1,hM1⟩
 refine wpL_one ?_
 rcases Nat.lt_or_ge j 4 with hj4 | hj4
 ·have hb:=BQ_row (q:=q) i hm hX hY hq j
  refine prod_round (q:=rowQ Xv Yv i j q) hi hj4 (fun w=>Of_any _ w (by omega) (by have:=sqf_le i j;omega)) (fun w=>Mul_any _ _ w ((hX i).mono (by omega)) ((hY j).mono (by omega))) (fun w=>Mul_any _ _ w ((show Bd 1 (sqf i j:Int) by have:=sqf_le i j;unfold Bd;omega).mono (by omega)) (((hX i).mul2 (hY j)).mono (by omega)))
   (fun w=>Add_any _ _ w ((hb _).mono (by omega)) ((sqf_mul i j (hX i) (hY j)).mono (by omega))) hM1 hS1 ?_
  intro a' w' hS' hK' hM'
  exact ⟨4 - (j+1),by omega,j+1,rfl,by omega,hK1.trans hK',St.keep (hS1.sub (fun p hp=>List.mem_cons_of_mem _ hp)) hS' hK' kr,hM'⟩
 ·obtain rfl:j=4:=by omega
  refine vk (X:=X) [] prN [cI (cI pr2)] (fun r=>[(19,(.int .i64 (((4:Nat):Int)),0))]) (fun r=>[(0,(28,nX)),(1,(28,nY)),(2,(28,nZ)),(3,(26,cel (rowQ Xv Yv i 4 q))),(104,(25,#[.bool (sg (Xv i)),.string (mg (Xv i))]))]) 110 (r) (hS1.sub (fun p hp=>List.mem_cons.2 (.inl (List.mem_singleton.1 hp)))) (hM1) [.f] [] (VEx.x 2) (fun r=>[]) (keeps pr2 prN) (fun r=>[(0,(28,nX)),(1,(28,nY)),(2,(28,nZ)),(3,(26,cel (rowQ Xv Yv i 4 q))),(104,(25,#[.bool (sg (Xv i)),.string (mg (Xv i))]))]) ?_
  exact fun a' w' hS' hK' hM'=>hQ a' w' hS' (hK1.trans hK') hM'
def celN (q:Nat→Int) (d:Int):Array Value:=#[.bool (sg (q 0)),.string (mg (q 0)),.bool (sg (q 1)),.string (mg (q 1)),.bool (sg (q 2)),.string (mg (q 2)),.bool (sg (q 3)),.string (mg (q 3)),.bool (sg d),.string (mg d)]
theorem MemOk.drop2 {X:Cx} {r r':Nat→Nat} {nX nY nZ:Array Value} {q:Nat→Int} {x:Int} {w:World} (h:MemOk X r' (prMem2 nX nY nZ q x) w) (hr:∀ k,k<102→r' k=r k):MemOk X r (prMem nX nY nZ q) w:=by
 have h1:MemOk X r' (prMem nX nY nZ q) w:=h.sub (fun k y hy=>by
  have e:prMem2 nX nY nZ q x=prMem nX nY nZ q ++ [(104,(25,#[.bool (sg x),.string (mg x)]))]:=rfl
  rw [e,look_append,hy]
  rfl)
 exact h1.agree (keysLt_all (n:=102) kr) hr
theorem prod_outer {k:Nat} {Xv Yv:Nat→Int} {yd:Int} {nX nZ:Array Value} {X:Cx} {r:Nat→Nat} {a:Act} {w:World} {Q:Exit→Act→World→Prop} (hk:k≤30000000) (hX:∀ i,Bd k (Xv i)) (hY:∀ j,Bd k (Yv j))
  (hM:MemOk X r (prMem nX (celN Yv yd) nZ (fun _=>0)) w)
  (hS:St prN [(13,(.int .i64 ((0:Nat):Int),0)),(3,(.pointer (some ⟨r 1,0,none⟩),2)),(5,(.pointer (some ⟨r 3,0,none⟩),4)),(12,(.agg (cel Xv),0))] a)
  (hQ:∀ a' w',St prN [] a'→Kp (keeps pr0 prN) a a'→MemOk X r (prMem nX (celN Yv yd) nZ (allQ Xv Yv 4)) w'→Q .normal a' w'):pr0.wp Tryz.prog Q a w:=by
 refine wp_for 0 kr kr (fun n a' w'=>∃ i,4 - i=n∧i≤4∧Kp (keeps pr0 prN) a a'∧St prN [(13,(.int .i64 (i:Int),0)),(3,(.pointer (some ⟨r 1,0,none⟩),2)),(5,(.pointer (some ⟨r 3,0,none⟩),4)),(12,(.agg (cel Xv),0))] a'∧MemOk X r (prMem nX (celN Yv yd) nZ (allQ Xv Yv i)) w') 4
  ⟨0,rfl,by omega,Kp.refl _ _,hS,hM⟩ ?_
 rintro n a1 w1 ⟨i,rfl,hi,hK1,hS1,hM1⟩
 rcases Nat.lt_or_ge i 4 with hi4 | hi4
 ·have c4:i=0∨i=1∨i=2∨i=3:=by omega
  refine wp_cut 1 kr ?_
  refine vm_keep (X:=X) kr [] prN (cPre 1 (cI (cI pr0))) (ne_nil kr) (fun r=>[(13,(.int .i64 ((i:Int)),0)),(3,(.pointer (some ⟨r 1,0,none⟩),2)),(5,(.pointer (some ⟨r 3,0,none⟩),4)),(12,(.agg (cel Xv),0))]) (fun r=>[(0,(28,nX)),(1,(28,celN Yv yd)),(2,(28,nZ)),(3,(26,cel (allQ Xv Yv i)))]) 102 (r) (hS1) (hM1) (fun r hr=>⟨by simp only [hr 1 (by omega),hr 3 (by omega)],rfl⟩) (keysLt_all kr) [.t] [] (VEx.n) (fun r=>[(13,(.int .i64 ((i:Int)),0)),(3,(.pointer (some ⟨r 1,0,none⟩),2)),(5,(.pointer (some ⟨r 3,0,none⟩),4)),(12,(.agg (cel Xv),0))]) (keeps pr0 prN) (fun r=>[(0,(28,nX)),(1,(28,celN Yv yd)),(2,(28,nZ)),(3,(26,cel (allQ Xv Yv i)))]) (fun r hr=>⟨by simp only [hr 1 (by omega),hr 3 (by omega)],rfl⟩) (keysLt_all kr) (fun r g=>by obtain rfl | rfl | rfl | rfl:=c4 <;> kernel_rfl) (fun r g=>by obtain rfl | rfl | rfl | rfl:=c4 <;> kernel_rfl) ?_
  intro a2 w2 hS2 hK2 hM2
  refine wp_blk 1 kr ?_
  refine wp_cut 2 kr ?_
  refine vm_fragL (X:=X) kr [] prN (cPre 2 (cI (cAt 1 (cI (cI pr0))))) (ne_nil kr) (fun r=>[(13,(.int .i64 ((i:Int)),0)),(3,(.pointer (some ⟨r 1,0,none⟩),2)),(5,(.pointer (some ⟨r 3,0,none⟩),4)),(12,(.agg (cel Xv),0))]) (fun r=>[(0,(28,nX)),(1,(28,celN Yv yd)),(2,(28,nZ)),(3,(26,cel (allQ Xv Yv i)))]) 102 (r) (hS2) (hM2) (fun r hr=>⟨by simp only [hr 1 (by omega),hr 3 (by omega)],rfl⟩) (keysLt_all kr) [] [] (VEx.n) (fun r=>[(13,(.int .i64 ((i:Int)),0)),(3,(.pointer (some ⟨r 1,0,none⟩),2)),(5,(.pointer (some ⟨r 3,0,none⟩),4)),(12,(.agg (cel Xv),0)),(19,(.int .i64 (((0:Nat):Int)),0)),(6,(.int .i64 ((i:Int)),0)),(7,(.pointer (some ⟨r 104,0,none⟩),105)),(18,(.agg (cel Yv),0))]) (keeps pr0 prN) (fun r=>[(0,(28,nX)),(1,(28,celN Yv yd)),(2,(28,nZ)),(3,(26,cel (allQ Xv Yv i))),(104,(25,#[.bool (sg (Xv i)),.string (mg (Xv i))]))]) (fun r g=>by obtain rfl | rfl | rfl | rfl:=c4 <;> kernel_rfl) (fun r g=>by obtain rfl | rfl | rfl | rfl:=c4 <;> kernel_rfl) ?_
  intro r' a3 w3 hr hS3 hK3 hM3
  refine prod_inner (i:=i) (k:=k) (m:=2 * k+1+4 * i) (q:=allQ Xv Yv i) hi4 (by omega) (by omega) hX hY (BQ_all hX hY i) hM3 (hS3.sub ?_) ?_
  ·intro p hp
   simp only [List.mem_cons,List.not_mem_nil,or_false] at hp ⊢
   rcases hp with rfl | rfl | rfl | rfl | rfl <;> simp
  intro a4 w4 hS4 hK4 hM4
  have hM5:=hM4.drop2 hr
  have hS5:St prN [(13,(.int .i64 (i:Int),0)),(3,(.pointer (some ⟨r 1,0,none⟩),2)),(5,(.pointer (some ⟨r 3,0,none⟩),4)),(12,(.agg (cel Xv),0))] a4:=by
   rw [hr 1 (by omega),hr 3 (by omega)] at hS3
   refine St.keep (hS3.sub ?_) hS4 hK4 kr
   intro p hp
   simp only [List.mem_cons,List.not_mem_nil,or_false] at hp ⊢
   rcases hp with rfl | rfl | rfl | rfl <;> simp
  have e2:cPost 2 (cI (cAt 1 (cI (cI pr0)))) = []:=by kernel_rfl
  refine then_n ?_
  rw [e2]
  refine wpL_nil (inBlock_n (then_n ?_))
  refine vm_keep (X:=X) kr [] prN (cPost 1 (cI (cI pr0))) (ne_nil kr) (fun r=>[(13,(.int .i64 ((i:Int)),0)),(3,(.pointer (some ⟨r 1,0,none⟩),2)),(5,(.pointer (some ⟨r 3,0,none⟩),4)),(12,(.agg (cel Xv),0))]) (fun r=>[(0,(28,nX)),(1,(28,celN Yv yd)),(2,(28,nZ)),(3,(26,cel (allQ Xv Yv (i+1))))]) 102 (r) (hS5) (hM5) (fun r hr=>⟨by simp only [hr 1 (by omega),hr 3 (by omega)],rfl⟩) (keysLt_all kr) [] [] (VEx.n) (fun r=>[(13,(.int .i64 (((i+1:Nat):Int)),0)),(3,(.pointer (some ⟨r 1,0,none⟩),2)),(5,(.pointer (some ⟨r 3,0,none⟩),4)),(12,(.agg (cel Xv),0))]) (keeps pr0 prN) (fun r=>[(0,(28,nX)),(1,(28,celN Yv yd)),(2,(28,nZ)),(3,(26,cel (allQ Xv Yv (i+1))))]) (fun r hr=>⟨by simp only [hr 1 (by omega),hr 3 (by omega)],rfl⟩) (keysLt_all kr) (fun r g=>by obtain rfl | rfl | rfl | rfl:=c4 <;> kernel_rfl) (fun r g=>by obtain rfl | rfl | rfl | rfl:=c4 <;> kernel_rfl) ?_
  intro a6 w6 hS6 hK6 hM6
  exact ⟨4 - (i+1),by omega,i+1,rfl,by omega,hK1.trans (hK2.trans (hK3.trans ((hK4.mono kr).trans hK6))),hS6,hM6⟩
 ·obtain rfl:i=4:=by omega
  refine wpL_one ?_
  refine vk (X:=X) [] prN [cI (cI pr0)] (fun r=>[(13,(.int .i64 (((4:Nat):Int)),0))]) (fun r=>[(0,(28,nX)),(1,(28,celN Yv yd)),(2,(28,nZ)),(3,(26,cel (allQ Xv Yv 4)))]) 102 (r) (hS1.sub (fun p hp=>List.mem_cons.2 (.inl (List.mem_singleton.1 hp)))) (hM1) [.f] [] (VEx.x 0) (fun r=>[]) (keeps pr0 prN) (fun r=>[(0,(28,nX)),(1,(28,celN Yv yd)),(2,(28,nZ)),(3,(26,cel (allQ Xv Yv 4)))]) ?_
  exact fun a' w' hS' hK' hM'=>hQ a' w' hS' (hK1.trans hK') hM'
def z4:Array Value:=#[.bool false,.string ⟨#[]⟩,.bool false,.string ⟨#[]⟩,.bool false,.string ⟨#[]⟩,.bool false,.string ⟨#[]⟩]
theorem z4_eq:z4=cel (fun _=>0):=by unfold z4 cel;simp only [sg0,mg0]
def zN10:Array Value:=#[.bool false,.string ⟨#[]⟩,.bool false,.string ⟨#[]⟩,.bool false,.string ⟨#[]⟩,.bool false,.string ⟨#[]⟩,.bool false,.string ⟨#[]⟩]
theorem allQ_eq (x y:Nm):vA4 (mulR x y).c0 (mulR x y).c1 (mulR x y).c2 (mulR x y).c3 = .agg (cel (allQ (qd x.c0 x.c1 x.c2 x.c3) (qd y.c0 y.c1 y.c2 y.c3) 4)):=by
 have e0:allQ (qd x.c0 x.c1 x.c2 x.c3) (qd y.c0 y.c1 y.c2 y.c3) 4 0=0+((1:Nat):Int) * (x.c0 * y.c0)+((2:Nat):Int) * (x.c1 * y.c1)+((3:Nat):Int) * (x.c2 * y.c2)+((6:Nat):Int) * (x.c3 * y.c3):=by kernel_rfl
 have e1:allQ (qd x.c0 x.c1 x.c2 x.c3) (qd y.c0 y.c1 y.c2 y.c3) 4 1=0+((1:Nat):Int) * (x.c0 * y.c1)+((1:Nat):Int) * (x.c1 * y.c0)+((3:Nat):Int) * (x.c2 * y.c3)+((3:Nat):Int) * (x.c3 * y.c2):=by kernel_rfl
 have e2:allQ (qd x.c0 x.c1 x.c2 x.c3) (qd y.c0 y.c1 y.c2 y.c3) 4 2=0+((1:Nat):Int) * (x.c0 * y.c2)+((2:Nat):Int) * (x.c1 * y.c3)+((1:Nat):Int) * (x.c2 * y.c0)+((2:Nat):Int) * (x.c3 * y.c1):=by kernel_rfl
 have e3:allQ (qd x.c0 x.c1 x.c2 x.c3) (qd y.c0 y.c1 y.c2 y.c3) 4 3=0+((1:Nat):Int) * (x.c0 * y.c3)+((1:Nat):Int) * (x.c1 * y.c2)+((1:Nat):Int) * (x.c2 * y.c1)+((1:Nat):Int) * (x.c3 * y.c0):=by kernel_rfl
 have f0:(mulR x y).c0=allQ (qd x.c0 x.c1 x.c2 x.c3) (qd y.c0 y.c1 y.c2 y.c3) 4 0:=by rw [e0];unfold mulR;simp only;grind
 have f1:(mulR x y).c1=allQ (qd x.c0 x.c1 x.c2 x.c3) (qd y.c0 y.c1 y.c2 y.c3) 4 1:=by rw [e1];unfold mulR;simp only;grind
 have f2:(mulR x y).c2=allQ (qd x.c0 x.c1 x.c2 x.c3) (qd y.c0 y.c1 y.c2 y.c3) 4 2:=by rw [e2];unfold mulR;simp only;grind
 have f3:(mulR x y).c3=allQ (qd x.c0 x.c1 x.c2 x.c3) (qd y.c0 y.c1 y.c2 y.c3) 4 3:=by rw [e3];unfold mulR;simp only;grind
 unfold vA4 cel
 rw [f0,f1,f2,f3]
theorem fproduct_any (x y:Nm) (w:World) (hx:BN 30000000 x) (hy:BN 30000000 y) (h1:x.d≠0) (h2:y.d≠0):Calls Tryz.prog 101 #[vN x,vN y] w (RetV (vN (mulN x y)) w):=by
 have L:=fun w=>flowest_any (mulR x y) w ((hx.mulR hy).mono (by omega)) (Int.mul_ne_zero h1 h2)
 have M:=fun w=>Mul_any x.d y.d w (hx.h4.mono (by omega)) (hy.h4.mono (by omega))
 rw [allQ_eq] at L
 have hX:∀ i,Bd 30000000 (qd x.c0 x.c1 x.c2 x.c3 i):=fun i=>by unfold qd;split;all_goals first | exact hx.h0 | exact hx.h1 | exact hx.h2 | exact hx.h3
 have hY:∀ i,Bd 30000000 (qd y.c0 y.c1 y.c2 y.c3 i):=fun i=>by unfold qd;split;all_goals first | exact hy.h0 | exact hy.h1 | exact hy.h2 | exact hy.h3
 have ex:vN x = .agg (celN (qd x.c0 x.c1 x.c2 x.c3) x.d):=rfl
 have ey:vN y = .agg (celN (qd y.c0 y.c1 y.c2 y.c3) y.d):=rfl
 rw [ex,ey]
 show Calls Tryz.prog 101 #[.agg (celN (qd x.c0 x.c1 x.c2 x.c3) x.d),.agg (celN (qd y.c0 y.c1 y.c2 y.c3) y.d)] w (RetV (vN (low (mulR x y))) w)
 generalize qd x.c0 x.c1 x.c2 x.c3=Xv at *
 generalize qd y.c0 y.c1 y.c2 y.c3=Yv at *
 generalize low (mulR x y)=l at *
 have L':∀ w,Calls Tryz.prog 155 #[.agg (cel (allQ Xv Yv 4)),vI (x.d * y.d)] w (RetV (vN l) w):=L
 generalize x.d=xd at *
 generalize y.d=yd at *
 clear L hx hy ex ey h1 h2
 refine vm_start [.agg (celN Xv xd),.agg (celN Yv yd)] (fn:=Tryz.f101) (c:=prC) kr kr nle ?_
 intro a hS
 refine wp_cut 0 kr ?_
 refine vf (X:=⟨w,[]⟩) [] prN (cPre 0 prC) (fun r=>[(0,(.agg (celN Xv xd),0)),(1,(.agg (celN Yv yd),0))]) (fun r=>[]) 0 (fun _=>0) (hS) (⟨Chg.refl _ _,fun k x h=>(by cases h),fun k k' x x' h=>by cases h⟩) [] [] (VEx.n) (fun r=>[(13,(.int .i64 (((0:Nat):Int)),0)),(3,(.pointer (some ⟨r 1,0,none⟩),2)),(5,(.pointer (some ⟨r 3,0,none⟩),4)),(12,(.agg (cel Xv),0)),(2,(.pointer (some ⟨r 0,0,none⟩),1)),(4,(.pointer (some ⟨r 2,0,none⟩),3))]) [] (fun r=>[(0,(28,celN Xv xd)),(1,(28,celN Yv yd)),(2,(28,zN10)),(3,(26,z4))]) ?_
 intro r a1 w1 hr hS1 hK1 hM1
 rw [z4_eq] at hM1
 refine prod_outer (k:=30000000) (Xv:=Xv) (Yv:=Yv) (by omega) hX hY hM1 (hS1.sub ?_) ?_
 ·intro p hp
  simp only [List.mem_cons,List.not_mem_nil,or_false] at hp ⊢
  rcases hp with rfl | rfl | rfl | rfl <;> simp
 intro a2 w2 hS2 hK2 hM2
 have hS3:St prN [(2,(.pointer (some ⟨r 0,0,none⟩),1)),(3,(.pointer (some ⟨r 1,0,none⟩),2)),(4,(.pointer (some ⟨r 2,0,none⟩),3)),(5,(.pointer (some ⟨r 3,0,none⟩),4))] a2:=by
  refine St.keep (hS1.sub ?_) hS2 hK2 kr
  intro p hp
  simp only [List.mem_cons,List.not_mem_nil,or_false] at hp ⊢
  rcases hp with rfl | rfl | rfl | rfl <;> simp
 refine then_n ?_
 refine vk (X:=⟨w,[]⟩) [] prN (cPost 0 prC) (fun r=>[(2,(.pointer (some ⟨r 0,0,none⟩),1)),(3,(.pointer (some ⟨r 1,0,none⟩),2)),(4,(.pointer (some ⟨r 2,0,none⟩),3)),(5,(.pointer (some ⟨r 3,0,none⟩),4))]) (fun r=>[(0,(28,celN Xv xd)),(1,(28,celN Yv yd)),(2,(28,zN10)),(3,(26,cel (allQ Xv Yv 4)))]) 102 (r) (hS3) (hM2) [] [cV (M),cV (L')] (VEx.r) (fun r=>[(4,(.pointer (some ⟨r 2,0,none⟩),3))]) [] (fun r=>[(2,(28,#[.bool (sg l.c0),.string (mg l.c0),.bool (sg l.c1),.string (mg l.c1),.bool (sg l.c2),.string (mg l.c2),.bool (sg l.c3),.string (mg l.c3),.bool (sg l.d),.string (mg l.d)]))]) ?_
 intro a4 w4 hS4 hK4 hM4
 exact vm_ret (fn:=Tryz.f101) hS4 hM4 (vN l) (fun g=>by kernel_rfl) ⟨rfl,hM4.below.below (Nat.le_refl _) (fun x h=>by cases h)⟩

theorem fMul_any (x y:Nm) (w:World) (hx:BN 30000000 x) (hy:BN 30000000 y) (ox:Ok x) (oy:Ok y):Calls Tryz.prog 49 #[vN x,vN y] w (RetV (vN (mulN x y)) w):=by
 have V1:=fun w=>fValid_yes x w (hx.mono (by omega)) ox
 have V2:=fun w=>fValid_yes y w (hy.mono (by omega)) oy
 have H:=fun w=>fproduct_any x y w hx hy ox.ne oy.ne
 generalize mulN x y=l at *
 exact vm_pure kr Tryz.func49 rfl [.agg #[.bool (sg x.c0),.string (mg x.c0),.bool (sg x.c1),.string (mg x.c1),.bool (sg x.c2),.string (mg x.c2),.bool (sg x.c3),.string (mg x.c3),.bool (sg x.d),.string (mg x.d)],.agg #[.bool (sg y.c0),.string (mg y.c0),.bool (sg y.c1),.string (mg y.c1),.bool (sg y.c2),.string (mg y.c2),.bool (sg y.c3),.string (mg y.c3),.bool (sg y.d),.string (mg y.d)]] nle [] [.f,.f,.f,.f,.f] [cV (V1),cV (V2),cV (H)]
theorem BN.inv {k:Nat} {y:Nm} (h:BN k y) (oy:Ok y) (h0:y≠zN):BN (2 * (2 * k+5)+5) (invN y):=by
 have ht:=h.mulN h.cj2 oy.ne (cj2_ok oy).ne
 have hu:=ht.mulN ht.cj1 (twoN_ok oy).ne (cj1_ok (twoN_ok oy)).ne
 exact BN.low (x:=⟨(uniN y).d,0,0,0,(uniN y).c0⟩) ⟨hu.h4,Bd.zero _,Bd.zero _,Bd.zero _,hu.h0⟩ (uniN_c0 oy h0)
theorem BN.divN {k:Nat} {x y:Nm} (hx:BN k x) (hy:BN k y) (ox:Ok x) (oy:Ok y) (h0:y≠zN):BN (20 * k+100) (divN x y):=by
 have ht:=hy.mulN hy.cj2 oy.ne (cj2_ok oy).ne
 have hi:=hy.inv oy h0
 have h1:=hx.mulN hy.cj2 ox.ne (cj2_ok oy).ne
 have h2:=((ht.cj1).mono (show 2 * k+5≤2 * (2 * k+5)+5 by omega)).mulN hi (cj1_ok (twoN_ok oy)).ne (invN_ok oy h0).ne
 exact ((h1.mono (show 2 * k+5≤2 * (2 * (2 * k+5)+5)+5 by omega)).mulN h2 (mulN_ok ox (cj2_ok oy)).ne (mulN_ok (cj1_ok (twoN_ok oy)) (invN_ok oy h0)).ne).mono (by omega)
theorem fmixed_any (a b k:Int) (w:World) (hw:IntKind.i64.wrap (a * k)=a * k):Calls Tryz.prog 92 #[.int .i64 a,.int .i64 b,.int .i64 k] w (RetN (mix a b k) w):=by
 unfold mix
 by_cases h:a=b
 ·have e:(a == b)=true:=by simpa using h
  rw [if_pos (.inl h)]
  exact vm_pure kr Tryz.func92 rfl [.int .i64 a,.int .i64 b,.int .i64 k] nle [] [(.p _ true e),(.p _ true e),(.p _ true e),.t] []
 ·have e:(a == b)=false:=by simpa using h
  by_cases h0:b=0
  ·have e0:(b == 0)=true:=by simpa using h0
   rw [if_pos (.inr h0)]
   exact vm_pure kr Tryz.func92 rfl [.int .i64 a,.int .i64 b,.int .i64 k] nle [] [(.p _ false e),(.p _ false e),(.p _ false e),(.p _ true e0)] []
  ·have e0:(b == 0)=false:=by simpa using h0
   rw [if_neg (by omega)]
   by_cases h1:a=0
   ·have e1:(a == 0)=true:=by simpa using h1
    rw [if_pos h1]
    exact vm_pure kr Tryz.func92 rfl [.int .i64 a,.int .i64 b,.int .i64 k] nle [] [(.p _ false e),(.p _ false e),(.p _ false e),(.p _ false e0),(.p _ true e1)] []
   ·have e1:(a == 0)=false:=by simpa using h1
    rw [if_neg h1]
    exact vm_pure kr Tryz.func92 rfl [.int .i64 a,.int .i64 b,.int .i64 k] nle [(5,2)] [(.p _ false e),(.p _ false e),(.p _ false e),(.p _ false e0),(.p _ false e1)] [lE .i64 (((a):Int) * ((k):Int)) (a * k) (hw)]
theorem ftimes_any (k:Int) (a b:Int) (w:World) (hk:k.natAbs<256) (ha:Bd 100000000 a) (hb:Bd 100000000 b):Calls Tryz.prog 95 #[.int .i64 k,vI a,vI b] w (RetI (k * (a * b)) w):=by
 have O:=fun w=>Of_any k w (by omega) (by omega)
 have M1:=fun w=>Mul_any a b w (ha.mono (by omega)) (hb.mono (by omega))
 have M2:=fun w=>Mul_any k (a * b) w ((show Bd 1 k by unfold Bd;omega).mono (by omega)) ((ha.mul2 hb).mono (by omega))
 show Calls Tryz.prog 95 #[.int .i64 k,.agg #[.bool (sg a),.string (mg a)],.agg #[.bool (sg b),.string (mg b)]] w (RetV (vI (k * (a * b))) w)
 exact vm_pure kr Tryz.func95 rfl [.int .i64 k,.agg #[.bool (sg a),.string (mg a)],.agg #[.bool (sg b),.string (mg b)]] nle [] [] [cV (O),cV (M1),cV (M2)]
theorem sign_vals (x:Int):x.sign=1∨x.sign=0∨x.sign = -1:=by
 rcases Int.lt_trichotomy x 0 with h | h | h
 ·exact .inr (.inr (Int.sign_eq_neg_one_of_neg h))
 ·exact .inr (.inl (by rw [h];rfl))
 ·exact .inl (Int.sign_eq_one_of_pos h)
theorem mix_wrap {a k:Int} (ha:a=1∨a=0∨a = -1) (hk:k=1∨k=0∨k = -1):IntKind.i64.wrap (a * k)=a * k:=by
 rcases ha with rfl | rfl | rfl <;> rcases hk with rfl | rfl | rfl <;> decide
theorem mix_vals {a b k:Int} (ha:a=1∨a=0∨a = -1) (hb:b=1∨b=0∨b = -1) (hk:k=1∨k=0∨k = -1):mix a b k=1∨mix a b k=0∨mix a b k = -1:=by
 rcases ha with rfl | rfl | rfl <;> rcases hb with rfl | rfl | rfl <;> rcases hk with rfl | rfl | rfl <;> decide
theorem s2_vals (a b:Int):s2 a b=1∨s2 a b=0∨s2 a b = -1:=mix_vals (sign_vals _) (sign_vals _) (sign_vals _)
theorem fsign2_any (a b:Int) (w:World) (ha:Bd 90000000 a) (hb:Bd 90000000 b):Calls Tryz.prog 91 #[vI a,vI b] w (RetN (s2 a b) w):=by
 have S1:=fun w=>Sign_any a w
 have S2:=fun w=>Sign_any b w
 have M:=fun w=>Mul_any a a w (ha.mono (by omega)) (ha.mono (by omega))
 have T:=fun w=>ftimes_any 2 b b w (by decide) (hb.mono (by omega)) (hb.mono (by omega))
 have h2:Bd (1+180000000) (2 * (b * b)):=Bd.mul (by unfold Bd;decide) (hb.mul2 hb)
 have C:=fun w=>Cmp_any (a * a) (2 * (b * b)) w ((ha.mul2 ha).mono (by omega)) (h2.mono (by omega))
 have X:=fun w=>fmixed_any a.sign b.sign (a * a - 2 * (b * b)).sign w (mix_wrap (sign_vals _) (sign_vals _))
 unfold s2
 show Calls Tryz.prog 91 #[.agg #[.bool (sg a),.string (mg a)],.agg #[.bool (sg b),.string (mg b)]] w (RetV (.int .i64 (mix a.sign b.sign (a * a - 2 * (b * b)).sign)) w)
 exact vm_pure kr Tryz.func91 rfl [.agg #[.bool (sg a),.string (mg a)],.agg #[.bool (sg b),.string (mg b)]] nle [] [] [cV (S1),cV (S2),cV (M),cV (T),cV (C),cV (X)]

theorem mix_same {a b:Int} (k l:Int) (h:a=b∨b=0∨a=0):mix a b k=mix a b l:=by
 unfold mix
 by_cases h1:a=b∨b=0
 ·rw [if_pos h1,if_pos h1]
 ·rw [if_neg h1,if_neg h1,if_pos (by omega),if_pos (by omega)]
theorem fSign_a (a b c d e p q s t1 t2 t3 t4 t5 t6 u1 u2 u v m:Int) (w:World)
  (V:∀ w,Calls Tryz.prog 44 #[vN ⟨a,b,c,d,e⟩] w (RetV (.bool true) w))
  (S1:∀ w,Calls Tryz.prog 91 #[vI a,vI b] w (RetN p w)) (S2:∀ w,Calls Tryz.prog 91 #[vI c,vI d] w (RetN q w))
  (X0:∀ w,Calls Tryz.prog 92 #[.int .i64 p,.int .i64 q,.int .i64 0] w (RetN m w))
  (T1:∀ w,Calls Tryz.prog 95 #[.int .i64 1,vI a,vI a] w (RetI t1 w)) (T2:∀ w,Calls Tryz.prog 95 #[.int .i64 2,vI b,vI b] w (RetI t2 w))
  (T3:∀ w,Calls Tryz.prog 95 #[.int .i64 3,vI c,vI c] w (RetI t3 w)) (T4:∀ w,Calls Tryz.prog 95 #[.int .i64 6,vI d,vI d] w (RetI t4 w))
  (T5:∀ w,Calls Tryz.prog 95 #[.int .i64 2,vI a,vI b] w (RetI t5 w)) (T6:∀ w,Calls Tryz.prog 95 #[.int .i64 6,vI c,vI d] w (RetI t6 w))
  (A1:∀ w,Calls Tryz.prog 94 #[vI t1,vI t2] w (RetI u1 w)) (A2:∀ w,Calls Tryz.prog 94 #[vI t3,vI t4] w (RetI u2 w)) (B1:∀ w,Calls Tryz.prog 93 #[vI u1,vI u2] w (RetI u w)) (B2:∀ w,Calls Tryz.prog 93 #[vI t5,vI t6] w (RetI v w))
  (S3:∀ w,Calls Tryz.prog 91 #[vI u,vI v] w (RetN s w)) (X1:∀ w,Calls Tryz.prog 92 #[.int .i64 p,.int .i64 q,.int .i64 s] w (RetN m w)) (h1:p=q) :
  Calls Tryz.prog 45 #[vN ⟨a,b,c,d,e⟩] w (RetN m w):=by
 have e1:(p == q)=true:=by simpa using h1
 exact vm_pure kr Tryz.func45 rfl [.agg #[.bool (sg a),.string (mg a),.bool (sg b),.string (mg b),.bool (sg c),.string (mg c),.bool (sg d),.string (mg d),.bool (sg e),.string (mg e)]] nle [] [.f,(.p _ true e1),(.p _ true e1),(.p _ true e1),.t,.t,.t,.t] [cV (V),cV (S1),cV (S2),cV (X0)]
theorem fSign_b (a b c d e p q s t1 t2 t3 t4 t5 t6 u1 u2 u v m:Int) (w:World)
  (V:∀ w,Calls Tryz.prog 44 #[vN ⟨a,b,c,d,e⟩] w (RetV (.bool true) w))
  (S1:∀ w,Calls Tryz.prog 91 #[vI a,vI b] w (RetN p w)) (S2:∀ w,Calls Tryz.prog 91 #[vI c,vI d] w (RetN q w))
  (X0:∀ w,Calls Tryz.prog 92 #[.int .i64 p,.int .i64 q,.int .i64 0] w (RetN m w))
  (T1:∀ w,Calls Tryz.prog 95 #[.int .i64 1,vI a,vI a] w (RetI t1 w)) (T2:∀ w,Calls Tryz.prog 95 #[.int .i64 2,vI b,vI b] w (RetI t2 w))
  (T3:∀ w,Calls Tryz.prog 95 #[.int .i64 3,vI c,vI c] w (RetI t3 w)) (T4:∀ w,Calls Tryz.prog 95 #[.int .i64 6,vI d,vI d] w (RetI t4 w))
  (T5:∀ w,Calls Tryz.prog 95 #[.int .i64 2,vI a,vI b] w (RetI t5 w)) (T6:∀ w,Calls Tryz.prog 95 #[.int .i64 6,vI c,vI d] w (RetI t6 w))
  (A1:∀ w,Calls Tryz.prog 94 #[vI t1,vI t2] w (RetI u1 w)) (A2:∀ w,Calls Tryz.prog 94 #[vI t3,vI t4] w (RetI u2 w)) (B1:∀ w,Calls Tryz.prog 93 #[vI u1,vI u2] w (RetI u w)) (B2:∀ w,Calls Tryz.prog 93 #[vI t5,vI t6] w (RetI v w))
  (S3:∀ w,Calls Tryz.prog 91 #[vI u,vI v] w (RetN s w)) (X1:∀ w,Calls Tryz.prog 92 #[.int .i64 p,.int .i64 q,.int .i64 s] w (RetN m w)) (h1:p≠q) (h2:q=0) :
  Calls Tryz.prog 45 #[vN ⟨a,b,c,d,e⟩] w (RetN m w):=by
 have e1:(p == q)=false:=by simpa using h1
 have e2:(q == 0)=true:=by simpa using h2
 exact vm_pure kr Tryz.func45 rfl [.agg #[.bool (sg a),.string (mg a),.bool (sg b),.string (mg b),.bool (sg c),.string (mg c),.bool (sg d),.string (mg d),.bool (sg e),.string (mg e)]] nle [] [.f,(.p _ false e1),(.p _ false e1),(.p _ false e1),(.p _ true e2),(.p _ true e2),(.p _ true e2),.t] [cV (V),cV (S1),cV (S2),cV (X0)]
theorem fSign_c (a b c d e p q s t1 t2 t3 t4 t5 t6 u1 u2 u v m:Int) (w:World)
  (V:∀ w,Calls Tryz.prog 44 #[vN ⟨a,b,c,d,e⟩] w (RetV (.bool true) w))
  (S1:∀ w,Calls Tryz.prog 91 #[vI a,vI b] w (RetN p w)) (S2:∀ w,Calls Tryz.prog 91 #[vI c,vI d] w (RetN q w))
  (X0:∀ w,Calls Tryz.prog 92 #[.int .i64 p,.int .i64 q,.int .i64 0] w (RetN m w))
  (T1:∀ w,Calls Tryz.prog 95 #[.int .i64 1,vI a,vI a] w (RetI t1 w)) (T2:∀ w,Calls Tryz.prog 95 #[.int .i64 2,vI b,vI b] w (RetI t2 w))
  (T3:∀ w,Calls Tryz.prog 95 #[.int .i64 3,vI c,vI c] w (RetI t3 w)) (T4:∀ w,Calls Tryz.prog 95 #[.int .i64 6,vI d,vI d] w (RetI t4 w))
  (T5:∀ w,Calls Tryz.prog 95 #[.int .i64 2,vI a,vI b] w (RetI t5 w)) (T6:∀ w,Calls Tryz.prog 95 #[.int .i64 6,vI c,vI d] w (RetI t6 w))
  (A1:∀ w,Calls Tryz.prog 94 #[vI t1,vI t2] w (RetI u1 w)) (A2:∀ w,Calls Tryz.prog 94 #[vI t3,vI t4] w (RetI u2 w)) (B1:∀ w,Calls Tryz.prog 93 #[vI u1,vI u2] w (RetI u w)) (B2:∀ w,Calls Tryz.prog 93 #[vI t5,vI t6] w (RetI v w))
  (S3:∀ w,Calls Tryz.prog 91 #[vI u,vI v] w (RetN s w)) (X1:∀ w,Calls Tryz.prog 92 #[.int .i64 p,.int .i64 q,.int .i64 s] w (RetN m w)) (h1:p≠q) (h2:q≠0) (h3:p=0) :
  Calls Tryz.prog 45 #[vN ⟨a,b,c,d,e⟩] w (RetN m w):=by
 have e1:(p == q)=false:=by simpa using h1
 have e2:(q == 0)=false:=by simpa using h2
 have e3:(p == 0)=true:=by simpa using h3
 exact vm_pure kr Tryz.func45 rfl [.agg #[.bool (sg a),.string (mg a),.bool (sg b),.string (mg b),.bool (sg c),.string (mg c),.bool (sg d),.string (mg d),.bool (sg e),.string (mg e)]] nle [] [.f,(.p _ false e1),(.p _ false e1),(.p _ false e1),(.p _ false e2),(.p _ false e2),(.p _ false e2),(.p _ true e3)] [cV (V),cV (S1),cV (S2),cV (X0)]
theorem fSign_d (a b c d e p q s t1 t2 t3 t4 t5 t6 u1 u2 u v m:Int) (w:World)
  (V:∀ w,Calls Tryz.prog 44 #[vN ⟨a,b,c,d,e⟩] w (RetV (.bool true) w))
  (S1:∀ w,Calls Tryz.prog 91 #[vI a,vI b] w (RetN p w)) (S2:∀ w,Calls Tryz.prog 91 #[vI c,vI d] w (RetN q w))

  (T1:∀ w,Calls Tryz.prog 95 #[.int .i64 1,vI a,vI a] w (RetI t1 w)) (T2:∀ w,Calls Tryz.prog 95 #[.int .i64 2,vI b,vI b] w (RetI t2 w))
  (T3:∀ w,Calls Tryz.prog 95 #[.int .i64 3,vI c,vI c] w (RetI t3 w)) (T4:∀ w,Calls Tryz.prog 95 #[.int .i64 6,vI d,vI d] w (RetI t4 w))
  (T5:∀ w,Calls Tryz.prog 95 #[.int .i64 2,vI a,vI b] w (RetI t5 w)) (T6:∀ w,Calls Tryz.prog 95 #[.int .i64 6,vI c,vI d] w (RetI t6 w))
  (A1:∀ w,Calls Tryz.prog 94 #[vI t1,vI t2] w (RetI u1 w)) (A2:∀ w,Calls Tryz.prog 94 #[vI t3,vI t4] w (RetI u2 w)) (B1:∀ w,Calls Tryz.prog 93 #[vI u1,vI u2] w (RetI u w)) (B2:∀ w,Calls Tryz.prog 93 #[vI t5,vI t6] w (RetI v w))
  (S3:∀ w,Calls Tryz.prog 91 #[vI u,vI v] w (RetN s w)) (X1:∀ w,Calls Tryz.prog 92 #[.int .i64 p,.int .i64 q,.int .i64 s] w (RetN m w)) (h1:p≠q) (h2:q≠0) (h3:p≠0) :
  Calls Tryz.prog 45 #[vN ⟨a,b,c,d,e⟩] w (RetN m w):=by
 have e1:(p == q)=false:=by simpa using h1
 have e2:(q == 0)=false:=by simpa using h2
 have e3:(p == 0)=false:=by simpa using h3
 exact vm_pure kr Tryz.func45 rfl [.agg #[.bool (sg a),.string (mg a),.bool (sg b),.string (mg b),.bool (sg c),.string (mg c),.bool (sg d),.string (mg d),.bool (sg e),.string (mg e)]] nle [] [.f,(.p _ false e1),(.p _ false e1),(.p _ false e1),(.p _ false e2),(.p _ false e2),(.p _ false e2),(.p _ false e3)] [cV (V),cV (S1),cV (S2),cV (T1),cV (T2),cV (A1),cV (T3),cV (T4),cV (A2),cV (B1),cV (T5),cV (T6),cV (B2),cV (S3),cV (X1)]
theorem fSign_any (x:Nm) (w:World) (hx:BN 20000000 x) (ox:Ok x):Calls Tryz.prog 45 #[vN x] w (RetN (sgnN x) w):=by
 have V:=fun w=>fValid_yes x w (hx.mono (by omega)) ox
 obtain ⟨a,b,c,d,e⟩:=x
 obtain ⟨h0,h1,h2,h3,h4⟩:=hx
 simp only at h0 h1 h2 h3 h4
 have tm:∀ {k x y:Int},k.natAbs<256→Bd 20000000 x→Bd 20000000 y→∀ w,Calls Tryz.prog 95 #[.int .i64 k,vI x,vI y] w (RetI (k * (x * y)) w):=fun hk h h' w=>ftimes_any _ _ _ w hk (h.mono (by omega)) (h'.mono (by omega))
 have tb:∀ {k x y:Int},k.natAbs<256→Bd 20000000 x→Bd 20000000 y→Bd 40000001 (k * (x * y)):=fun {k x y} hk h h'=>((show Bd 1 k by unfold Bd;omega).mul (h.mul2 h')).mono (by omega)
 have S1:=fun w=>fsign2_any a b w (h0.mono (by omega)) (h1.mono (by omega))
 have S2:=fun w=>fsign2_any c d w (h2.mono (by omega)) (h3.mono (by omega))
 have b1:=tb (k:=1) (by decide) h0 h0
 have b2:=tb (k:=2) (by decide) h1 h1
 have b3:=tb (k:=3) (by decide) h2 h2
 have b4:=tb (k:=6) (by decide) h3 h3
 have b5:=tb (k:=2) (by decide) h0 h1
 have b6:=tb (k:=6) (by decide) h2 h3
 have A1:=fun w=>Add_any _ _ w (b1.mono (by omega)) (b2.mono (by omega))
 have A2:=fun w=>Add_any _ _ w (b3.mono (by omega)) (b4.mono (by omega))
 have B1:=fun w=>Sub_any _ _ w ((b1.add b2).mono (by omega)) ((b3.add b4).mono (by omega))
 have B2:=fun w=>Sub_any _ _ w (b5.mono (by omega)) (b6.mono (by omega))
 have S3:=fun w=>fsign2_any _ _ w (((b1.add b2).sub (b3.add b4)).mono (by omega)) ((b5.sub b6).mono (by omega))
 have T1:=tm (k:=1) (by decide) h0 h0
 have T2:=tm (k:=2) (by decide) h1 h1
 have T3:=tm (k:=3) (by decide) h2 h2
 have T4:=tm (k:=6) (by decide) h3 h3
 have T5:=tm (k:=2) (by decide) h0 h1
 have T6:=tm (k:=6) (by decide) h2 h3
 have X0:=fun w=>fmixed_any (s2 a b) (s2 c d) 0 w (by rw [Int.mul_zero];rfl)
 have X1:=fun w=>fmixed_any (s2 a b) (s2 c d) (s2 (1 * (a * a)+2 * (b * b) - (3 * (c * c)+6 * (d * d))) (2 * (a * b) - 6 * (c * d))) w (mix_wrap (s2_vals _ _) (s2_vals _ _))
 have hm:sgnN ⟨a,b,c,d,e⟩=mix (s2 a b) (s2 c d) (s2 (1 * (a * a)+2 * (b * b) - (3 * (c * c)+6 * (d * d))) (2 * (a * b) - 6 * (c * d))):=by unfold sgnN s4;rw [Int.one_mul]
 rw [hm]
 clear hm b1 b2 b3 b4 b5 b6 tm tb h0 h1 h2 h3 h4
 generalize s2 (1 * (a * a)+2 * (b * b) - (3 * (c * c)+6 * (d * d))) (2 * (a * b) - 6 * (c * d))=s at *
 generalize s2 a b=p at *
 generalize s2 c d=q at *
 have sm:=fun h=>mix_same (a:=p) (b:=q) 0 s h
 by_cases g1:p=q
 ·rw [sm (.inl g1)] at X0
  exact fSign_a a b c d e p q s _ _ _ _ _ _ _ _ _ _ _ w V S1 S2 X0 T1 T2 T3 T4 T5 T6 A1 A2 B1 B2 S3 X1 g1
 ·by_cases g2:q=0
  ·rw [sm (.inr (.inl g2))] at X0
   exact fSign_b a b c d e p q s _ _ _ _ _ _ _ _ _ _ _ w V S1 S2 X0 T1 T2 T3 T4 T5 T6 A1 A2 B1 B2 S3 X1 g1 g2
  ·by_cases g3:p=0
   ·rw [sm (.inr (.inr g3))] at X0
    exact fSign_c a b c d e p q s _ _ _ _ _ _ _ _ _ _ _ w V S1 S2 X0 T1 T2 T3 T4 T5 T6 A1 A2 B1 B2 S3 X1 g1 g2 g3
   ·exact fSign_d a b c d e p q s _ _ _ _ _ _ _ _ _ _ _ w V S1 S2 T1 T2 T3 T4 T5 T6 A1 A2 B1 B2 S3 X1 g1 g2 g3
theorem fCmp_any (x y:Nm) (w:World) (hx:BN 9000000 x) (hy:BN 9000000 y) (ox:Ok x) (oy:Ok y):Calls Tryz.prog 99 #[vN x,vN y] w (RetN (cmpK x y) w):=by
 have S:=fun w=>fSub_any x y w (hx.mono (by omega)) (hy.mono (by omega)) ox oy
 have G:=fun w=>fSign_any (subN x y) w ((hx.subN hy ox.ne oy.ne).mono (by omega)) (subN_ok ox oy)
 unfold cmpK
 generalize subN x y=l at *
 exact vm_pure kr Tryz.func99 rfl [.agg #[.bool (sg x.c0),.string (mg x.c0),.bool (sg x.c1),.string (mg x.c1),.bool (sg x.c2),.string (mg x.c2),.bool (sg x.c3),.string (mg x.c3),.bool (sg x.d),.string (mg x.d)],.agg #[.bool (sg y.c0),.string (mg y.c0),.bool (sg y.c1),.string (mg y.c1),.bool (sg y.c2),.string (mg y.c2),.bool (sg y.c3),.string (mg y.c3),.bool (sg y.d),.string (mg y.d)]] nle [] [] [cV (S),cV (G)]
def ratB (x:Nm):Bool:=decide (x.c1=0) && decide (x.c2=0) && decide (x.c3=0)
theorem fRatio_any (n d:Int) (w:World) (h0:-9223372036854775808≤n) (h1:n≤9223372036854775807) (g0:-9223372036854775808≤d) (g1:d≤9223372036854775807) (hd:d≠0):Calls Tryz.prog 46 #[.int .i64 n,.int .i64 d] w (RetV (.tuple #[vN (low ⟨n,0,0,0,d⟩),.int .i64 0]) w):=by
 have O1:=fun w=>Of_any n w h0 h1
 have O2:=fun w=>Of_any d w g0 g1
 have b8:∀ {z:Int},-9223372036854775808≤z→z≤9223372036854775807→Bd 80000000 z:=fun a b=>(show Bd 8 _ by unfold Bd;omega).mono (by omega)
 have M:=fun w=>fMake_int ⟨n,0,0,0,d⟩ w ⟨b8 h0 h1,Bd.zero _,Bd.zero _,Bd.zero _,b8 g0 g1⟩ hd
 unfold vA4 at M
 simp only [sg0,mg0] at M
 generalize low ⟨n,0,0,0,d⟩=l at *
 exact vm_pure kr Tryz.func46 rfl [.int .i64 n,.int .i64 d] nle [] [] [cV (O1),cV (O2),cV (M)]
end Go.Proofs.YtlhddcingeneaaaGreatDoor
