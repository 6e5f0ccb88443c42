import Derived.Test.YtegnalgjjmpcmaaGreatDoorPUE
import Derived.Test.YtegnalgjjmpcmaaGreatDoorPUB
import Derived.Test.YtegnalgjjmpcmaaGreatDoorPUH
/- Comparing integers for equality,as the program does. -/
set_option linter.unusedVariables false
set_option linter.unusedSimpArgs false
set_option maxRecDepth 100000
set_option maxHeartbeats 8000000
namespace Go.Proofs.YtegnalgjjmpcmaaGreatDoor
open Go Go.RowKit
abbrev eqT (o:BinOp) (t:TypeId) (p q:Operand) (a b:Value):Sem Value:=do eqGuard o t p q a b;binOp o t a b
theorem zjf {x y:Int} (h:x≠y):sg x=sg y→¬ (mg x).toList=(mg y).toList:=fun h1 h2=>by
 rw [ByteArray.toList_eq,ByteArray.toList_eq] at h2
 exact h (zlG h1 (ByteArray.ext (Array.toList_inj.1 h2)))
theorem zjO {x y:Int} (h1:sg x=sg y) (h2:(mg x).toList=(mg y).toList):x=y:=Classical.byContradiction fun h=>zjf h h1 h2
theorem zgK (x:Int) (p q:Operand) (w:World):(eqT .eql 23 p q (vI x) (vI x)).run Tryz.prog w = .ok (.bool true) w:=by
 unfold eqT
 go_simp
theorem zeR (x y:Int) (h:x≠y) (p q:Operand) (w:World):(eqT .eql 23 p q (vI x) (vI y)).run Tryz.prog w = .ok (.bool false) w:=by
 have:=zjf h
 unfold eqT
 go_simp
 exact this
theorem zcm (x:Int) (p q:Operand) (w:World):(eqT .neq 23 p q (vI x) (vI x)).run Tryz.prog w = .ok (.bool false) w:=by
 unfold eqT
 go_simp
theorem zb1 (x y:Int) (h:x≠y) (p q:Operand) (w:World):(eqT .neq 23 p q (vI x) (vI y)).run Tryz.prog w = .ok (.bool true) w:=by
 have:=zjf h
 unfold eqT
 go_simp
 exact this

def vA4 (a b c d:Int):Value:=.agg #[.bool (sg a),.string (mg a),.bool (sg b),.string (mg b),.bool (sg c),.string (mg c),.bool (sg d),.string (mg d)]
def vN (x:Nm):Value:=.agg #[.bool (sg x.c0),.string (mg x.c0),.bool (sg x.c1),.string (mg x.c1),.bool (sg x.c2),.string (mg x.c2),.bool (sg x.c3),.string (mg x.c3),.bool (sg x.d),.string (mg x.d)]
theorem zp1 (a0 a1 a2 a3 b0 b1 b2 b3:Bool) (s0 s1 s2 s3 t0 t1 t2 t3:ByteArray) (w:World):(Op.equalIn 9999 24 (.agg #[.bool a0,.string s0,.bool a1,.string s1,.bool a2,.string s2,.bool a3,.string s3]) (.agg #[.bool b0,.string t0,.bool b1,.string t1,.bool b2,.string t2,.bool b3,.string t3])).run Tryz.prog w = .ok (decide (a0=b0∧s0.toList=t0.toList∧a1=b1∧s1.toList=t1.toList∧a2=b2∧s2.toList=t2.toList∧a3=b3∧s3.toList=t3.toList)) w:=by
 rw [Op.equalIn]
 go_simp
 rw [show List.range' 0 4 = [0,1,2,3] from rfl]
 have tw:∀ {p q:Prop},¬ (p∧q)→p→¬ q:=fun h a b=>h ⟨a,b⟩
 by_cases h0:a0=b0∧s0.toList=t0.toList
 ·obtain ⟨rfl,h0⟩:=h0
  by_cases h1:a1=b1∧s1.toList=t1.toList
  ·obtain ⟨rfl,h1⟩:=h1
   by_cases h2:a2=b2∧s2.toList=t2.toList
   ·obtain ⟨rfl,h2⟩:=h2
    by_cases h3:a3=b3∧s3.toList=t3.toList
    ·obtain ⟨rfl,h3⟩:=h3
     simp only [h0,h1,h2,h3,List.forIn_cons,List.forIn_nil]
     go_simp
    ·simp only [h0,h1,h2,List.forIn_cons,List.forIn_nil]
     go_simp
     by_cases e:a3=b3
     ·have:=tw h3 e
      subst e
      go_simp
     ·go_simp
   ·simp only [h0,h1,List.forIn_cons,List.forIn_nil]
    by_cases e:a2=b2
    ·have:=tw h2 e
     subst e
     go_simp
    ·go_simp
  ·simp only [h0,List.forIn_cons,List.forIn_nil]
   by_cases e:a1=b1
   ·have:=tw h1 e
    subst e
    go_simp
   ·go_simp
 ·simp only [List.forIn_cons,List.forIn_nil]
  by_cases e:a0=b0
  ·have:=tw h0 e
   subst e
   go_simp
  ·go_simp
theorem zdo (x:Nm) (p q:Operand) (w:World):(eqT .eql 26 p q (vN x) (vN x)).run Tryz.prog w = .ok (.bool true) w:=by
 have h:=zp1 (sg x.c0) (sg x.c1) (sg x.c2) (sg x.c3) (sg x.c0) (sg x.c1) (sg x.c2) (sg x.c3) (mg x.c0) (mg x.c1) (mg x.c2) (mg x.c3) (mg x.c0) (mg x.c1) (mg x.c2) (mg x.c3) w
 rw [decide_eq_true (by simp)] at h
 unfold eqT vN
 go_simp
theorem zpr (x y:Nm) (h:x≠y) (p q:Operand) (w:World):(eqT .eql 26 p q (vN x) (vN y)).run Tryz.prog w = .ok (.bool false) w:=by
 have ha:=zp1 (sg x.c0) (sg x.c1) (sg x.c2) (sg x.c3) (sg y.c0) (sg y.c1) (sg y.c2) (sg y.c3) (mg x.c0) (mg x.c1) (mg x.c2) (mg x.c3) (mg y.c0) (mg y.c1) (mg y.c2) (mg y.c3) w
 unfold eqT vN
 by_cases hc:x.c0=y.c0∧x.c1=y.c1∧x.c2=y.c2∧x.c3=y.c3
 ·obtain ⟨h0,h1,h2,h3⟩:=hc
  have h4:x.d≠y.d:=fun e=>h (Nm.ext h0 h1 h2 h3 e)
  have h5:=zjf h4
  rw [decide_eq_true (by rw [h0,h1,h2,h3];simp)] at ha
  clear h0 h1 h2 h3 h h4
  go_simp
  exact h5
 ·rw [decide_eq_false (fun ⟨a0,b0,a1,b1,a2,b2,a3,b3⟩=>hc ⟨zjO a0 b0,zjO a1 b1,zjO a2 b2,zjO a3 b3⟩)] at ha
  clear h hc
  go_simp

structure BN (k:Nat) (x:Nm):Prop where
 h0:Bd k x.c0
 h1:Bd k x.c1
 h2:Bd k x.c2
 h3:Bd k x.c3
 h4:Bd k x.d
theorem BN.mono {a b:Nat} {x:Nm} (h:BN a x) (hab:a≤b):BN b x:=⟨h.h0.mono hab,h.h1.mono hab,h.h2.mono hab,h.h3.mono hab,h.h4.mono hab⟩
theorem Bd.gcd {k:Nat} {x y:Int} (hx:Bd k x) (hy:Bd k y):Bd k ((Nat.gcd x.natAbs y.natAbs:Nat):Int):=by
 by_cases h:x=0
 ·subst h
  refine hy.le ?_
  simp
 ·refine hx.le ?_
  rw [Int.natAbs_natCast]
  exact Nat.gcd_le_left _ (by omega)
theorem Bd.fdiv {k:Nat} {x g:Int} (hx:Bd k x) (hg:g≠0) (h:g∣x):Bd k (x.fdiv g):=by
 have h1:=zaS hg h
 refine hx.le ?_
 have h2:=congrArg Int.natAbs h1
 rw [Int.natAbs_mul] at h2
 rw [← h2]
 exact Nat.le_mul_of_pos_right _ (by omega)
theorem zcg (x y:Int) (w:World) (hx:Bd 100000000 x) (hy:Bd 100000000 y) (h0:y≠0):Calls Tryz.prog 108 #[vI x,vI y] w (RetI (x.fdiv y) w):=by
 have H1:=fun w=>zj2 x y w hx hy h0
 show Calls Tryz.prog 108 #[.agg #[.bool (sg x),.string (mg x)],.agg #[.bool (sg y),.string (mg y)]] w (RetV (vI (x.fdiv y)) w)
 exact zac kr Tryz.func108 rfl [.agg #[.bool (sg x),.string (mg x)],.agg #[.bool (sg y),.string (mg y)]] nle [] [] [cV (H1)]
theorem zcK (x:Nm) (w:World) (h:BN 80000000 x):Calls Tryz.prog 127 #[vA4 x.c0 x.c1 x.c2 x.c3,vI x.d] w (RetI (cof x:Nat) w):=by
 obtain ⟨a,b,c,d,e⟩:=x
 obtain ⟨h0,h1,h2,h3,h4⟩:=h
 simp only at h0 h1 h2 h3 h4 ⊢
 obtain ⟨g1,hg1⟩:∃ g:Nat,g=e.natAbs.gcd a.natAbs:=⟨_,rfl⟩
 obtain ⟨g2,hg2⟩:∃ g:Nat,g=g1.gcd b.natAbs:=⟨_,rfl⟩
 obtain ⟨g3,hg3⟩:∃ g:Nat,g=g2.gcd c.natAbs:=⟨_,rfl⟩
 obtain ⟨g4,hg4⟩:∃ g:Nat,g=g3.gcd d.natAbs:=⟨_,rfl⟩
 have b1:=h4.gcd h0
 rw [← hg1] at b1
 have b2:=b1.gcd h1
 rw [Int.natAbs_natCast,← hg2] at b2
 have b3:=b2.gcd h2
 rw [Int.natAbs_natCast,← hg3] at b3
 have H1:=fun w=>zfy e a w h4 h0
 have H2:=fun w=>zfy (g1:Int) b w b1 h1
 have H3:=fun w=>zfy (g2:Int) c w b2 h2
 have H4:=fun w=>zfy (g3:Int) d w b3 h3
 simp only [Int.natAbs_natCast,← hg1,← hg2,← hg3,← hg4] at H1 H2 H3 H4
 have hc:cof ⟨a,b,c,d,e⟩=g4:=by unfold cof;simp only;rw [hg4,hg3,hg2,hg1]
 rw [hc]
 clear hc hg1 hg2 hg3 hg4
 show Calls Tryz.prog 127 #[.agg #[.bool (sg a),.string (mg a),.bool (sg b),.string (mg b),.bool (sg c),.string (mg c),.bool (sg d),.string (mg d)],.agg #[.bool (sg e),.string (mg e)]] w (RetV (vI (g4:Nat)) w)
 exact zac kr Tryz.func127 rfl [.agg #[.bool (sg a),.string (mg a),.bool (sg b),.string (mg b),.bool (sg c),.string (mg c),.bool (sg d),.string (mg d)],.agg #[.bool (sg e),.string (mg e)]] nle [] [.t,.t,.t,.t,.f] [cV (H1),cV (H2),cV (H3),cV (H4)]
theorem BN.low {k:Nat} {x:Nm} (h:BN k x) (hd:x.d≠0):BN k (low x):=by
 have hg:=zhG hd
 obtain ⟨h0,h1,h2,h3,h4⟩:=zir x
 exact ⟨h.h0.fdiv hg h0,h.h1.fdiv hg h1,h.h2.fdiv hg h2,h.h3.fdiv hg h3,h.h4.fdiv hg h4⟩
theorem Bd.cof {k:Nat} {x:Nm} (h:BN k x):Bd k (cof x:Nat):=by
 have b1:=h.h4.gcd h.h0
 have b2:=b1.gcd h.h1
 have b3:=b2.gcd h.h2
 have b4:=b3.gcd h.h3
 simp only [Int.natAbs_natCast] at b4
 exact b4
theorem zbo (x:Int):x.fdiv 1=x:=by simp
theorem zcC (x:Nm) (w:World) (h:BN 80000000 x) (hd:x.d≠0):Calls Tryz.prog 104 #[vA4 x.c0 x.c1 x.c2 x.c3,vI x.d] w (RetV (vN (low x)) w):=by
 have HC:=fun w=>zcK x w h
 have hS:=fun w=>zbZ x.d w
 have hO:=fun w=>zbe 1 w (by omega) (by omega)
 have hc:=zdA hd
 have hB:=Bd.cof h
 have hne:=zhG hd
 have hbG:Bd 80000000 (sgG x):=by unfold sgG;split;exact hB.neg;exact hB
 have V0:=fun w=>zcg x.c0 (sgG x) w (h.h0.mono (by omega)) (hbG.mono (by omega)) hne
 have V1:=fun w=>zcg x.c1 (sgG x) w (h.h1.mono (by omega)) (hbG.mono (by omega)) hne
 have V2:=fun w=>zcg x.c2 (sgG x) w (h.h2.mono (by omega)) (hbG.mono (by omega)) hne
 have V3:=fun w=>zcg x.c3 (sgG x) w (h.h3.mono (by omega)) (hbG.mono (by omega)) hne
 have V4:=fun w=>zcg x.d (sgG x) w (h.h4.mono (by omega)) (hbG.mono (by omega)) hne
 by_cases hn:x.d<0
 ·have hs:decide (x.d.sign<0)=true:=decide_eq_true (by rw [Int.sign_eq_neg_one_of_neg hn];omega)
  have hG:sgG x = -(cof x:Int):=by unfold sgG;rw [if_pos hn]
  have HN:=fun w=>zcs (cof x:Nat) w
  rw [← hG] at HN
  have h1:sgG x≠1:=by omega
  unfold low
  generalize (cof x:Int)=c at *
  generalize sgG x=g at *
  show Calls Tryz.prog 104 #[vA4 x.c0 x.c1 x.c2 x.c3,.agg #[.bool (sg x.d),.string (mg x.d)]] w _
  exact zac kr Tryz.func104 rfl [.agg #[.bool (sg x.c0),.string (mg x.c0),.bool (sg x.c1),.string (mg x.c1),.bool (sg x.c2),.string (mg x.c2),.bool (sg x.c3),.string (mg x.c3)],.agg #[.bool (sg x.d),.string (mg x.d)]] nle [(4,2)] [(.p _ true hs),.f,.t,.t,.t,.t,.f] [cV (HC),cV (hS),cV (HN),cV (hO),lV _ (.bool false) (fun w hC=>zeR (g) (1) (h1) (.tmp 15) (.tmp 16) w),cV (V0),cV (V1),cV (V2),cV (V3),cV (V4)]
 ·have hs:decide (x.d.sign<0)=false:=decide_eq_false (by rw [Int.sign_eq_one_of_pos (by omega)];omega)
  have hG:sgG x=(cof x:Int):=by unfold sgG;rw [if_neg hn]
  rw [← hG] at HC
  by_cases h1:sgG x=1
  ·have e:low x=x:=by unfold low;rw [h1];exact Nm.ext (zbo _) (zbo _) (zbo _) (zbo _) (zbo _)
   rw [e]
   rw [h1] at HC
   show Calls Tryz.prog 104 #[vA4 x.c0 x.c1 x.c2 x.c3,.agg #[.bool (sg x.d),.string (mg x.d)]] w _
   exact zac kr Tryz.func104 rfl [.agg #[.bool (sg x.c0),.string (mg x.c0),.bool (sg x.c1),.string (mg x.c1),.bool (sg x.c2),.string (mg x.c2),.bool (sg x.c3),.string (mg x.c3)],.agg #[.bool (sg x.d),.string (mg x.d)]] nle [(4,2)] [(.p _ false hs),.t] [cV (HC),cV (hS),cV (hO),lV _ (.bool true) (fun w hC=>zgK (1) (.tmp 15) (.tmp 16) w)]
  ·unfold low
   generalize sgG x=g at *
   show Calls Tryz.prog 104 #[vA4 x.c0 x.c1 x.c2 x.c3,.agg #[.bool (sg x.d),.string (mg x.d)]] w _
   exact zac kr Tryz.func104 rfl [.agg #[.bool (sg x.c0),.string (mg x.c0),.bool (sg x.c1),.string (mg x.c1),.bool (sg x.c2),.string (mg x.c2),.bool (sg x.c3),.string (mg x.c3)],.agg #[.bool (sg x.d),.string (mg x.d)]] nle [(4,2)] [(.p _ false hs),.f,.t,.t,.t,.t,.f] [cV (HC),cV (hS),cV (hO),lV _ (.bool false) (fun w hC=>zeR (g) (1) (h1) (.tmp 15) (.tmp 16) w),cV (V0),cV (V1),cV (V2),cV (V3),cV (V4)]

theorem sg0:sg 0=false:=rfl
theorem mg0:mg 0=⟨#[]⟩:=by
 have h:=zbY
 unfold vI at h
 injection h with h
 have h2:=congrArg (fun a:Array Value=>a[1]?) h
 simpa using h2
def vZ:Value:=.agg #[.bool false,.string ⟨#[]⟩,.bool false,.string ⟨#[]⟩,.bool false,.string ⟨#[]⟩,.bool false,.string ⟨#[]⟩,.bool false,.string ⟨#[]⟩]
theorem zi5 (n d:Int):vN ⟨n,0,0,0,d⟩ = .agg #[.bool (sg n),.string (mg n),.bool false,.string ⟨#[]⟩,.bool false,.string ⟨#[]⟩,.bool false,.string ⟨#[]⟩,.bool (sg d),.string (mg d)]:=by unfold vN;simp only [sg0,mg0]
def intN (n:Int):Nm:=⟨n,0,0,0,1⟩
theorem zaW (n:Int):Ok (intN n):=⟨by show (0:Int)<1;decide,by unfold cof intN;simp⟩
theorem zcq (n:Int) (w:World) (h0:-9223372036854775808≤n) (h1:n≤9223372036854775807):Calls Tryz.prog 63 #[.int .i64 n] w (RetV (vN (intN n)) w):=by
 have H1:=fun w=>zbe n w h0 h1
 have H2:=fun w=>zbe 1 w (by omega) (by omega)
 unfold intN
 rw [zi5]
 exact zac kr Tryz.func63 rfl [.int .i64 n] nle [] [] [cV (H1),cV (H2)]
def rootN (k:Int):Nm:=if k=2 then ⟨0,1,0,0,1⟩ else if k=3 then ⟨0,0,1,0,1⟩ else if k=6 then ⟨0,0,0,1,1⟩ else zN
theorem zaG (k:Int):Ok (rootN k):=by
 unfold rootN
 split
 ·exact ⟨by decide,by decide⟩
 ·split
  ·exact ⟨by decide,by decide⟩
  ·split
   ·exact ⟨by decide,by decide⟩
   ·exact zrZ
theorem zc4 (k:Int) (w:World):Calls Tryz.prog 64 #[.int .i64 k] w (RetV (vN (rootN k)) w):=by
 have H0:=fun w=>zcq 0 w (by omega) (by omega)
 have H1:=fun w=>zbe 1 w (by omega) (by omega)
 unfold intN at H0
 rw [zi5] at H0
 unfold rootN
 by_cases h2:k=2
 ·have e2:(k == 2)=true:=by simpa using h2
  rw [if_pos h2]
  unfold vN
  simp only [sg0,mg0] at H0 ⊢
  exact zac kr Tryz.func64 rfl [.int .i64 k] nle [] [(.p _ true e2)] [cV (H0),cV (H1)]
 ·have e2:(k == 2)=false:=by simpa using h2
  rw [if_neg h2]
  by_cases h3:k=3
  ·have e3:(k == 3)=true:=by simpa using h3
   rw [if_pos h3]
   unfold vN
   simp only [sg0,mg0] at H0 ⊢
   exact zac kr Tryz.func64 rfl [.int .i64 k] nle [] [(.p _ false e2),(.p _ true e3)] [cV (H0),cV (H1)]
  ·have e3:(k == 3)=false:=by simpa using h3
   rw [if_neg h3]
   by_cases h6:k=6
   ·have e6:(k == 6)=true:=by simpa using h6
    rw [if_pos h6]
    unfold vN
    simp only [sg0,mg0] at H0 ⊢
    exact zac kr Tryz.func64 rfl [.int .i64 k] nle [] [(.p _ false e2),(.p _ false e3),(.p _ true e6)] [cV (H0),cV (H1)]
   ·have e6:(k == 6)=false:=by simpa using h6
    rw [if_neg h6]
    unfold vN zN
    simp only [sg0,mg0] at H0 ⊢
    exact zac kr Tryz.func64 rfl [.int .i64 k] nle [] [(.p _ false e2),(.p _ false e3),(.p _ false e6)] [cV (H0)]
theorem znG (x:Nm) (w:World) (h:BN 80000000 x) (hd:x.d≠0):Calls Tryz.prog 58 #[vA4 x.c0 x.c1 x.c2 x.c3,vI x.d] w (RetV (.tuple #[vN (low x),.int .i64 0]) w):=by
 have V0:=fun w=>zaf x.c0 w
 have V1:=fun w=>zaf x.c1 w
 have V2:=fun w=>zaf x.c2 w
 have V3:=fun w=>zaf x.c3 w
 have V4:=fun w=>zaf x.d w
 have S:=fun w=>zbZ x.d w
 have L:=fun w=>zcC x w h hd
 have hs:(x.d.sign == 0)=false:=by rw [beq_eq_false_iff_ne];exact fun e=>hd (Int.sign_eq_zero_iff_zero.1 e)
 generalize low x=l at *
 show Calls Tryz.prog 58 #[vA4 x.c0 x.c1 x.c2 x.c3,.agg #[.bool (sg x.d),.string (mg x.d)]] w _
 exact zac kr Tryz.func58 rfl [.agg #[.bool (sg x.c0),.string (mg x.c0),.bool (sg x.c1),.string (mg x.c1),.bool (sg x.c2),.string (mg x.c2),.bool (sg x.c3),.string (mg x.c3)],.agg #[.bool (sg x.d),.string (mg x.d)]] nle [] [.t,.f,.t,.f,.t,.f,.t,.f,.f,.f,(.p _ false hs)] [cV (V0),cV (V1),cV (V2),cV (V3),cV (V4),cV (S),cV (L)]
theorem zmU (a b c d:Int) (w:World):Calls Tryz.prog 58 #[vA4 a b c d,vI 0] w (RetV (.tuple #[vZ,.int .i64 10]) w):=by
 have V0:=fun w=>zaf a w
 have V1:=fun w=>zaf b w
 have V2:=fun w=>zaf c w
 have V3:=fun w=>zaf d w
 have V4:=fun w=>zaf 0 w
 have S:=fun w=>zbZ 0 w
 generalize hz:(0:Int)=z at *
 have hs:(z.sign == 0)=true:=by rw [← hz];rfl
 show Calls Tryz.prog 58 #[vA4 a b c d,.agg #[.bool (sg z),.string (mg z)]] w _
 exact zac kr Tryz.func58 rfl [.agg #[.bool (sg a),.string (mg a),.bool (sg b),.string (mg b),.bool (sg c),.string (mg c),.bool (sg d),.string (mg d)],.agg #[.bool (sg z),.string (mg z)]] nle [] [.t,.f,.t,.f,.t,.f,.t,.f,.f,.f,(.p _ true hs)] [cV (V0),cV (V1),cV (V2),cV (V3),cV (V4),cV (S)]
theorem zfW (x:Nm) (w:World) (h:BN 80000000 x) (hd:0<x.d) (hc:cof x=1):Calls Tryz.prog 62 #[vN x] w (RetV (.bool true) w):=by
 have V0:=fun w=>zaf x.c0 w
 have V1:=fun w=>zaf x.c1 w
 have V2:=fun w=>zaf x.c2 w
 have V3:=fun w=>zaf x.c3 w
 have V4:=fun w=>zaf x.d w
 have S:=fun w=>zbZ x.d w
 have HC:=fun w=>zcK x w h
 have hO:=fun w=>zbe 1 w (by omega) (by omega)
 have hs:decide (0<x.d.sign)=true:=by first | exact decide_eq_true (by rw [Int.sign_eq_one_of_pos hd];omega) | exact decide_eq_false (by rw [Int.sign_eq_one_of_pos hd];omega)
 rw [hc] at HC
 exact zac kr Tryz.func62 rfl [.agg #[.bool (sg x.c0),.string (mg x.c0),.bool (sg x.c1),.string (mg x.c1),.bool (sg x.c2),.string (mg x.c2),.bool (sg x.c3),.string (mg x.c3),.bool (sg x.d),.string (mg x.d)]] nle [(7,16)] [.t,.f,.t,.f,.t,.f,.t,.f,.f,.t,.t,.t,.t,.t,(.p _ true hs),(.p _ true hs),(.p _ true hs),(.p _ true hs),(.p _ true hs),(.p _ true hs),(.p _ true hs),(.p _ true hs)] [cV (V0),cV (V1),cV (V2),cV (V3),cV (V4),cV (S),cV (HC),cV (hO),lV _ (.bool true) (fun w hC=>zgK (1) (.tmp 28) (.tmp 29) w)]
theorem zkv (x:Nm) (w:World) (h:BN 80000000 x) (hd:x.d≤0):Calls Tryz.prog 62 #[vN x] w (RetV (.bool false) w):=by
 have V0:=fun w=>zaf x.c0 w
 have V1:=fun w=>zaf x.c1 w
 have V2:=fun w=>zaf x.c2 w
 have V3:=fun w=>zaf x.c3 w
 have V4:=fun w=>zaf x.d w
 have S:=fun w=>zbZ x.d w
 have HC:=fun w=>zcK x w h
 have hO:=fun w=>zbe 1 w (by omega) (by omega)
 have hs:decide (0<x.d.sign)=false:=by first | exact decide_eq_true (by have:=Int.sign_nonpos_iff.2 hd;omega) | exact decide_eq_false (by have:=Int.sign_nonpos_iff.2 hd;omega)
 skip
 exact zac kr Tryz.func62 rfl [.agg #[.bool (sg x.c0),.string (mg x.c0),.bool (sg x.c1),.string (mg x.c1),.bool (sg x.c2),.string (mg x.c2),.bool (sg x.c3),.string (mg x.c3),.bool (sg x.d),.string (mg x.d)]] nle [] [.t,.f,.t,.f,.t,.f,.t,.f,.f,.t,.t,.t,.t,.t,(.p _ false hs),(.p _ false hs),(.p _ false hs),(.p _ false hs),(.p _ false hs),(.p _ false hs),(.p _ false hs),(.p _ false hs)] [cV (V0),cV (V1),cV (V2),cV (V3),cV (V4),cV (S)]
theorem zlc (x:Nm) (w:World) (h:BN 80000000 x) (hd:0<x.d) (hc:cof x≠1):Calls Tryz.prog 62 #[vN x] w (RetV (.bool false) w):=by
 have V0:=fun w=>zaf x.c0 w
 have V1:=fun w=>zaf x.c1 w
 have V2:=fun w=>zaf x.c2 w
 have V3:=fun w=>zaf x.c3 w
 have V4:=fun w=>zaf x.d w
 have S:=fun w=>zbZ x.d w
 have HC:=fun w=>zcK x w h
 have hO:=fun w=>zbe 1 w (by omega) (by omega)
 have hs:decide (0<x.d.sign)=true:=by first | exact decide_eq_true (by rw [Int.sign_eq_one_of_pos hd];omega) | exact decide_eq_false (by rw [Int.sign_eq_one_of_pos hd];omega)
 have h1:((cof x:Nat):Int)≠1:=by omega
 exact zac kr Tryz.func62 rfl [.agg #[.bool (sg x.c0),.string (mg x.c0),.bool (sg x.c1),.string (mg x.c1),.bool (sg x.c2),.string (mg x.c2),.bool (sg x.c3),.string (mg x.c3),.bool (sg x.d),.string (mg x.d)]] nle [(7,16)] [.t,.f,.t,.f,.t,.f,.t,.f,.f,.t,.t,.t,.t,.t,(.p _ true hs),(.p _ true hs),(.p _ true hs),(.p _ true hs),(.p _ true hs),(.p _ true hs),(.p _ true hs),(.p _ true hs)] [cV (V0),cV (V1),cV (V2),cV (V3),cV (V4),cV (S),cV (HC),cV (hO),lV _ (.bool false) (fun w hC=>zeR ((cof x:Nat)) (1) (h1) (.tmp 28) (.tmp 29) w)]
structure Rw where
 n0:Bool
 s0:ByteArray
 n1:Bool
 s1:ByteArray
 n2:Bool
 s2:ByteArray
 n3:Bool
 s3:ByteArray
 n4:Bool
 s4:ByteArray
def vR (r:Rw):Value:=.agg #[.bool r.n0,.string r.s0,.bool r.n1,.string r.s1,.bool r.n2,.string r.s2,.bool r.n3,.string r.s3,.bool r.n4,.string r.s4]
def nmR (r:Rw):Nm:=⟨ival r.n0 r.s0,ival r.n1 r.s1,ival r.n2 r.s2,ival r.n3 r.s3,ival r.n4 r.s4⟩
def vldR (r:Rw):Bool:=vld r.n0 r.s0 && vld r.n1 r.s1 && vld r.n2 r.s2 && vld r.n3 r.s3 && vld r.n4 r.s4
def smallR (k:Nat) (r:Rw):Prop:=r.s0.size≤k∧r.s1.size≤k∧r.s2.size≤k∧r.s3.size≤k∧r.s4.size≤k
def okR (r:Rw):Bool:=vldR r && decide (0<(nmR r).d) && decide (cof (nmR r)=1)
theorem zqG {r:Rw} (h:vldR r=true):vR r=vN (nmR r):=by
 unfold vldR at h
 simp only [Bool.and_eq_true] at h
 obtain ⟨⟨⟨⟨h0,h1⟩,h2⟩,h3⟩,h4⟩:=h
 obtain ⟨a0,b0⟩:=zbr h0
 obtain ⟨a1,b1⟩:=zbr h1
 obtain ⟨a2,b2⟩:=zbr h2
 obtain ⟨a3,b3⟩:=zbr h3
 obtain ⟨a4,b4⟩:=zbr h4
 unfold vR vN nmR
 simp only [← a0,← b0,← a1,← b1,← a2,← b2,← a3,← b3,← a4,← b4]
theorem zst {k:Nat} {r:Rw} (hs:smallR k r) (h:vldR r=true):BN k (nmR r):=by
 unfold vldR at h
 simp only [Bool.and_eq_true] at h
 obtain ⟨⟨⟨⟨h0,h1⟩,h2⟩,h3⟩,h4⟩:=h
 obtain ⟨g0,g1,g2,g3,g4⟩:=hs
 have t:∀ {n s},vld n s=true→s.size≤k→Bd k (ival n s):=fun {n s} h g=>by
  have:=Bd.of_size (ival n s)
  rw [← (zbr h).2] at this
  exact this.mono g
 exact ⟨t h0 g0,t h1 g1,t h2 g2,t h3 g3,t h4 g4⟩
theorem zrU {r:Rw} (h:okR r=true):Ok (nmR r)∧vldR r=true:=by
 unfold okR at h
 simp only [Bool.and_eq_true,decide_eq_true_eq] at h
 exact ⟨⟨h.1.2,h.2⟩,h.1.1⟩
theorem zlo (r:Rw) (w:World) (h:vld r.n0 r.s0=false):Calls Tryz.prog 62 #[vR r] w (RetV (.bool false) w):=by
 exact zac kr Tryz.func62 rfl [.agg #[.bool r.n0,.string r.s0,.bool r.n1,.string r.s1,.bool r.n2,.string r.s2,.bool r.n3,.string r.s3,.bool r.n4,.string r.s4]] nle [] [.t,.t] [cV (fun w=>zeb r.n0 r.s0 w h)]
theorem zmk (r:Rw) (w:World) (h0:vld r.n0 r.s0=true) (h:vld r.n1 r.s1=false):Calls Tryz.prog 62 #[vR r] w (RetV (.bool false) w):=by
 exact zac kr Tryz.func62 rfl [.agg #[.bool r.n0,.string r.s0,.bool r.n1,.string r.s1,.bool r.n2,.string r.s2,.bool r.n3,.string r.s3,.bool r.n4,.string r.s4]] nle [] [.t,.f,.t,.t] [cV (fun w=>zbL r.n0 r.s0 w h0),cV (fun w=>zeb r.n1 r.s1 w h)]
theorem zmi (r:Rw) (w:World) (h0:vld r.n0 r.s0=true) (h1:vld r.n1 r.s1=true) (h:vld r.n2 r.s2=false):Calls Tryz.prog 62 #[vR r] w (RetV (.bool false) w):=by
 exact zac kr Tryz.func62 rfl [.agg #[.bool r.n0,.string r.s0,.bool r.n1,.string r.s1,.bool r.n2,.string r.s2,.bool r.n3,.string r.s3,.bool r.n4,.string r.s4]] nle [] [.t,.f,.t,.f,.t,.t] [cV (fun w=>zbL r.n0 r.s0 w h0),cV (fun w=>zbL r.n1 r.s1 w h1),cV (fun w=>zeb r.n2 r.s2 w h)]
theorem znx (r:Rw) (w:World) (h0:vld r.n0 r.s0=true) (h1:vld r.n1 r.s1=true) (h2:vld r.n2 r.s2=true) (h:vld r.n3 r.s3=false):Calls Tryz.prog 62 #[vR r] w (RetV (.bool false) w):=by
 exact zac kr Tryz.func62 rfl [.agg #[.bool r.n0,.string r.s0,.bool r.n1,.string r.s1,.bool r.n2,.string r.s2,.bool r.n3,.string r.s3,.bool r.n4,.string r.s4]] nle [] [.t,.f,.t,.f,.t,.f,.t,.t] [cV (fun w=>zbL r.n0 r.s0 w h0),cV (fun w=>zbL r.n1 r.s1 w h1),cV (fun w=>zbL r.n2 r.s2 w h2),cV (fun w=>zeb r.n3 r.s3 w h)]
theorem zle (r:Rw) (w:World) (h0:vld r.n0 r.s0=true) (h1:vld r.n1 r.s1=true) (h2:vld r.n2 r.s2=true) (h3:vld r.n3 r.s3=true) (h:vld r.n4 r.s4=false):Calls Tryz.prog 62 #[vR r] w (RetV (.bool false) w):=by
 exact zac kr Tryz.func62 rfl [.agg #[.bool r.n0,.string r.s0,.bool r.n1,.string r.s1,.bool r.n2,.string r.s2,.bool r.n3,.string r.s3,.bool r.n4,.string r.s4]] nle [] [.t,.f,.t,.f,.t,.f,.t,.f,.f,.f,.f,.f,.f,.f,.f,.f,.f,.f,.f,.f,.f,.f] [cV (fun w=>zbL r.n0 r.s0 w h0),cV (fun w=>zbL r.n1 r.s1 w h1),cV (fun w=>zbL r.n2 r.s2 w h2),cV (fun w=>zbL r.n3 r.s3 w h3),cV (fun w=>zeb r.n4 r.s4 w h)]
theorem zkz (r:Rw) (w:World) (hs:smallR 80000000 r):Calls Tryz.prog 62 #[vR r] w (RetV (.bool (okR r)) w):=by
 have no:vldR r=false→okR r=false:=fun h=>by unfold okR;rw [h];rfl
 cases h0:vld r.n0 r.s0 with
 | false=>rw [no (by unfold vldR;rw [h0];rfl)];exact zlo r w h0
 | true =>
  cases h1:vld r.n1 r.s1 with
  | false=>rw [no (by unfold vldR;rw [h0,h1];rfl)];exact zmk r w h0 h1
  | true =>
   cases h2:vld r.n2 r.s2 with
   | false=>rw [no (by unfold vldR;rw [h0,h1,h2];rfl)];exact zmi r w h0 h1 h2
   | true =>
    cases h3:vld r.n3 r.s3 with
    | false=>rw [no (by unfold vldR;rw [h0,h1,h2,h3];rfl)];exact znx r w h0 h1 h2 h3
    | true =>
     cases h4:vld r.n4 r.s4 with
     | false=>rw [no (by unfold vldR;rw [h0,h1,h2,h3,h4];rfl)];exact zle r w h0 h1 h2 h3 h4
     | true =>
      have hv:vldR r=true:=by unfold vldR;rw [h0,h1,h2,h3,h4];rfl
      have hb:=zst hs hv
      have e:okR r=(decide (0<(nmR r).d) && decide (cof (nmR r)=1)):=by unfold okR;rw [hv];rfl
      rw [zqG hv,e]
      generalize nmR r=x at *
      by_cases hd:0<x.d
      ·rw [decide_eq_true hd]
       by_cases hc:cof x=1
       ·rw [decide_eq_true hc];exact zfW x w hb hd hc
       ·rw [decide_eq_false hc];exact zlc x w hb hd hc
      ·rw [decide_eq_false hd];exact zkv x w hb (by omega)
theorem zbb (x:Nm) (w:World) (hb:BN 80000000 x) (h:Ok x):Calls Tryz.prog 62 #[vN x] w (RetV (.bool true) w):=zfW x w hb h.pos h.cop
theorem zlC (r:Rw) (w:World) (hs:smallR 80000000 r) (h:okR r=false):Calls Tryz.prog 62 #[vR r] w (RetV (.bool false) w):=by
 have:=zkz r w hs
 rwa [h] at this

theorem BN.neg {k:Nat} {x:Nm} (h:BN k x):BN k (negN x):=⟨h.h0.neg,h.h1.neg,h.h2.neg,h.h3.neg,h.h4⟩
theorem BN.cj1 {k:Nat} {x:Nm} (h:BN k x):BN k (cj1 x):=⟨h.h0,h.h1.neg,h.h2,h.h3.neg,h.h4⟩
theorem BN.cj2 {k:Nat} {x:Nm} (h:BN k x):BN k (cj2 x):=⟨h.h0,h.h1,h.h2.neg,h.h3.neg,h.h4⟩
theorem Bd.mul2 {k:Nat} {x y:Int} (hx:Bd k x) (hy:Bd k y):Bd (2 * k) (x * y):=(hx.mul hy).mono (by omega)
theorem BN.addR {k:Nat} {x y:Nm} (hx:BN k x) (hy:BN k y):BN (2 * k+1) (addR x y) :=
 ⟨(hx.h0.mul2 hy.h4).add (hy.h0.mul2 hx.h4),(hx.h1.mul2 hy.h4).add (hy.h1.mul2 hx.h4),(hx.h2.mul2 hy.h4).add (hy.h2.mul2 hx.h4),(hx.h3.mul2 hy.h4).add (hy.h3.mul2 hx.h4),(hx.h4.mul2 hy.h4).mono (by omega)⟩
theorem BN.mulR {k:Nat} {x y:Nm} (hx:BN k x) (hy:BN k y):BN (2 * k+5) (mulR x y):=by
 have sm:∀ {c z:Int} {j:Nat},c.natAbs<256→Bd j z→Bd (j+1) (c * z):=fun {c z j} hc h=>by
  have h1:Bd 1 c:=by unfold Bd;omega
  exact (h1.mul h).mono (by omega)
 refine ⟨?_,?_,?_,?_,(hx.h4.mul2 hy.h4).mono (by omega)⟩
 ·exact (((((hx.h0.mul2 hy.h0).mono (by omega)).add (sm (by decide) (hx.h1.mul2 hy.h1))).add ((sm (by decide) (hx.h2.mul2 hy.h2)).mono (by omega))).add ((sm (by decide) (hx.h3.mul2 hy.h3)).mono (by omega))).mono (by omega)
 ·exact ((((hx.h0.mul2 hy.h1).add (hx.h1.mul2 hy.h0)).add (sm (by decide) (hx.h2.mul2 hy.h3))).add ((sm (by decide) (hx.h3.mul2 hy.h2)).mono (by omega))).mono (by omega)
 ·exact ((((hx.h0.mul2 hy.h2).add (hx.h2.mul2 hy.h0)).add (sm (by decide) (hx.h1.mul2 hy.h3))).add ((sm (by decide) (hx.h3.mul2 hy.h1)).mono (by omega))).mono (by omega)
 ·exact ((((hx.h0.mul2 hy.h3).add (hx.h3.mul2 hy.h0)).add ((hx.h1.mul2 hy.h2).mono (by omega))).add ((hx.h2.mul2 hy.h1).mono (by omega))).mono (by omega)
theorem BN.addN {k:Nat} {x y:Nm} (hx:BN k x) (hy:BN k y) (h1:x.d≠0) (h2:y.d≠0):BN (2 * k+1) (addN x y):=(hx.addR hy).low (Int.mul_ne_zero h1 h2)
theorem BN.mulN {k:Nat} {x y:Nm} (hx:BN k x) (hy:BN k y) (h1:x.d≠0) (h2:y.d≠0):BN (2 * k+5) (mulN x y):=(hx.mulR hy).low (Int.mul_ne_zero h1 h2)
theorem BN.subN {k:Nat} {x y:Nm} (hx:BN k x) (hy:BN k y) (h1:x.d≠0) (h2:y.d≠0):BN (2 * k+1) (subN x y):=hx.addN hy.neg h1 h2
theorem BN.int {k:Nat} {n:Int} (h:Bd k n) (hk:1≤k):BN k (intN n):=⟨h,Bd.zero k,Bd.zero k,Bd.zero k,Bd.one hk⟩
theorem BN.root (n:Int):BN 1 (rootN n):=by
 unfold rootN
 split
 ·exact ⟨Bd.zero _,Bd.one (by omega),Bd.zero _,Bd.zero _,Bd.one (by omega)⟩
 ·split
  ·exact ⟨Bd.zero _,Bd.zero _,Bd.one (by omega),Bd.zero _,Bd.one (by omega)⟩
  ·split
   ·exact ⟨Bd.zero _,Bd.zero _,Bd.zero _,Bd.one (by omega),Bd.one (by omega)⟩
   ·exact ⟨Bd.zero _,Bd.zero _,Bd.zero _,Bd.zero _,Bd.one (by omega)⟩
theorem fcj1 (x:Nm) (w:World):Calls Tryz.prog 102 #[vN x,.int .i64 1] w (RetV (vN (cj1 x)) w):=by
 have N0:=fun w=>zcs x.c1 w
 have N1:=fun w=>zcs x.c3 w
 exact zac kr Tryz.func102 rfl [.agg #[.bool (sg x.c0),.string (mg x.c0),.bool (sg x.c1),.string (mg x.c1),.bool (sg x.c2),.string (mg x.c2),.bool (sg x.c3),.string (mg x.c3),.bool (sg x.d),.string (mg x.d)],.int .i64 1] nle [] [.t,.f,.t,.t,.t,.f,.t,.t,.f] [cV (N0),cV (N1)]
theorem fcj2 (x:Nm) (w:World):Calls Tryz.prog 102 #[vN x,.int .i64 2] w (RetV (vN (cj2 x)) w):=by
 have N0:=fun w=>zcs x.c2 w
 have N1:=fun w=>zcs x.c3 w
 exact zac kr Tryz.func102 rfl [.agg #[.bool (sg x.c0),.string (mg x.c0),.bool (sg x.c1),.string (mg x.c1),.bool (sg x.c2),.string (mg x.c2),.bool (sg x.c3),.string (mg x.c3),.bool (sg x.d),.string (mg x.d)],.int .i64 2] nle [] [.t,.f,.t,.f,.t,.t,.t,.t,.f] [cV (N0),cV (N1)]
theorem zjN (x:Nm) (w:World) (hb:BN 80000000 x) (h:Ok x):Calls Tryz.prog 66 #[vN x] w (RetV (vN (negN x)) w):=by
 have V:=fun w=>zbb x w hb h
 have N0:=fun w=>zcs x.c0 w
 have N1:=fun w=>zcs x.c1 w
 have N2:=fun w=>zcs x.c2 w
 have N3:=fun w=>zcs x.c3 w
 exact zac kr Tryz.func66 rfl [.agg #[.bool (sg x.c0),.string (mg x.c0),.bool (sg x.c1),.string (mg x.c1),.bool (sg x.c2),.string (mg x.c2),.bool (sg x.c3),.string (mg x.c3),.bool (sg x.d),.string (mg x.d)]] nle [] [.f,.t,.t,.t,.t,.f] [cV (V),cV (N0),cV (N1),cV (N2),cV (N3)]
theorem zeQ (x y:Nm) (w:World) (hx:BN 30000000 x) (hy:BN 30000000 y) (ox:Ok x) (oy:Ok y):Calls Tryz.prog 50 #[vN x,vN y] w (RetV (vN (addN x y)) w):=by
 have V1:=fun w=>zbb x w (hx.mono (by omega)) ox
 have V2:=fun w=>zbb y w (hy.mono (by omega)) oy
 have mu:∀ {a b:Int},Bd 30000000 a→Bd 30000000 b→∀ w,Calls Tryz.prog 106 #[vI a,vI b] w (RetI (a * b) w):=fun ha hb w=>zcp _ _ w (ha.mono (by omega)) (hb.mono (by omega))
 have ad:∀ {a b c d:Int},Bd 30000000 a→Bd 30000000 b→Bd 30000000 c→Bd 30000000 d→∀ w,Calls Tryz.prog 105 #[vI (a * b),vI (c * d)] w (RetI (a * b+c * d) w):=fun ha hb hc hd w=>zdv _ _ w ((ha.mul2 hb).mono (by omega)) ((hc.mul2 hd).mono (by omega))
 have L:=fun w=>zcC (addR x y) w ((hx.addR hy).mono (by omega)) (Int.mul_ne_zero ox.ne oy.ne)
 have M0a:=mu hx.h0 hy.h4
 have M0b:=mu hy.h0 hx.h4
 have A0:=ad hx.h0 hy.h4 hy.h0 hx.h4
 have M1a:=mu hx.h1 hy.h4
 have M1b:=mu hy.h1 hx.h4
 have A1:=ad hx.h1 hy.h4 hy.h1 hx.h4
 have M2a:=mu hx.h2 hy.h4
 have M2b:=mu hy.h2 hx.h4
 have A2:=ad hx.h2 hy.h4 hy.h2 hx.h4
 have M3a:=mu hx.h3 hy.h4
 have M3b:=mu hy.h3 hx.h4
 have A3:=ad hx.h3 hy.h4 hy.h3 hx.h4
 have M4:=mu hx.h4 hy.h4
 show Calls Tryz.prog 50 #[vN x,vN y] w (RetV (vN (low (addR x y))) w)
 generalize low (addR x y)=l at *
 unfold addR at L
 simp only at L
 exact zac kr Tryz.func50 rfl [.agg #[.bool (sg x.c0),.string (mg x.c0),.bool (sg x.c1),.string (mg x.c1),.bool (sg x.c2),.string (mg x.c2),.bool (sg x.c3),.string (mg x.c3),.bool (sg x.d),.string (mg x.d)],.agg #[.bool (sg y.c0),.string (mg y.c0),.bool (sg y.c1),.string (mg y.c1),.bool (sg y.c2),.string (mg y.c2),.bool (sg y.c3),.string (mg y.c3),.bool (sg y.d),.string (mg y.d)]] nle [] [.f,.f,.f,.f,.f,.t,.t,.t,.t,.f] [cV (V1),cV (V2),cV (M0a),cV (M0b),cV (A0),cV (M1a),cV (M1b),cV (A1),cV (M2a),cV (M2b),cV (A2),cV (M3a),cV (M3b),cV (A3),cV (M4),cV (L)]
theorem zjt (x y:Nm) (w:World) (hx:BN 30000000 x) (hy:BN 30000000 y) (ox:Ok x) (oy:Ok y):Calls Tryz.prog 51 #[vN x,vN y] w (RetV (vN (subN x y)) w):=by
 have H1:=fun w=>zjN y w (hy.mono (by omega)) oy
 have H2:=fun w=>zeQ x (negN y) w hx hy.neg ox (zeg oy)
 show Calls Tryz.prog 51 #[vN x,vN y] w (RetV (vN (addN x (negN y))) w)
 generalize addN x (negN y)=l at *
 exact zac kr Tryz.func51 rfl [.agg #[.bool (sg x.c0),.string (mg x.c0),.bool (sg x.c1),.string (mg x.c1),.bool (sg x.c2),.string (mg x.c2),.bool (sg x.c3),.string (mg x.c3),.bool (sg x.d),.string (mg x.d)],.agg #[.bool (sg y.c0),.string (mg y.c0),.bool (sg y.c1),.string (mg y.c1),.bool (sg y.c2),.string (mg y.c2),.bool (sg y.c3),.string (mg y.c3),.bool (sg y.d),.string (mg y.d)]] nle [] [] [cV (H1),cV (H2)]

/-! pieces with several blocks -/
theorem zab {m:Mem} {n:Nat} (h:(m.all fun p=>Nat.blt p.1 n)=true):KeysLt m n:=fun k x hk=>by
 have:=List.all_eq_true.1 h _ (zaM hk)
 simpa [Nat.blt_eq] using this
theorem MemOk.agree {X:Cx} {r r':Nat→Nat} {m:Mem} {w:World} {n:Nat} (h:MemOk X r' m w) (hk:KeysLt m n) (hr:∀ k,k<n→r' k=r k):MemOk X r m w :=
 ⟨h.below,fun k x hx=>by rw [← hr k (hk k x hx)];exact h.has k x hx,fun k k' x x' hx hx' e=>h.inj k k' x x' hx hx' (by rw [hr k (hk k x hx),hr k' (hk k' x' hx')];exact e)⟩
theorem zam {K:Act→World→Prop} {Q:Exit→Act→World→Prop} {a:Act} {w:World} (h:K a w):Exit.then K Q .normal a w:=h
theorem zlv {P:Program} {Q:Exit→Act→World→Prop} {a:Act} {w:World} (h:Q .normal a w):wpL P [] Q a w:=h
theorem zbk {id:Nat} {Q:Exit→Act→World→Prop} {a:Act} {w:World} (h:Q .normal a w):Exit.inBlock id Q .normal a w:=h
theorem zbP {id:Nat} {K:Act→World→Prop} {Q:Exit→Act→World→Prop} {a:Act} {w:World} (h:Q .normal a w):Exit.then K (Exit.inBlock id Q) (exOf (VEx.x id)) a w:=by
 show Exit.inBlock id Q (.exit id) a w
 unfold Exit.inBlock
 simp [h]
theorem zaQ {α:Type} {l:List α} (h:l.isEmpty=false):l ≠ []:=by rintro rfl;cases h
theorem zaD {P:Program} {X:Cx} (hm:P.follows .mixedOrders=true) (lk:List (Nat × Nat)) (nt:Nat) (cs:List Code) (hcs:cs ≠ []) (E0:(Nat→Nat)→Env) (M0:(Nat→Nat)→Mem) (c0:Nat) (r0:Nat→Nat) {a:Act} {w:World} (hS:St nt (E0 r0) a) (hM:MemOk X r0 (M0 r0) w)
  (hE:∀ r,(∀ k,k<c0→r k=r0 k)→E0 r0=E0 r∧M0 r0=M0 r) (hk:KeysLt (M0 r0) c0) (ds:List Dec) (ps:List (Item P X)) (x:VEx) (l':(Nat→Nat)→Env) (ks:List Nat) (out:(Nat→Nat)→Mem) {Q:Exit→Act→World→Prop}
  (hE2:∀ r,(∀ k,k<c0→r k=r0 k)→l' r0=l' r∧out r0=out r) (hk2:KeysLt (out r0) c0)
  (h:∀ r g,vmL (vmQ lk nt (seqs cs) (E0 r) (M0 r) c0 r g ds ps x (l' r) ks (out r))=vmR (vmQ lk nt (seqs cs) (E0 r) (M0 r) c0 r g ds ps x (l' r) ks (out r)):=by intro r g;kernel_rfl)
  (h2:∀ r g,vmSL (vmQ lk nt (seqs cs) (E0 r) (M0 r) c0 r g ds ps x (l' r) ks (out r))=vmSR (vmQ lk nt (seqs cs) (E0 r) (M0 r) c0 r g ds ps x (l' r) ks (out r)):=by intro r g;kernel_rfl)
  (hQ:∀ a' w',St nt (l' r0) a'→Kp ks a a'→MemOk X r0 (out r0) w'→Q (exOf x) a' w'):wpL P cs Q a w :=
 zcL hm lk nt cs hcs E0 M0 c0 r0 hS hM hE hk ds ps x l' ks out h h2 (fun r a' w' hr hS' hK hM'=>by
  rw [← (hE2 r hr).1] at hS'
  rw [← (hE2 r hr).2] at hM'
  exact hQ a' w' hS' hK (hM'.agree hk2 hr))
theorem MemOk.sub {X:Cx} {r:Nat→Nat} {m m':Mem} {w:World} (h:MemOk X r m w) (hs:∀ k x,look k m'=some x→look k m=some x):MemOk X r m' w :=
 ⟨h.below,fun k x hx=>h.has k x (hs k x hx),fun k k' x x' hx hx' e=>h.inj k k' x x' (hs _ _ hx) (hs _ _ hx') e⟩
def vmT (P:Program) (r:Nat→Nat) (env:Env) (mem:Mem) (l:List ResultVar) (v:Value):Option (Eqs × Seqs) :=
 match vmRes P r env mem l with
 | none=>none
 | some (vs,e)=>some ((retV vs,v) :: e,[])
theorem vf {P:Program} {X:Cx} (lk:List (Nat × Nat)) (nt:Nat) (cs:List Code) (E0:(Nat→Nat)→Env) (M0:(Nat→Nat)→Mem) (c0:Nat) (r0:Nat→Nat) {a:Act} {w:World} (hS:St nt (E0 r0) a) (hM:MemOk X r0 (M0 r0) w) (ds:List Dec) (ps:List (Item P X)) (x:VEx) (l':(Nat→Nat)→Env) (ks:List Nat) (out:(Nat→Nat)→Mem) {Q:Exit→Act→World→Prop}
  (hQ:∀ r a' w',(∀ k,k<c0→r k=r0 k)→St nt (l' r) a'→Kp ks a a'→MemOk X r (out r) w'→Q (exOf x) a' w')
  (hm:P.follows .mixedOrders=true:=by kernel_rfl) (hcs:cs ≠ []:=by exact zaQ kr)
  (hE:∀ r,(∀ k,k<c0→r k=r0 k)→E0 r0=E0 r∧M0 r0=M0 r:=by intro r hr;exact ⟨by first | rfl | (simp (discharger:=omega) only [hr]),by first | rfl | (simp (discharger:=omega) only [hr])⟩) (hk:KeysLt (M0 r0) c0:=by exact zab kr)
  (h:∀ r g,vmL (vmQ lk nt (seqs cs) (E0 r) (M0 r) c0 r g ds ps x (l' r) ks (out r))=vmR (vmQ lk nt (seqs cs) (E0 r) (M0 r) c0 r g ds ps x (l' r) ks (out r)):=by intro r g;kernel_rfl)
  (h2:∀ r g,vmSL (vmQ lk nt (seqs cs) (E0 r) (M0 r) c0 r g ds ps x (l' r) ks (out r))=vmSR (vmQ lk nt (seqs cs) (E0 r) (M0 r) c0 r g ds ps x (l' r) ks (out r)):=by intro r g;kernel_rfl):wpL P cs Q a w:=zcL hm lk nt cs hcs E0 M0 c0 r0 hS hM hE hk ds ps x l' ks out h h2 hQ
theorem vk {P:Program} {X:Cx} (lk:List (Nat × Nat)) (nt:Nat) (cs:List Code) (E0:(Nat→Nat)→Env) (M0:(Nat→Nat)→Mem) (c0:Nat) (r0:Nat→Nat) {a:Act} {w:World} (hS:St nt (E0 r0) a) (hM:MemOk X r0 (M0 r0) w) (ds:List Dec) (ps:List (Item P X)) (x:VEx) (l':(Nat→Nat)→Env) (ks:List Nat) (out:(Nat→Nat)→Mem) {Q:Exit→Act→World→Prop}
  (hQ:∀ a' w',St nt (l' r0) a'→Kp ks a a'→MemOk X r0 (out r0) w'→Q (exOf x) a' w')
  (hm:P.follows .mixedOrders=true:=by kernel_rfl) (hcs:cs ≠ []:=by exact zaQ kr)
  (hE:∀ r,(∀ k,k<c0→r k=r0 k)→E0 r0=E0 r∧M0 r0=M0 r:=by intro r hr;exact ⟨by first | rfl | (simp (discharger:=omega) only [hr]),by first | rfl | (simp (discharger:=omega) only [hr])⟩) (hk:KeysLt (M0 r0) c0:=by exact zab kr)
  (hE2:∀ r,(∀ k,k<c0→r k=r0 k)→l' r0=l' r∧out r0=out r:=by intro r hr;exact ⟨by first | rfl | (simp (discharger:=omega) only [hr]),by first | rfl | (simp (discharger:=omega) only [hr])⟩) (hk2:KeysLt (out r0) c0:=by exact zab kr)
  (h:∀ r g,vmL (vmQ lk nt (seqs cs) (E0 r) (M0 r) c0 r g ds ps x (l' r) ks (out r))=vmR (vmQ lk nt (seqs cs) (E0 r) (M0 r) c0 r g ds ps x (l' r) ks (out r)):=by intro r g;kernel_rfl)
  (h2:∀ r g,vmSL (vmQ lk nt (seqs cs) (E0 r) (M0 r) c0 r g ds ps x (l' r) ks (out r))=vmSR (vmQ lk nt (seqs cs) (E0 r) (M0 r) c0 r g ds ps x (l' r) ks (out r)):=by intro r g;kernel_rfl):wpL P cs Q a w:=zaD hm lk nt cs hcs E0 M0 c0 r0 hS hM hE hk ds ps x l' ks out hE2 hk2 h h2 hQ
theorem za4 {P:Program} {X:Cx} {fn:Func} {r:Nat→Nat} {E:Env} {M:Mem} {a:Act} {w:World} {post:Ending→World→Prop} (hS:St fn.ntmps E a) (hM:MemOk X r M w) (v:Value)
  (h:∀ g,vmL (vmT P r (E++envG g fn.ntmps) M fn.results.toList v)=vmR (vmT P r (E++envG g fn.ntmps) M fn.results.toList v)) (hp:post (.returned v) w):bodyPost P fn post .ret a w:=by
 obtain ⟨e,q,hx,ho1,-⟩:=zl3 (h (fun t=>a.tmps.getD t undef)) (by unfold vmT;split <;> rfl)
 unfold vmT at hx
 split at hx
 ·cases hx
 ·rename_i vs e2 hres
  simp only [Option.some.injEq,Prod.mk.injEq] at hx
  obtain ⟨rfl,rfl⟩:=hx
  have hE:=hS.env
  obtain ⟨g,g1,g2,g3⟩:∃ g:ResultVar→Sem Value,(∀ t,g (.tmp t)=pure (a.tmps.getD t undef))∧(∀ b t,g (.cell b t)=do loadVar t (← asAddr (a.tmps.getD b undef))) ∧
    results fn a.tmps=(do let vs ← fn.results.mapM g;pure (if h:vs.size=1 then vs[0] else .tuple vs)) :=
   ⟨fun | .tmp t=>pure (a.tmps.getD t undef) | .cell b t=>do loadVar t (← asAddr (a.tmps.getD b undef)),fun _=>rfl,fun _ _=>rfl,rfl⟩
  have hR:=zcR (P:=P) hE hM g g1 g2 fn.results.toList vs e2 hres (fun p hp=>ho1 p (List.mem_cons_of_mem _ hp))
  have hret:=ho1 (retV vs,v) List.mem_cons_self
  refine ⟨hE.defers,v,?_,hp⟩
  rw [g3,Array.mapM_eq_mapM_toList]
  simp only [Sem.run_bind,Sem.run_map]
  rw [hR]
  simp only [Result.andThen_ok,Sem.run_pure]
  rw [← show retV vs=v from hret]
  congr 1
  match vs with
  | []=>rfl
  | [x]=>rfl
  | x :: y :: l=>simp [retV]
theorem zjB:∀ (l:List Value) (j:Nat) p,p ∈ env0 j l→∃ i,p.1=j+i∧l[i]?=some p.2.1
 | [],_,_,h=>by cases h
 | v :: l,j,p,h=>by
  unfold env0 at h
  rcases List.mem_cons.1 h with rfl | h
  ·exact ⟨0,rfl,rfl⟩
  ·obtain ⟨i,h1,h2⟩:=zjB l (j+1) p h
   exact ⟨i+1,by omega,by simpa using h2⟩
theorem zbp {P:Program} {f:FuncId} {fn:Func} {c:Code} {w:World} {post:Ending→World→Prop} (args:List Value) (hf:P.funcs[f]?=some fn) (hb:fn.body=some c) (hsz:args.length≤fn.ntmps)
  (h:∀ a,St fn.ntmps (env0 0 args) a→c.wp P (bodyPost P fn post) a w):Calls P f args.toArray w post:=by
 refine calls_of_wp hf hb ?_
 refine h _ ⟨rfl,by simp;omega,fun p hp=>?_⟩
 obtain ⟨i,h1,h2⟩:=zjB args 0 p hp
 rw [Nat.zero_add] at h1
 rw [h1]
 have hi:i<args.length:=(List.getElem?_eq_some_iff.1 h2).1
 simp only [Array.getD_eq_getD_getElem?]
 rw [Array.getElem?_append_left (by simpa using hi)]
 simp [h2]
noncomputable def prN:Nat:=Tryz.f103.ntmps
noncomputable def prC:Code:=Tryz.f103.body.getD .skip
noncomputable def pr2:Code:=cB 2 prC
noncomputable def pr0:Code:=cB 0 prC
def qd (a b c d:Int) (i:Nat):Int:=match i with
 | 0=>a
 | 1=>b
 | 2=>c
 | _=>d
def cel (q:Nat→Int):Array Value:=#[.bool (sg (q 0)),.string (mg (q 0)),.bool (sg (q 1)),.string (mg (q 1)),.bool (sg (q 2)),.string (mg (q 2)),.bool (sg (q 3)),.string (mg (q 3))]
def upd (q:Nat→Int) (k:Nat) (v:Int):Nat→Int:=fun i=>bif Nat.beq i k then v else q i
theorem zjR (q:Nat→Int) (k:Nat):upd q k (q k)=q:=by
 funext i
 unfold upd
 cases h:Nat.beq i k with
 | true=>rw [Nat.eq_of_beq_eq_true h];rfl
 | false=>rfl
def sqf (i j:Nat):Nat:=match i &&& j with
 | 0=>1
 | 1=>2
 | 2=>3
 | _=>6
def xo (i j:Nat):Nat:=i ^^^ j
def stepQ (X Y:Nat→Int) (i j:Nat) (q:Nat→Int):Nat→Int:=upd q (xo i j) (q (xo i j)+(sqf i j:Int) * (X i * Y j))
theorem cases16 {i j:Nat} (hi:i<4) (hj:j<4):(i=0∨i=1∨i=2∨i=3)∧(j=0∨j=1∨j=2∨j=3):=by omega
theorem zdf {X Y:Nat→Int} {i j:Nat} (q:Nat→Int) (h:X i=0∨Y j=0):stepQ X Y i j q=q:=by
 unfold stepQ
 have:X i * Y j=0:=Int.mul_eq_zero.2 h
 rw [this,Int.mul_zero,Int.add_zero,zjR]
theorem zmE {x:Int} (h:x=0):((mg x).toList == (ByteArray.mk #[]).toList)=true:=by
 rw [h,mg0];simp
theorem zdV {y:Int} (h:y≠0):((mg y).toList == (ByteArray.mk #[]).toList)=false:=by
 have:=(zbH h).2
 rw [show (ByteArray.mk #[]).toList = [] from by rw [← mg_zero];exact (zcS (z:=0) rfl).1]
 cases hh:(mg y).toList with
 | nil=>rw [hh] at this;cases this
 | cons a l=>rfl
def prMem (nX nY nZ:Array Value) (q:Nat→Int):Mem:=[(0,(26,nX)),(1,(26,nY)),(2,(26,nZ)),(3,(24,cel q))]
def prMem2 (nX nY nZ:Array Value) (q:Nat→Int) (x:Int):Mem:=[(0,(26,nX)),(1,(26,nY)),(2,(26,nZ)),(3,(24,cel q)),(104,(23,#[.bool (sg x),.string (mg x)]))]
theorem zkC {Xv Yv:Nat→Int} {nX nY nZ:Array Value} {q:Nat→Int} {X:Cx} {r:Nat→Nat} {i j:Nat} {a:Act} {w:World} {Q:Exit→Act→World→Prop} (hi:i<4) (hj:j<4)
  (hO:∀ w,Calls Tryz.prog 111 #[.int .i64 (sqf i j:Int)] w (RetI (sqf i j:Int) w))
  (hM1:∀ w,Calls Tryz.prog 106 #[vI (Xv i),vI (Yv j)] w (RetI (Xv i * Yv j) w))
  (hM2:∀ w,Calls Tryz.prog 106 #[vI (sqf i j:Int),vI (Xv i * Yv j)] w (RetI ((sqf i j:Int) * (Xv i * Yv j)) w))
  (hA:∀ w,Calls Tryz.prog 105 #[vI (q (xo i j)),vI ((sqf i j:Int) * (Xv i * Yv j))] w (RetI (q (xo i j)+(sqf i j:Int) * (Xv i * Yv j)) w))
  (hM:MemOk X r (prMem2 nX nY nZ q (Xv i)) w)
  (hS:St prN [(19,(.int .i64 j,0)),(5,(.pointer (some ⟨r 3,0,none⟩),4)),(6,(.int .i64 i,0)),(7,(.pointer (some ⟨r 104,0,none⟩),105)),(18,(.agg (cel Yv),0))] a)
  (hQ:∀ a' w',St prN [(19,(.int .i64 ((j+1:Nat):Int),0))] a'→Kp (keeps pr2 prN) a a'→MemOk X r (prMem2 nX nY nZ (stepQ Xv Yv i j q) (Xv i)) w'→Q .normal a' w') :
  wpL Tryz.prog [cI (cI pr2)] Q a w:=by
 by_cases hx:Xv i=0
 ·have h1:=zmE hx
  rw [zdf q (.inl hx)] at hQ
  refine zaD (X:=X) kr [] prN [cI (cI pr2)] (zaQ kr) (fun r=>[(19,(.int .i64 ((j:Int)),0)),(5,(.pointer (some ⟨r 3,0,none⟩),4)),(6,(.int .i64 ((i:Int)),0)),(7,(.pointer (some ⟨r 104,0,none⟩),105)),(18,(.agg (cel Yv),0))]) (fun r=>[(0,(26,nX)),(1,(26,nY)),(2,(26,nZ)),(3,(24,cel q)),(104,(23,#[.bool (sg (Xv i)),.string (mg (Xv i))]))]) 110 (r) (hS) (hM) (fun r hr=>⟨by simp only [hr 3 (by omega),hr 104 (by omega)],rfl⟩) (zab kr) [.t,(.p _ true h1),(.p _ true h1),(.p _ true h1),(.p _ true h1),.t] [] (VEx.n) (fun r=>[(19,(.int .i64 (((j+1:Nat):Int)),0))]) (keeps pr2 prN) (fun r=>[(0,(26,nX)),(1,(26,nY)),(2,(26,nZ)),(3,(24,cel q)),(104,(23,#[.bool (sg (Xv i)),.string (mg (Xv i))]))]) (fun r hr=>⟨rfl,rfl⟩) (zab kr) (fun r g=>by obtain ⟨rfl | rfl | rfl | rfl,rfl | rfl | rfl | rfl⟩:=cases16 hi hj <;> kernel_rfl) (fun r g=>by obtain ⟨rfl | rfl | rfl | rfl,rfl | rfl | rfl | rfl⟩:=cases16 hi hj <;> kernel_rfl) ?_
  exact hQ
 ·have h1:=zdV hx
  by_cases hy:Yv j=0
  ·have h2:=zmE hy
   rw [zdf q (.inr hy)] at hQ
   refine zaD (X:=X) kr [] prN [cI (cI pr2)] (zaQ kr) (fun r=>[(19,(.int .i64 ((j:Int)),0)),(5,(.pointer (some ⟨r 3,0,none⟩),4)),(6,(.int .i64 ((i:Int)),0)),(7,(.pointer (some ⟨r 104,0,none⟩),105)),(18,(.agg (cel Yv),0))]) (fun r=>[(0,(26,nX)),(1,(26,nY)),(2,(26,nZ)),(3,(24,cel q)),(104,(23,#[.bool (sg (Xv i)),.string (mg (Xv i))]))]) 110 (r) (hS) (hM) (fun r hr=>⟨by simp only [hr 3 (by omega),hr 104 (by omega)],rfl⟩) (zab kr) [.t,(.p _ false h1),(.p _ false h1),(.p _ false h1),(.p _ false h1),(.p _ true h2)] [] (VEx.n) (fun r=>[(19,(.int .i64 (((j+1:Nat):Int)),0))]) (keeps pr2 prN) (fun r=>[(0,(26,nX)),(1,(26,nY)),(2,(26,nZ)),(3,(24,cel q)),(104,(23,#[.bool (sg (Xv i)),.string (mg (Xv i))]))]) (fun r hr=>⟨rfl,rfl⟩) (zab kr) (fun r g=>by obtain ⟨rfl | rfl | rfl | rfl,rfl | rfl | rfl | rfl⟩:=cases16 hi hj <;> kernel_rfl) (fun r g=>by obtain ⟨rfl | rfl | rfl | rfl,rfl | rfl | rfl | rfl⟩:=cases16 hi hj <;> kernel_rfl) ?_
   exact hQ
  ·have h2:=zdV hy
   refine zaD (X:=X) kr [] prN [cI (cI pr2)] (zaQ kr) (fun r=>[(19,(.int .i64 ((j:Int)),0)),(5,(.pointer (some ⟨r 3,0,none⟩),4)),(6,(.int .i64 ((i:Int)),0)),(7,(.pointer (some ⟨r 104,0,none⟩),105)),(18,(.agg (cel Yv),0))]) (fun r=>[(0,(26,nX)),(1,(26,nY)),(2,(26,nZ)),(3,(24,cel q)),(104,(23,#[.bool (sg (Xv i)),.string (mg (Xv i))]))]) 110 (r) (hS) (hM) (fun r hr=>⟨by simp only [hr 3 (by omega),hr 104 (by omega)],rfl⟩) (zab kr) [.t,(.p _ false h1),(.p _ false h1),(.p _ false h1),(.p _ false h1),(.p _ false h2)] [cV (hO),cV (hM1),cV (hM2),cV (hA)] (VEx.n) (fun r=>[(19,(.int .i64 (((j+1:Nat):Int)),0))]) (keeps pr2 prN) (fun r=>[(0,(26,nX)),(1,(26,nY)),(2,(26,nZ)),(3,(24,cel (stepQ Xv Yv i j q))),(104,(23,#[.bool (sg (Xv i)),.string (mg (Xv i))]))]) (fun r hr=>⟨rfl,rfl⟩) (zab kr) (fun r g=>by obtain ⟨rfl | rfl | rfl | rfl,rfl | rfl | rfl | rfl⟩:=cases16 hi hj <;> kernel_rfl) (fun r g=>by obtain ⟨rfl | rfl | rfl | rfl,rfl | rfl | rfl | rfl⟩:=cases16 hi hj <;> kernel_rfl) ?_
   exact hQ
def rowQ (X Y:Nat→Int) (i:Nat):Nat→(Nat→Int)→(Nat→Int)
 | 0,q=>q
 | j+1,q=>stepQ X Y i j (rowQ X Y i j q)
def allQ (X Y:Nat→Int):Nat→(Nat→Int)
 | 0=>fun _=>0
 | i+1=>rowQ X Y i 4 (allQ X Y i)
theorem zhZ (i j:Nat):sqf i j≤6:=by unfold sqf;split <;> decide
theorem zh2 {k:Nat} {x y:Int} (i j:Nat) (hx:Bd k x) (hy:Bd k y):Bd (2 * k+1) ((sqf i j:Int) * (x * y)):=by
 have h1:Bd 1 (sqf i j:Int):=by have:=zhZ i j;unfold Bd;omega
 exact (h1.mul (hx.mul2 hy)).mono (by omega)
theorem zqu {k m:Nat} {X Y q:Nat→Int} (i j:Nat) (hm:2 * k+1≤m) (hX:∀ i,Bd k (X i)) (hY:∀ j,Bd k (Y j)) (hq:∀ t,Bd m (q t)):∀ t,Bd (m+1) (stepQ X Y i j q t):=fun t=>by
 unfold stepQ upd
 cases Nat.beq t (xo i j) with
 | true=>exact (hq _).add ((zh2 i j (hX i) (hY j)).mono hm)
 | false=>exact (hq t).mono (by omega)
theorem zjD {k m:Nat} {X Y q:Nat→Int} (i:Nat) (hm:2 * k+1≤m) (hX:∀ i,Bd k (X i)) (hY:∀ j,Bd k (Y j)) (hq:∀ t,Bd m (q t)):∀ j t,Bd (m+j) (rowQ X Y i j q t)
 | 0,t=>hq t
 | j+1,t=>zqu i j (by omega) hX hY (zjD i hm hX hY hq j) t
theorem zl1 {k:Nat} {X Y:Nat→Int} (hX:∀ i,Bd k (X i)) (hY:∀ j,Bd k (Y j)):∀ i t,Bd (2 * k+1+4 * i) (allQ X Y i t)
 | 0,t=>Bd.zero _
 | i+1,t=>zjD i (by omega) hX hY (zl1 hX hY i) 4 t
theorem zkt {k m:Nat} {Xv Yv:Nat→Int} {nX nY nZ:Array Value} {q:Nat→Int} {X:Cx} {r:Nat→Nat} {i:Nat} {a:Act} {w:World} {Q:Exit→Act→World→Prop} (hi:i<4) (hm:2 * k+1≤m) (hm2:m≤100000000) (hX:∀ i,Bd k (Xv i)) (hY:∀ j,Bd k (Yv j)) (hq:∀ t,Bd m (q t))
  (hM:MemOk X r (prMem2 nX nY nZ q (Xv i)) w)
  (hS:St prN [(19,(.int .i64 ((0:Nat):Int),0)),(5,(.pointer (some ⟨r 3,0,none⟩),4)),(6,(.int .i64 i,0)),(7,(.pointer (some ⟨r 104,0,none⟩),105)),(18,(.agg (cel Yv),0))] a)
  (hQ:∀ a' w',St prN [] a'→Kp (keeps pr2 prN) a a'→MemOk X r (prMem2 nX nY nZ (rowQ Xv Yv i 4 q) (Xv i)) w'→Q .normal a' w'):pr2.wp Tryz.prog Q a w:=by
 refine zbD 2 kr kr (fun n a' w'=>∃ j,4 - j=n∧j≤4∧Kp (keeps pr2 prN) a a'∧St prN [(19,(.int .i64 (j:Int),0)),(5,(.pointer (some ⟨r 3,0,none⟩),4)),(6,(.int .i64 i,0)),(7,(.pointer (some ⟨r 104,0,none⟩),105)),(18,(.agg (cel Yv),0))] a'∧MemOk X r (prMem2 nX nY nZ (rowQ Xv Yv i j q) (Xv i)) w') 4
  ⟨0,rfl,by omega,Kp.refl _ _,hS,hM⟩ ?_
 rintro n a1 w1 ⟨j,rfl,hj,hK1,hS1,hM1⟩
 refine zaA ?_
 rcases Nat.lt_or_ge j 4 with hj4 | hj4
 ·have hb:=zjD (q:=q) i hm hX hY hq j
  refine zkC (q:=rowQ Xv Yv i j q) hi hj4 (fun w=>zbe _ w (by omega) (by have:=zhZ i j;omega)) (fun w=>zcp _ _ w ((hX i).mono (by omega)) ((hY j).mono (by omega))) (fun w=>zcp _ _ w ((show Bd 1 (sqf i j:Int) by have:=zhZ i j;unfold Bd;omega).mono (by omega)) (((hX i).mul2 (hY j)).mono (by omega)))
   (fun w=>zdv _ _ w ((hb _).mono (by omega)) ((zh2 i j (hX i) (hY j)).mono (by omega))) hM1 hS1 ?_
  intro a' w' hS' hK' hM'
  exact ⟨4 - (j+1),by omega,j+1,rfl,by omega,hK1.trans hK',St.keep (hS1.sub (fun p hp=>List.mem_cons_of_mem _ hp)) hS' hK' kr,hM'⟩
 ·obtain rfl:j=4:=by omega
  refine zaD (X:=X) kr [] prN [cI (cI pr2)] (zaQ kr) (fun r=>[(19,(.int .i64 (((4:Nat):Int)),0))]) (fun r=>[(0,(26,nX)),(1,(26,nY)),(2,(26,nZ)),(3,(24,cel (rowQ Xv Yv i 4 q))),(104,(23,#[.bool (sg (Xv i)),.string (mg (Xv i))]))]) 110 (r) (hS1.sub (fun p hp=>List.mem_cons.2 (.inl (List.mem_singleton.1 hp)))) (hM1) (fun r hr=>⟨rfl,rfl⟩) (zab kr) [.f] [] (VEx.x 2) (fun r=>[]) (keeps pr2 prN) (fun r=>[(0,(26,nX)),(1,(26,nY)),(2,(26,nZ)),(3,(24,cel (rowQ Xv Yv i 4 q))),(104,(23,#[.bool (sg (Xv i)),.string (mg (Xv i))]))]) (fun r hr=>⟨rfl,rfl⟩) (zab kr) (hQ:=?_)
  exact fun a' w' hS' hK' hM'=>hQ a' w' hS' (hK1.trans hK') hM'
def celN (q:Nat→Int) (d:Int):Array Value:=#[.bool (sg (q 0)),.string (mg (q 0)),.bool (sg (q 1)),.string (mg (q 1)),.bool (sg (q 2)),.string (mg (q 2)),.bool (sg (q 3)),.string (mg (q 3)),.bool (sg d),.string (mg d)]
theorem MemOk.drop2 {X:Cx} {r r':Nat→Nat} {nX nY nZ:Array Value} {q:Nat→Int} {x:Int} {w:World} (h:MemOk X r' (prMem2 nX nY nZ q x) w) (hr:∀ k,k<102→r' k=r k):MemOk X r (prMem nX nY nZ q) w:=by
 have h1:MemOk X r' (prMem nX nY nZ q) w:=h.sub (fun k y hy=>by
  have e:prMem2 nX nY nZ q x=prMem nX nY nZ q ++ [(104,(23,#[.bool (sg x),.string (mg x)]))]:=rfl
  rw [e,zay,hy]
  rfl)
 exact h1.agree (zab (n:=102) kr) hr
theorem zj3 {k:Nat} {Xv Yv:Nat→Int} {yd:Int} {nX nZ:Array Value} {X:Cx} {r:Nat→Nat} {a:Act} {w:World} {Q:Exit→Act→World→Prop} (hk:k≤30000000) (hX:∀ i,Bd k (Xv i)) (hY:∀ j,Bd k (Yv j))
  (hM:MemOk X r (prMem nX (celN Yv yd) nZ (fun _=>0)) w)
  (hS:St prN [(13,(.int .i64 ((0:Nat):Int),0)),(3,(.pointer (some ⟨r 1,0,none⟩),2)),(5,(.pointer (some ⟨r 3,0,none⟩),4)),(12,(.agg (cel Xv),0))] a)
  (hQ:∀ a' w',St prN [] a'→Kp (keeps pr0 prN) a a'→MemOk X r (prMem nX (celN Yv yd) nZ (allQ Xv Yv 4)) w'→Q .normal a' w'):pr0.wp Tryz.prog Q a w:=by
 refine zbD 0 kr kr (fun n a' w'=>∃ i,4 - i=n∧i≤4∧Kp (keeps pr0 prN) a a'∧St prN [(13,(.int .i64 (i:Int),0)),(3,(.pointer (some ⟨r 1,0,none⟩),2)),(5,(.pointer (some ⟨r 3,0,none⟩),4)),(12,(.agg (cel Xv),0))] a'∧MemOk X r (prMem nX (celN Yv yd) nZ (allQ Xv Yv i)) w') 4
  ⟨0,rfl,by omega,Kp.refl _ _,hS,hM⟩ ?_
 rintro n a1 w1 ⟨i,rfl,hi,hK1,hS1,hM1⟩
 rcases Nat.lt_or_ge i 4 with hi4 | hi4
 ·have c4:i=0∨i=1∨i=2∨i=3:=by omega
  refine zaT 1 kr ?_
  refine zaD (X:=X) kr [] prN (cPre 1 (cI (cI pr0))) (zaQ kr) (fun r=>[(13,(.int .i64 ((i:Int)),0)),(3,(.pointer (some ⟨r 1,0,none⟩),2)),(5,(.pointer (some ⟨r 3,0,none⟩),4)),(12,(.agg (cel Xv),0))]) (fun r=>[(0,(26,nX)),(1,(26,celN Yv yd)),(2,(26,nZ)),(3,(24,cel (allQ Xv Yv i)))]) 102 (r) (hS1) (hM1) (fun r hr=>⟨by simp only [hr 1 (by omega),hr 3 (by omega)],rfl⟩) (zab kr) [.t] [] (VEx.n) (fun r=>[(13,(.int .i64 ((i:Int)),0)),(3,(.pointer (some ⟨r 1,0,none⟩),2)),(5,(.pointer (some ⟨r 3,0,none⟩),4)),(12,(.agg (cel Xv),0))]) (keeps pr0 prN) (fun r=>[(0,(26,nX)),(1,(26,celN Yv yd)),(2,(26,nZ)),(3,(24,cel (allQ Xv Yv i)))]) (fun r hr=>⟨by simp only [hr 1 (by omega),hr 3 (by omega)],rfl⟩) (zab kr) (fun r g=>by obtain rfl | rfl | rfl | rfl:=c4 <;> kernel_rfl) (fun r g=>by obtain rfl | rfl | rfl | rfl:=c4 <;> kernel_rfl) ?_
  intro a2 w2 hS2 hK2 hM2
  refine zdU 1 kr ?_
  refine zaT 2 kr ?_
  refine zcL (X:=X) kr [] prN (cPre 2 (cI (cAt 1 (cI (cI pr0))))) (zaQ kr) (fun r=>[(13,(.int .i64 ((i:Int)),0)),(3,(.pointer (some ⟨r 1,0,none⟩),2)),(5,(.pointer (some ⟨r 3,0,none⟩),4)),(12,(.agg (cel Xv),0))]) (fun r=>[(0,(26,nX)),(1,(26,celN Yv yd)),(2,(26,nZ)),(3,(24,cel (allQ Xv Yv i)))]) 102 (r) (hS2) (hM2) (fun r hr=>⟨by simp only [hr 1 (by omega),hr 3 (by omega)],rfl⟩) (zab kr) [] [] (VEx.n) (fun r=>[(13,(.int .i64 ((i:Int)),0)),(3,(.pointer (some ⟨r 1,0,none⟩),2)),(5,(.pointer (some ⟨r 3,0,none⟩),4)),(12,(.agg (cel Xv),0)),(19,(.int .i64 (((0:Nat):Int)),0)),(6,(.int .i64 ((i:Int)),0)),(7,(.pointer (some ⟨r 104,0,none⟩),105)),(18,(.agg (cel Yv),0))]) (keeps pr0 prN) (fun r=>[(0,(26,nX)),(1,(26,celN Yv yd)),(2,(26,nZ)),(3,(24,cel (allQ Xv Yv i))),(104,(23,#[.bool (sg (Xv i)),.string (mg (Xv i))]))]) (fun r g=>by obtain rfl | rfl | rfl | rfl:=c4 <;> kernel_rfl) (fun r g=>by obtain rfl | rfl | rfl | rfl:=c4 <;> kernel_rfl) ?_
  intro r' a3 w3 hr hS3 hK3 hM3
  refine zkt (i:=i) (k:=k) (m:=2 * k+1+4 * i) (q:=allQ Xv Yv i) hi4 (by omega) (by omega) hX hY (zl1 hX hY i) hM3 (hS3.sub ?_) ?_
  ·intro p hp
   simp only [List.mem_cons,List.not_mem_nil,or_false] at hp ⊢
   rcases hp with rfl | rfl | rfl | rfl | rfl <;> simp
  intro a4 w4 hS4 hK4 hM4
  have hM5:=hM4.drop2 hr
  have hS5:St prN [(13,(.int .i64 (i:Int),0)),(3,(.pointer (some ⟨r 1,0,none⟩),2)),(5,(.pointer (some ⟨r 3,0,none⟩),4)),(12,(.agg (cel Xv),0))] a4:=by
   rw [hr 1 (by omega),hr 3 (by omega)] at hS3
   refine St.keep (hS3.sub ?_) hS4 hK4 kr
   intro p hp
   simp only [List.mem_cons,List.not_mem_nil,or_false] at hp ⊢
   rcases hp with rfl | rfl | rfl | rfl <;> simp
  have e2:cPost 2 (cI (cAt 1 (cI (cI pr0)))) = []:=by kernel_rfl
  refine zam ?_
  rw [e2]
  refine zlv (zbk (zam ?_))
  refine zaD (X:=X) kr [] prN (cPost 1 (cI (cI pr0))) (zaQ kr) (fun r=>[(13,(.int .i64 ((i:Int)),0)),(3,(.pointer (some ⟨r 1,0,none⟩),2)),(5,(.pointer (some ⟨r 3,0,none⟩),4)),(12,(.agg (cel Xv),0))]) (fun r=>[(0,(26,nX)),(1,(26,celN Yv yd)),(2,(26,nZ)),(3,(24,cel (allQ Xv Yv (i+1))))]) 102 (r) (hS5) (hM5) (fun r hr=>⟨by simp only [hr 1 (by omega),hr 3 (by omega)],rfl⟩) (zab kr) [] [] (VEx.n) (fun r=>[(13,(.int .i64 (((i+1:Nat):Int)),0)),(3,(.pointer (some ⟨r 1,0,none⟩),2)),(5,(.pointer (some ⟨r 3,0,none⟩),4)),(12,(.agg (cel Xv),0))]) (keeps pr0 prN) (fun r=>[(0,(26,nX)),(1,(26,celN Yv yd)),(2,(26,nZ)),(3,(24,cel (allQ Xv Yv (i+1))))]) (fun r hr=>⟨by simp only [hr 1 (by omega),hr 3 (by omega)],rfl⟩) (zab kr) (fun r g=>by obtain rfl | rfl | rfl | rfl:=c4 <;> kernel_rfl) (fun r g=>by obtain rfl | rfl | rfl | rfl:=c4 <;> kernel_rfl) ?_
  intro a6 w6 hS6 hK6 hM6
  exact ⟨4 - (i+1),by omega,i+1,rfl,by omega,hK1.trans (hK2.trans (hK3.trans ((hK4.mono kr).trans hK6))),hS6,hM6⟩
 ·obtain rfl:i=4:=by omega
  refine zaA ?_
  refine zaD (X:=X) kr [] prN [cI (cI pr0)] (zaQ kr) (fun r=>[(13,(.int .i64 (((4:Nat):Int)),0))]) (fun r=>[(0,(26,nX)),(1,(26,celN Yv yd)),(2,(26,nZ)),(3,(24,cel (allQ Xv Yv 4)))]) 102 (r) (hS1.sub (fun p hp=>List.mem_cons.2 (.inl (List.mem_singleton.1 hp)))) (hM1) (fun r hr=>⟨rfl,rfl⟩) (zab kr) [.f] [] (VEx.x 0) (fun r=>[]) (keeps pr0 prN) (fun r=>[(0,(26,nX)),(1,(26,celN Yv yd)),(2,(26,nZ)),(3,(24,cel (allQ Xv Yv 4)))]) (fun r hr=>⟨rfl,rfl⟩) (zab kr) (hQ:=?_)
  exact fun a' w' hS' hK' hM'=>hQ a' w' hS' (hK1.trans hK') hM'
def z4:Array Value:=#[.bool false,.string ⟨#[]⟩,.bool false,.string ⟨#[]⟩,.bool false,.string ⟨#[]⟩,.bool false,.string ⟨#[]⟩]
theorem zrT:z4=cel (fun _=>0):=by unfold z4 cel;simp only [sg0,mg0]
def zN10:Array Value:=#[.bool false,.string ⟨#[]⟩,.bool false,.string ⟨#[]⟩,.bool false,.string ⟨#[]⟩,.bool false,.string ⟨#[]⟩,.bool false,.string ⟨#[]⟩]
theorem zia (x y:Nm):vA4 (mulR x y).c0 (mulR x y).c1 (mulR x y).c2 (mulR x y).c3 = .agg (cel (allQ (qd x.c0 x.c1 x.c2 x.c3) (qd y.c0 y.c1 y.c2 y.c3) 4)):=by
 have e0:allQ (qd x.c0 x.c1 x.c2 x.c3) (qd y.c0 y.c1 y.c2 y.c3) 4 0=0+((1:Nat):Int) * (x.c0 * y.c0)+((2:Nat):Int) * (x.c1 * y.c1)+((3:Nat):Int) * (x.c2 * y.c2)+((6:Nat):Int) * (x.c3 * y.c3):=by kernel_rfl
 have e1:allQ (qd x.c0 x.c1 x.c2 x.c3) (qd y.c0 y.c1 y.c2 y.c3) 4 1=0+((1:Nat):Int) * (x.c0 * y.c1)+((1:Nat):Int) * (x.c1 * y.c0)+((3:Nat):Int) * (x.c2 * y.c3)+((3:Nat):Int) * (x.c3 * y.c2):=by kernel_rfl
 have e2:allQ (qd x.c0 x.c1 x.c2 x.c3) (qd y.c0 y.c1 y.c2 y.c3) 4 2=0+((1:Nat):Int) * (x.c0 * y.c2)+((2:Nat):Int) * (x.c1 * y.c3)+((1:Nat):Int) * (x.c2 * y.c0)+((2:Nat):Int) * (x.c3 * y.c1):=by kernel_rfl
 have e3:allQ (qd x.c0 x.c1 x.c2 x.c3) (qd y.c0 y.c1 y.c2 y.c3) 4 3=0+((1:Nat):Int) * (x.c0 * y.c3)+((1:Nat):Int) * (x.c1 * y.c2)+((1:Nat):Int) * (x.c2 * y.c1)+((1:Nat):Int) * (x.c3 * y.c0):=by kernel_rfl
 have f0:(mulR x y).c0=allQ (qd x.c0 x.c1 x.c2 x.c3) (qd y.c0 y.c1 y.c2 y.c3) 4 0:=by rw [e0];unfold mulR;simp only;grind
 have f1:(mulR x y).c1=allQ (qd x.c0 x.c1 x.c2 x.c3) (qd y.c0 y.c1 y.c2 y.c3) 4 1:=by rw [e1];unfold mulR;simp only;grind
 have f2:(mulR x y).c2=allQ (qd x.c0 x.c1 x.c2 x.c3) (qd y.c0 y.c1 y.c2 y.c3) 4 2:=by rw [e2];unfold mulR;simp only;grind
 have f3:(mulR x y).c3=allQ (qd x.c0 x.c1 x.c2 x.c3) (qd y.c0 y.c1 y.c2 y.c3) 4 3:=by rw [e3];unfold mulR;simp only;grind
 unfold vA4 cel
 rw [f0,f1,f2,f3]
theorem zbA (x y:Nm) (w:World) (hx:BN 30000000 x) (hy:BN 30000000 y) (h1:x.d≠0) (h2:y.d≠0):Calls Tryz.prog 103 #[vN x,vN y] w (RetV (vN (mulN x y)) w):=by
 have L:=fun w=>zcC (mulR x y) w ((hx.mulR hy).mono (by omega)) (Int.mul_ne_zero h1 h2)
 have M:=fun w=>zcp x.d y.d w (hx.h4.mono (by omega)) (hy.h4.mono (by omega))
 rw [zia] at L
 have hX:∀ i,Bd 30000000 (qd x.c0 x.c1 x.c2 x.c3 i):=fun i=>by unfold qd;split;all_goals first | exact hx.h0 | exact hx.h1 | exact hx.h2 | exact hx.h3
 have hY:∀ i,Bd 30000000 (qd y.c0 y.c1 y.c2 y.c3 i):=fun i=>by unfold qd;split;all_goals first | exact hy.h0 | exact hy.h1 | exact hy.h2 | exact hy.h3
 have ex:vN x = .agg (celN (qd x.c0 x.c1 x.c2 x.c3) x.d):=rfl
 have ey:vN y = .agg (celN (qd y.c0 y.c1 y.c2 y.c3) y.d):=rfl
 rw [ex,ey]
 show Calls Tryz.prog 103 #[.agg (celN (qd x.c0 x.c1 x.c2 x.c3) x.d),.agg (celN (qd y.c0 y.c1 y.c2 y.c3) y.d)] w (RetV (vN (low (mulR x y))) w)
 generalize qd x.c0 x.c1 x.c2 x.c3=Xv at *
 generalize qd y.c0 y.c1 y.c2 y.c3=Yv at *
 generalize low (mulR x y)=l at *
 have L':∀ w,Calls Tryz.prog 104 #[.agg (cel (allQ Xv Yv 4)),vI (x.d * y.d)] w (RetV (vN l) w):=L
 generalize x.d=xd at *
 generalize y.d=yd at *
 clear L hx hy ex ey h1 h2
 refine zbp [.agg (celN Xv xd),.agg (celN Yv yd)] (fn:=Tryz.f103) (c:=prC) kr kr nle ?_
 intro a hS
 refine zaT 0 kr ?_
 refine zcL (X:=⟨w,[]⟩) kr [] prN (cPre 0 prC) (zaQ kr) (fun r=>[(0,(.agg (celN Xv xd),0)),(1,(.agg (celN Yv yd),0))]) (fun r=>[]) 0 (fun _=>0) (hS) (⟨Chg.refl _ _,fun k x h=>(by cases h),fun k k' x x' h=>by cases h⟩) (fun r hr=>⟨rfl,rfl⟩) (zab kr) [] [] (VEx.n) (fun r=>[(13,(.int .i64 (((0:Nat):Int)),0)),(3,(.pointer (some ⟨r 1,0,none⟩),2)),(5,(.pointer (some ⟨r 3,0,none⟩),4)),(12,(.agg (cel Xv),0)),(2,(.pointer (some ⟨r 0,0,none⟩),1)),(4,(.pointer (some ⟨r 2,0,none⟩),3))]) [] (fun r=>[(0,(26,celN Xv xd)),(1,(26,celN Yv yd)),(2,(26,zN10)),(3,(24,z4))]) (hQ:=?_)
 intro r a1 w1 hr hS1 hK1 hM1
 rw [zrT] at hM1
 refine zj3 (k:=30000000) (Xv:=Xv) (Yv:=Yv) (by omega) hX hY hM1 (hS1.sub ?_) ?_
 ·intro p hp
  simp only [List.mem_cons,List.not_mem_nil,or_false] at hp ⊢
  rcases hp with rfl | rfl | rfl | rfl <;> simp
 intro a2 w2 hS2 hK2 hM2
 have hS3:St prN [(2,(.pointer (some ⟨r 0,0,none⟩),1)),(3,(.pointer (some ⟨r 1,0,none⟩),2)),(4,(.pointer (some ⟨r 2,0,none⟩),3)),(5,(.pointer (some ⟨r 3,0,none⟩),4))] a2:=by
  refine St.keep (hS1.sub ?_) hS2 hK2 kr
  intro p hp
  simp only [List.mem_cons,List.not_mem_nil,or_false] at hp ⊢
  rcases hp with rfl | rfl | rfl | rfl <;> simp
 refine zam ?_
 refine zaD (X:=⟨w,[]⟩) kr [] prN (cPost 0 prC) (zaQ kr) (fun r=>[(2,(.pointer (some ⟨r 0,0,none⟩),1)),(3,(.pointer (some ⟨r 1,0,none⟩),2)),(4,(.pointer (some ⟨r 2,0,none⟩),3)),(5,(.pointer (some ⟨r 3,0,none⟩),4))]) (fun r=>[(0,(26,celN Xv xd)),(1,(26,celN Yv yd)),(2,(26,zN10)),(3,(24,cel (allQ Xv Yv 4)))]) 102 (r) (hS3) (hM2) (fun r hr=>⟨by simp only [hr 0 (by omega),hr 1 (by omega),hr 2 (by omega),hr 3 (by omega)],rfl⟩) (zab kr) [] [cV (M),cV (L')] (VEx.r) (fun r=>[(4,(.pointer (some ⟨r 2,0,none⟩),3))]) [] (fun r=>[(2,(26,#[.bool (sg l.c0),.string (mg l.c0),.bool (sg l.c1),.string (mg l.c1),.bool (sg l.c2),.string (mg l.c2),.bool (sg l.c3),.string (mg l.c3),.bool (sg l.d),.string (mg l.d)]))]) (fun r hr=>⟨by simp only [hr 2 (by omega)],rfl⟩) (zab kr) (hQ:=?_)
 intro a4 w4 hS4 hK4 hM4
 exact za4 (fn:=Tryz.f103) hS4 hM4 (vN l) (fun g=>by kernel_rfl) ⟨rfl,hM4.below.below (Nat.le_refl _) (fun x h=>by cases h)⟩

theorem zgA (x y:Nm) (w:World) (hx:BN 30000000 x) (hy:BN 30000000 y) (ox:Ok x) (oy:Ok y):Calls Tryz.prog 52 #[vN x,vN y] w (RetV (vN (mulN x y)) w):=by
 have V1:=fun w=>zbb x w (hx.mono (by omega)) ox
 have V2:=fun w=>zbb y w (hy.mono (by omega)) oy
 have H:=fun w=>zbA x y w hx hy ox.ne oy.ne
 generalize mulN x y=l at *
 exact zac kr Tryz.func52 rfl [.agg #[.bool (sg x.c0),.string (mg x.c0),.bool (sg x.c1),.string (mg x.c1),.bool (sg x.c2),.string (mg x.c2),.bool (sg x.c3),.string (mg x.c3),.bool (sg x.d),.string (mg x.d)],.agg #[.bool (sg y.c0),.string (mg y.c0),.bool (sg y.c1),.string (mg y.c1),.bool (sg y.c2),.string (mg y.c2),.bool (sg y.c3),.string (mg y.c3),.bool (sg y.d),.string (mg y.d)]] nle [] [.f,.f,.f,.f,.f] [cV (V1),cV (V2),cV (H)]
theorem BN.inv {k:Nat} {y:Nm} (h:BN k y) (oy:Ok y) (h0:y≠zN):BN (2 * (2 * k+5)+5) (invN y):=by
 have ht:=h.mulN h.cj2 oy.ne (zcl oy).ne
 have hu:=ht.mulN ht.cj1 (zbf oy).ne (zcU (zbf oy)).ne
 exact BN.low (x:=⟨(uniN y).d,0,0,0,(uniN y).c0⟩) ⟨hu.h4,Bd.zero _,Bd.zero _,Bd.zero _,hu.h0⟩ (zil oy h0)
theorem BN.divN {k:Nat} {x y:Nm} (hx:BN k x) (hy:BN k y) (ox:Ok x) (oy:Ok y) (h0:y≠zN):BN (20 * k+100) (divN x y):=by
 have ht:=hy.mulN hy.cj2 oy.ne (zcl oy).ne
 have hi:=hy.inv oy h0
 have h1:=hx.mulN hy.cj2 ox.ne (zcl oy).ne
 have h2:=((ht.cj1).mono (show 2 * k+5≤2 * (2 * k+5)+5 by omega)).mulN hi (zcU (zbf oy)).ne (zfp oy h0).ne
 exact ((h1.mono (show 2 * k+5≤2 * (2 * (2 * k+5)+5)+5 by omega)).mulN h2 (zbv ox (zcl oy)).ne (zbv (zcU (zbf oy)) (zfp oy h0)).ne).mono (by omega)
theorem zpb (x y:Nm) (w:World) (hx:BN 3000000 x) (hy:BN 3000000 y) (ox:Ok x) (oy:Ok y) (h0:y≠zN):Calls Tryz.prog 48 #[vN x,vN y] w (RetV (.tuple #[vN (divN x y),.int .i64 0]) w):=by
 have V1:=fun w=>zbb x w (hx.mono (by omega)) ox
 have V2:=fun w=>zbb y w (hy.mono (by omega)) oy
 have O:=fun w=>zcq 0 w (by omega) (by omega)
 rw [show intN 0=zN from rfl] at O
 have ht:=hy.mulN hy.cj2 oy.ne (zcl oy).ne
 have hi:=hy.inv oy h0
 have hu:=ht.mulN ht.cj1 (zbf oy).ne (zcU (zbf oy)).ne
 have h1:=hx.mulN hy.cj2 ox.ne (zcl oy).ne
 have h2:=((ht.cj1).mono (show 2 * 3000000+5≤2 * (2 * 3000000+5)+5 by omega)).mulN hi (zcU (zbf oy)).ne (zfp oy h0).ne
 have C2:=fun w=>fcj2 y w
 have C1:=fun w=>fcj1 (twoN y) w
 have P1:=fun w=>zbA y (cj2 y) w (hy.mono (by omega)) (hy.cj2.mono (by omega)) oy.ne (zcl oy).ne
 have P2:=fun w=>zbA (twoN y) (cj1 (twoN y)) w (ht.mono (by omega)) (ht.cj1.mono (by omega)) (zbf oy).ne (zcU (zbf oy)).ne
 have L:=fun w=>zcC ⟨(uniN y).d,0,0,0,(uniN y).c0⟩ w ⟨hu.h4.mono (by omega),Bd.zero _,Bd.zero _,Bd.zero _,hu.h0.mono (by omega)⟩ (zil oy h0)
 have P3:=fun w=>zbA x (cj2 y) w (hx.mono (by omega)) (hy.cj2.mono (by omega)) ox.ne (zcl oy).ne
 have P4:=fun w=>zbA (cj1 (twoN y)) (invN y) w (ht.cj1.mono (by omega)) (hi.mono (by omega)) (zcU (zbf oy)).ne (zfp oy h0).ne
 have P5:=fun w=>zbA (mulN x (cj2 y)) (mulN (cj1 (twoN y)) (invN y)) w (h1.mono (by omega)) (h2.mono (by omega)) (zbv ox (zcl oy)).ne (zbv (zcU (zbf oy)) (zfp oy h0)).ne
 unfold vA4 at L
 simp only [sg0,mg0] at L
 change ∀ w,Calls Tryz.prog 103 #[vN y,vN (cj2 y)] w (RetV (vN (twoN y)) w) at P1
 change ∀ w,Calls Tryz.prog 103 #[vN (twoN y),vN (cj1 (twoN y))] w (RetV (vN (uniN y)) w) at P2
 change ∀ w,Calls Tryz.prog 104 #[.agg #[.bool (sg (uniN y).d),.string (mg (uniN y).d),.bool false,.string ⟨#[]⟩,.bool false,.string ⟨#[]⟩,.bool false,.string ⟨#[]⟩],vI (uniN y).c0] w (RetV (vN (invN y)) w) at L
 unfold divN
 clear hx hy h1 h2 hu hi ht
 generalize invN y=iy at *
 generalize uniN y=uy at *
 generalize cj1 (twoN y)=c1 at *
 generalize twoN y=ty at *
 generalize mulN c1 iy=r1 at *
 generalize cj2 y=c2 at *
 generalize mulN x c2=r2 at *
 generalize mulN r2 r1=r3 at *
 generalize zN=z at *
 exact zac kr Tryz.func48 rfl [.agg #[.bool (sg x.c0),.string (mg x.c0),.bool (sg x.c1),.string (mg x.c1),.bool (sg x.c2),.string (mg x.c2),.bool (sg x.c3),.string (mg x.c3),.bool (sg x.d),.string (mg x.d)],.agg #[.bool (sg y.c0),.string (mg y.c0),.bool (sg y.c1),.string (mg y.c1),.bool (sg y.c2),.string (mg y.c2),.bool (sg y.c3),.string (mg y.c3),.bool (sg y.d),.string (mg y.d)]] nle [(3,2)] [.f,.f,.f,.f,.f,.f] [cV (V1),cV (V2),cV (O),lV _ (.bool false) (fun w hC=>zpr (y) (z) (h0) (.tmp 22) (.tmp 23) w),cV (C2),cV (P1),cV (C1),cV (P2),cV (L),cV (P3),cV (P4),cV (P5)]
theorem zem (a b k:Int) (w:World) (hw:IntKind.i64.wrap (a * k)=a * k):Calls Tryz.prog 130 #[.int .i64 a,.int .i64 b,.int .i64 k] w (RetN (mix a b k) w):=by
 unfold mix
 by_cases h:a=b
 ·have e:(a == b)=true:=by simpa using h
  rw [if_pos (.inl h)]
  exact zac kr Tryz.func130 rfl [.int .i64 a,.int .i64 b,.int .i64 k] nle [] [(.p _ true e),(.p _ true e),(.p _ true e),.t] []
 ·have e:(a == b)=false:=by simpa using h
  by_cases h0:b=0
  ·have e0:(b == 0)=true:=by simpa using h0
   rw [if_pos (.inr h0)]
   exact zac kr Tryz.func130 rfl [.int .i64 a,.int .i64 b,.int .i64 k] nle [] [(.p _ false e),(.p _ false e),(.p _ false e),(.p _ true e0)] []
  ·have e0:(b == 0)=false:=by simpa using h0
   rw [if_neg (by omega)]
   by_cases h1:a=0
   ·have e1:(a == 0)=true:=by simpa using h1
    rw [if_pos h1]
    exact zac kr Tryz.func130 rfl [.int .i64 a,.int .i64 b,.int .i64 k] nle [] [(.p _ false e),(.p _ false e),(.p _ false e),(.p _ false e0),(.p _ true e1)] []
   ·have e1:(a == 0)=false:=by simpa using h1
    rw [if_neg h1]
    exact zac kr Tryz.func130 rfl [.int .i64 a,.int .i64 b,.int .i64 k] nle [(5,2)] [(.p _ false e),(.p _ false e),(.p _ false e),(.p _ false e0),(.p _ false e1)] [lE .i64 (((a):Int) * ((k):Int)) (a * k) (hw)]
theorem zf3 (k:Int) (a b:Int) (w:World) (hk:k.natAbs<256) (ha:Bd 100000000 a) (hb:Bd 100000000 b):Calls Tryz.prog 132 #[.int .i64 k,vI a,vI b] w (RetI (k * (a * b)) w):=by
 have O:=fun w=>zbe k w (by omega) (by omega)
 have M1:=fun w=>zcp a b w (ha.mono (by omega)) (hb.mono (by omega))
 have M2:=fun w=>zcp k (a * b) w ((show Bd 1 k by unfold Bd;omega).mono (by omega)) ((ha.mul2 hb).mono (by omega))
 show Calls Tryz.prog 132 #[.int .i64 k,.agg #[.bool (sg a),.string (mg a)],.agg #[.bool (sg b),.string (mg b)]] w (RetV (vI (k * (a * b))) w)
 exact zac kr Tryz.func132 rfl [.int .i64 k,.agg #[.bool (sg a),.string (mg a)],.agg #[.bool (sg b),.string (mg b)]] nle [] [] [cV (O),cV (M1),cV (M2)]
theorem zc0 (x:Int):x.sign=1∨x.sign=0∨x.sign = -1:=by
 rcases Int.lt_trichotomy x 0 with h | h | h
 ·exact .inr (.inr (Int.sign_eq_neg_one_of_neg h))
 ·exact .inr (.inl (by rw [h];rfl))
 ·exact .inl (Int.sign_eq_one_of_pos h)
theorem zi6 {a k:Int} (ha:a=1∨a=0∨a = -1) (hk:k=1∨k=0∨k = -1):IntKind.i64.wrap (a * k)=a * k:=by
 rcases ha with rfl | rfl | rfl <;> rcases hk with rfl | rfl | rfl <;> decide
theorem znR {a b k:Int} (ha:a=1∨a=0∨a = -1) (hb:b=1∨b=0∨b = -1) (hk:k=1∨k=0∨k = -1):mix a b k=1∨mix a b k=0∨mix a b k = -1:=by
 rcases ha with rfl | rfl | rfl <;> rcases hb with rfl | rfl | rfl <;> rcases hk with rfl | rfl | rfl <;> decide
theorem zlK (a b:Int):s2 a b=1∨s2 a b=0∨s2 a b = -1:=znR (zc0 _) (zc0 _) (zc0 _)
theorem zep (a b:Int) (w:World) (ha:Bd 90000000 a) (hb:Bd 90000000 b):Calls Tryz.prog 129 #[vI a,vI b] w (RetN (s2 a b) w):=by
 have S1:=fun w=>zbZ a w
 have S2:=fun w=>zbZ b w
 have M:=fun w=>zcp a a w (ha.mono (by omega)) (ha.mono (by omega))
 have T:=fun w=>zf3 2 b b w (by decide) (hb.mono (by omega)) (hb.mono (by omega))
 have h2:Bd (1+180000000) (2 * (b * b)):=Bd.mul (by unfold Bd;decide) (hb.mul2 hb)
 have C:=fun w=>zqt (a * a) (2 * (b * b)) w ((ha.mul2 ha).mono (by omega)) (h2.mono (by omega))
 have X:=fun w=>zem a.sign b.sign (a * a - 2 * (b * b)).sign w (zi6 (zc0 _) (zc0 _))
 unfold s2
 show Calls Tryz.prog 129 #[.agg #[.bool (sg a),.string (mg a)],.agg #[.bool (sg b),.string (mg b)]] w (RetV (.int .i64 (mix a.sign b.sign (a * a - 2 * (b * b)).sign)) w)
 exact zac kr Tryz.func129 rfl [.agg #[.bool (sg a),.string (mg a)],.agg #[.bool (sg b),.string (mg b)]] nle [] [] [cV (S1),cV (S2),cV (M),cV (T),cV (C),cV (X)]

theorem zps {a b:Int} (k l:Int) (h:a=b∨b=0∨a=0):mix a b k=mix a b l:=by
 unfold mix
 by_cases h1:a=b∨b=0
 ·rw [if_pos h1,if_pos h1]
 ·rw [if_neg h1,if_neg h1,if_pos (by omega),if_pos (by omega)]
theorem zqo (a b c d e p q s t1 t2 t3 t4 t5 t6 u1 u2 u v m:Int) (w:World)
  (V:∀ w,Calls Tryz.prog 62 #[vN ⟨a,b,c,d,e⟩] w (RetV (.bool true) w))
  (S1:∀ w,Calls Tryz.prog 129 #[vI a,vI b] w (RetN p w)) (S2:∀ w,Calls Tryz.prog 129 #[vI c,vI d] w (RetN q w))
  (X0:∀ w,Calls Tryz.prog 130 #[.int .i64 p,.int .i64 q,.int .i64 0] w (RetN m w))
  (T1:∀ w,Calls Tryz.prog 132 #[.int .i64 1,vI a,vI a] w (RetI t1 w)) (T2:∀ w,Calls Tryz.prog 132 #[.int .i64 2,vI b,vI b] w (RetI t2 w))
  (T3:∀ w,Calls Tryz.prog 132 #[.int .i64 3,vI c,vI c] w (RetI t3 w)) (T4:∀ w,Calls Tryz.prog 132 #[.int .i64 6,vI d,vI d] w (RetI t4 w))
  (T5:∀ w,Calls Tryz.prog 132 #[.int .i64 2,vI a,vI b] w (RetI t5 w)) (T6:∀ w,Calls Tryz.prog 132 #[.int .i64 6,vI c,vI d] w (RetI t6 w))
  (A1:∀ w,Calls Tryz.prog 105 #[vI t1,vI t2] w (RetI u1 w)) (A2:∀ w,Calls Tryz.prog 105 #[vI t3,vI t4] w (RetI u2 w)) (B1:∀ w,Calls Tryz.prog 131 #[vI u1,vI u2] w (RetI u w)) (B2:∀ w,Calls Tryz.prog 131 #[vI t5,vI t6] w (RetI v w))
  (S3:∀ w,Calls Tryz.prog 129 #[vI u,vI v] w (RetN s w)) (X1:∀ w,Calls Tryz.prog 130 #[.int .i64 p,.int .i64 q,.int .i64 s] w (RetN m w)) (h1:p=q) :
  Calls Tryz.prog 69 #[vN ⟨a,b,c,d,e⟩] w (RetN m w):=by
 have e1:(p == q)=true:=by simpa using h1
 exact zac kr Tryz.func69 rfl [.agg #[.bool (sg a),.string (mg a),.bool (sg b),.string (mg b),.bool (sg c),.string (mg c),.bool (sg d),.string (mg d),.bool (sg e),.string (mg e)]] nle [] [.f,(.p _ true e1),(.p _ true e1),(.p _ true e1),.t,.t,.t,.t] [cV (V),cV (S1),cV (S2),cV (X0)]
theorem zp6 (a b c d e p q s t1 t2 t3 t4 t5 t6 u1 u2 u v m:Int) (w:World)
  (V:∀ w,Calls Tryz.prog 62 #[vN ⟨a,b,c,d,e⟩] w (RetV (.bool true) w))
  (S1:∀ w,Calls Tryz.prog 129 #[vI a,vI b] w (RetN p w)) (S2:∀ w,Calls Tryz.prog 129 #[vI c,vI d] w (RetN q w))
  (X0:∀ w,Calls Tryz.prog 130 #[.int .i64 p,.int .i64 q,.int .i64 0] w (RetN m w))
  (T1:∀ w,Calls Tryz.prog 132 #[.int .i64 1,vI a,vI a] w (RetI t1 w)) (T2:∀ w,Calls Tryz.prog 132 #[.int .i64 2,vI b,vI b] w (RetI t2 w))
  (T3:∀ w,Calls Tryz.prog 132 #[.int .i64 3,vI c,vI c] w (RetI t3 w)) (T4:∀ w,Calls Tryz.prog 132 #[.int .i64 6,vI d,vI d] w (RetI t4 w))
  (T5:∀ w,Calls Tryz.prog 132 #[.int .i64 2,vI a,vI b] w (RetI t5 w)) (T6:∀ w,Calls Tryz.prog 132 #[.int .i64 6,vI c,vI d] w (RetI t6 w))
  (A1:∀ w,Calls Tryz.prog 105 #[vI t1,vI t2] w (RetI u1 w)) (A2:∀ w,Calls Tryz.prog 105 #[vI t3,vI t4] w (RetI u2 w)) (B1:∀ w,Calls Tryz.prog 131 #[vI u1,vI u2] w (RetI u w)) (B2:∀ w,Calls Tryz.prog 131 #[vI t5,vI t6] w (RetI v w))
  (S3:∀ w,Calls Tryz.prog 129 #[vI u,vI v] w (RetN s w)) (X1:∀ w,Calls Tryz.prog 130 #[.int .i64 p,.int .i64 q,.int .i64 s] w (RetN m w)) (h1:p≠q) (h2:q=0) :
  Calls Tryz.prog 69 #[vN ⟨a,b,c,d,e⟩] w (RetN m w):=by
 have e1:(p == q)=false:=by simpa using h1
 have e2:(q == 0)=true:=by simpa using h2
 exact zac kr Tryz.func69 rfl [.agg #[.bool (sg a),.string (mg a),.bool (sg b),.string (mg b),.bool (sg c),.string (mg c),.bool (sg d),.string (mg d),.bool (sg e),.string (mg e)]] nle [] [.f,(.p _ false e1),(.p _ false e1),(.p _ false e1),(.p _ true e2),(.p _ true e2),(.p _ true e2),.t] [cV (V),cV (S1),cV (S2),cV (X0)]
theorem zp8 (a b c d e p q s t1 t2 t3 t4 t5 t6 u1 u2 u v m:Int) (w:World)
  (V:∀ w,Calls Tryz.prog 62 #[vN ⟨a,b,c,d,e⟩] w (RetV (.bool true) w))
  (S1:∀ w,Calls Tryz.prog 129 #[vI a,vI b] w (RetN p w)) (S2:∀ w,Calls Tryz.prog 129 #[vI c,vI d] w (RetN q w))
  (X0:∀ w,Calls Tryz.prog 130 #[.int .i64 p,.int .i64 q,.int .i64 0] w (RetN m w))
  (T1:∀ w,Calls Tryz.prog 132 #[.int .i64 1,vI a,vI a] w (RetI t1 w)) (T2:∀ w,Calls Tryz.prog 132 #[.int .i64 2,vI b,vI b] w (RetI t2 w))
  (T3:∀ w,Calls Tryz.prog 132 #[.int .i64 3,vI c,vI c] w (RetI t3 w)) (T4:∀ w,Calls Tryz.prog 132 #[.int .i64 6,vI d,vI d] w (RetI t4 w))
  (T5:∀ w,Calls Tryz.prog 132 #[.int .i64 2,vI a,vI b] w (RetI t5 w)) (T6:∀ w,Calls Tryz.prog 132 #[.int .i64 6,vI c,vI d] w (RetI t6 w))
  (A1:∀ w,Calls Tryz.prog 105 #[vI t1,vI t2] w (RetI u1 w)) (A2:∀ w,Calls Tryz.prog 105 #[vI t3,vI t4] w (RetI u2 w)) (B1:∀ w,Calls Tryz.prog 131 #[vI u1,vI u2] w (RetI u w)) (B2:∀ w,Calls Tryz.prog 131 #[vI t5,vI t6] w (RetI v w))
  (S3:∀ w,Calls Tryz.prog 129 #[vI u,vI v] w (RetN s w)) (X1:∀ w,Calls Tryz.prog 130 #[.int .i64 p,.int .i64 q,.int .i64 s] w (RetN m w)) (h1:p≠q) (h2:q≠0) (h3:p=0) :
  Calls Tryz.prog 69 #[vN ⟨a,b,c,d,e⟩] w (RetN m w):=by
 have e1:(p == q)=false:=by simpa using h1
 have e2:(q == 0)=false:=by simpa using h2
 have e3:(p == 0)=true:=by simpa using h3
 exact zac kr Tryz.func69 rfl [.agg #[.bool (sg a),.string (mg a),.bool (sg b),.string (mg b),.bool (sg c),.string (mg c),.bool (sg d),.string (mg d),.bool (sg e),.string (mg e)]] nle [] [.f,(.p _ false e1),(.p _ false e1),(.p _ false e1),(.p _ false e2),(.p _ false e2),(.p _ false e2),(.p _ true e3)] [cV (V),cV (S1),cV (S2),cV (X0)]
theorem zrn (a b c d e p q s t1 t2 t3 t4 t5 t6 u1 u2 u v m:Int) (w:World)
  (V:∀ w,Calls Tryz.prog 62 #[vN ⟨a,b,c,d,e⟩] w (RetV (.bool true) w))
  (S1:∀ w,Calls Tryz.prog 129 #[vI a,vI b] w (RetN p w)) (S2:∀ w,Calls Tryz.prog 129 #[vI c,vI d] w (RetN q w))

  (T1:∀ w,Calls Tryz.prog 132 #[.int .i64 1,vI a,vI a] w (RetI t1 w)) (T2:∀ w,Calls Tryz.prog 132 #[.int .i64 2,vI b,vI b] w (RetI t2 w))
  (T3:∀ w,Calls Tryz.prog 132 #[.int .i64 3,vI c,vI c] w (RetI t3 w)) (T4:∀ w,Calls Tryz.prog 132 #[.int .i64 6,vI d,vI d] w (RetI t4 w))
  (T5:∀ w,Calls Tryz.prog 132 #[.int .i64 2,vI a,vI b] w (RetI t5 w)) (T6:∀ w,Calls Tryz.prog 132 #[.int .i64 6,vI c,vI d] w (RetI t6 w))
  (A1:∀ w,Calls Tryz.prog 105 #[vI t1,vI t2] w (RetI u1 w)) (A2:∀ w,Calls Tryz.prog 105 #[vI t3,vI t4] w (RetI u2 w)) (B1:∀ w,Calls Tryz.prog 131 #[vI u1,vI u2] w (RetI u w)) (B2:∀ w,Calls Tryz.prog 131 #[vI t5,vI t6] w (RetI v w))
  (S3:∀ w,Calls Tryz.prog 129 #[vI u,vI v] w (RetN s w)) (X1:∀ w,Calls Tryz.prog 130 #[.int .i64 p,.int .i64 q,.int .i64 s] w (RetN m w)) (h1:p≠q) (h2:q≠0) (h3:p≠0) :
  Calls Tryz.prog 69 #[vN ⟨a,b,c,d,e⟩] w (RetN m w):=by
 have e1:(p == q)=false:=by simpa using h1
 have e2:(q == 0)=false:=by simpa using h2
 have e3:(p == 0)=false:=by simpa using h3
 exact zac kr Tryz.func69 rfl [.agg #[.bool (sg a),.string (mg a),.bool (sg b),.string (mg b),.bool (sg c),.string (mg c),.bool (sg d),.string (mg d),.bool (sg e),.string (mg e)]] nle [] [.f,(.p _ false e1),(.p _ false e1),(.p _ false e1),(.p _ false e2),(.p _ false e2),(.p _ false e2),(.p _ false e3)] [cV (V),cV (S1),cV (S2),cV (T1),cV (T2),cV (A1),cV (T3),cV (T4),cV (A2),cV (B1),cV (T5),cV (T6),cV (B2),cV (S3),cV (X1)]
theorem zlf (x:Nm) (w:World) (hx:BN 20000000 x) (ox:Ok x):Calls Tryz.prog 69 #[vN x] w (RetN (sgnN x) w):=by
 have V:=fun w=>zbb x w (hx.mono (by omega)) ox
 obtain ⟨a,b,c,d,e⟩:=x
 obtain ⟨h0,h1,h2,h3,h4⟩:=hx
 simp only at h0 h1 h2 h3 h4
 have tm:∀ {k x y:Int},k.natAbs<256→Bd 20000000 x→Bd 20000000 y→∀ w,Calls Tryz.prog 132 #[.int .i64 k,vI x,vI y] w (RetI (k * (x * y)) w):=fun hk h h' w=>zf3 _ _ _ w hk (h.mono (by omega)) (h'.mono (by omega))
 have tb:∀ {k x y:Int},k.natAbs<256→Bd 20000000 x→Bd 20000000 y→Bd 40000001 (k * (x * y)):=fun {k x y} hk h h'=>((show Bd 1 k by unfold Bd;omega).mul (h.mul2 h')).mono (by omega)
 have S1:=fun w=>zep a b w (h0.mono (by omega)) (h1.mono (by omega))
 have S2:=fun w=>zep c d w (h2.mono (by omega)) (h3.mono (by omega))
 have b1:=tb (k:=1) (by decide) h0 h0
 have b2:=tb (k:=2) (by decide) h1 h1
 have b3:=tb (k:=3) (by decide) h2 h2
 have b4:=tb (k:=6) (by decide) h3 h3
 have b5:=tb (k:=2) (by decide) h0 h1
 have b6:=tb (k:=6) (by decide) h2 h3
 have A1:=fun w=>zdv _ _ w (b1.mono (by omega)) (b2.mono (by omega))
 have A2:=fun w=>zdv _ _ w (b3.mono (by omega)) (b4.mono (by omega))
 have B1:=fun w=>zgz _ _ w ((b1.add b2).mono (by omega)) ((b3.add b4).mono (by omega))
 have B2:=fun w=>zgz _ _ w (b5.mono (by omega)) (b6.mono (by omega))
 have S3:=fun w=>zep _ _ w (((b1.add b2).sub (b3.add b4)).mono (by omega)) ((b5.sub b6).mono (by omega))
 have T1:=tm (k:=1) (by decide) h0 h0
 have T2:=tm (k:=2) (by decide) h1 h1
 have T3:=tm (k:=3) (by decide) h2 h2
 have T4:=tm (k:=6) (by decide) h3 h3
 have T5:=tm (k:=2) (by decide) h0 h1
 have T6:=tm (k:=6) (by decide) h2 h3
 have X0:=fun w=>zem (s2 a b) (s2 c d) 0 w (by rw [Int.mul_zero];rfl)
 have X1:=fun w=>zem (s2 a b) (s2 c d) (s2 (1 * (a * a)+2 * (b * b) - (3 * (c * c)+6 * (d * d))) (2 * (a * b) - 6 * (c * d))) w (zi6 (zlK _ _) (zlK _ _))
 have hm:sgnN ⟨a,b,c,d,e⟩=mix (s2 a b) (s2 c d) (s2 (1 * (a * a)+2 * (b * b) - (3 * (c * c)+6 * (d * d))) (2 * (a * b) - 6 * (c * d))):=by unfold sgnN s4;rw [Int.one_mul]
 rw [hm]
 clear hm b1 b2 b3 b4 b5 b6 tm tb h0 h1 h2 h3 h4
 generalize s2 (1 * (a * a)+2 * (b * b) - (3 * (c * c)+6 * (d * d))) (2 * (a * b) - 6 * (c * d))=s at *
 generalize s2 a b=p at *
 generalize s2 c d=q at *
 have sm:=fun h=>zps (a:=p) (b:=q) 0 s h
 by_cases g1:p=q
 ·rw [sm (.inl g1)] at X0
  exact zqo a b c d e p q s _ _ _ _ _ _ _ _ _ _ _ w V S1 S2 X0 T1 T2 T3 T4 T5 T6 A1 A2 B1 B2 S3 X1 g1
 ·by_cases g2:q=0
  ·rw [sm (.inr (.inl g2))] at X0
   exact zp6 a b c d e p q s _ _ _ _ _ _ _ _ _ _ _ w V S1 S2 X0 T1 T2 T3 T4 T5 T6 A1 A2 B1 B2 S3 X1 g1 g2
  ·by_cases g3:p=0
   ·rw [sm (.inr (.inr g3))] at X0
    exact zp8 a b c d e p q s _ _ _ _ _ _ _ _ _ _ _ w V S1 S2 X0 T1 T2 T3 T4 T5 T6 A1 A2 B1 B2 S3 X1 g1 g2 g3
   ·exact zrn a b c d e p q s _ _ _ _ _ _ _ _ _ _ _ w V S1 S2 T1 T2 T3 T4 T5 T6 A1 A2 B1 B2 S3 X1 g1 g2 g3
theorem zo1 (x y:Nm) (w:World) (hx:BN 9000000 x) (hy:BN 9000000 y) (ox:Ok x) (oy:Ok y):Calls Tryz.prog 71 #[vN x,vN y] w (RetN (cmpK x y) w):=by
 have S:=fun w=>zjt x y w (hx.mono (by omega)) (hy.mono (by omega)) ox oy
 have G:=fun w=>zlf (subN x y) w ((hx.subN hy ox.ne oy.ne).mono (by omega)) (zbX ox oy)
 unfold cmpK
 generalize subN x y=l at *
 exact zac kr Tryz.func71 rfl [.agg #[.bool (sg x.c0),.string (mg x.c0),.bool (sg x.c1),.string (mg x.c1),.bool (sg x.c2),.string (mg x.c2),.bool (sg x.c3),.string (mg x.c3),.bool (sg x.d),.string (mg x.d)],.agg #[.bool (sg y.c0),.string (mg y.c0),.bool (sg y.c1),.string (mg y.c1),.bool (sg y.c2),.string (mg y.c2),.bool (sg y.c3),.string (mg y.c3),.bool (sg y.d),.string (mg y.d)]] nle [] [] [cV (S),cV (G)]
def ratB (x:Nm):Bool:=decide (x.c1=0) && decide (x.c2=0) && decide (x.c3=0)
end Go.Proofs.YtegnalgjjmpcmaaGreatDoor
