/- GemstoneStrings: the law. -/
import Derived.Test.YtlhddcingeneaaaGreatDoorPSGemV
import Derived.Test.YtlhddcingeneaaaGreatDoorPSY
namespace Go.Proofs.YtlhddcingeneaaaGreatDoor
open Go Go.RowKit
set_option maxRecDepth 100000
set_option linter.unusedVariables false
set_option linter.unusedSimpArgs false
noncomputable def gsN:Nat:=Tryz.f5.ntmps
noncomputable def gsC:Code:=Tryz.f5.body.getD .skip
noncomputable def gs0:Code:=cB 0 gsC
noncomputable def gsR:Code:=seqs (cPost 0 gsC)
noncomputable def gsL:List Code:=flat gsR
noncomputable def gsF (w:World):Exit→Act→World→Prop:=bodyPost Tryz.prog Tryz.f5 (RetV (.bool true) w)
noncomputable def gsQ (w:World):Exit→Act→World→Prop:=Exit.then (fun a w'=>gsF w .normal a w') (gsF w)
structure GSx (l:List Mt) (ls A:List (List UInt8)) (C:List Mt) (e g:Int) (i:Nat) (base base2:Option Addr) (w w1:World):Prop where
 hG:GW w1
 hR:RdS w1 base (encM l)
 hL:RdS w1 base2 (encS ls)
 hl:l.length≤110
 hm:∀ m,m ∈ l→m.nm.length≤40
 hls:ls.length≤110
 hlm:∀ x,x ∈ ls→x.length≤100
 hp:prT l=(A,e)
 hq:parseT ls=(C,i,g)
 hb:Below w.heap.size w w1
section
variable {l:List Mt} {ls A:List (List UInt8)} {C:List Mt} {e g:Int} {i:Nat} {base base2:Option Addr} {c c2:Nat} {w:World}
theorem GSx.next {w1 w2:World} (h:GSx l ls A C e g i base base2 w w1) (hc:Chg [] w1 w2):GSx l ls A C e g i base base2 w w2 :=
 ⟨h.hG.below hc.bl0,h.hR.bl hc.bl0,h.hL.bl hc.bl0,h.hl,h.hm,h.hls,h.hlm,h.hp,h.hq,h.hb.trans (hc.bl0.mono h.hb.size)⟩
theorem GSx.al {w1:World} (h:GSx l ls A C e g i base base2 w w1):A.length≤110:=by
 have:=h.hp
 unfold prT at this
 split at this
 ·have e:=congrArg (fun p=>p.1.length) this
  simp only [List.length_map] at e
  have:=h.hl
  omega
 ·have e:=congrArg (fun p=>p.1.length) this
  simp only [List.length_nil] at e
  omega
theorem GSx.cl {w1:World} (h:GSx l ls A C e g i base base2 w w1):C.length≤110:=by
 have h1:=parse_len ls
 rw [h.hq] at h1
 exact Nat.le_trans h1 h.hls
theorem GSx.mm {w1:World} (h:GSx l ls A C e g i base base2 w w1):∀ m,m ∈ l→m.nm.length≤1000000:=fun m hm=>Nat.le_trans (h.hm m hm) (by decide)
theorem gs_17 (hv:e=0) (bK:Option Addr) (cK:Nat) (a1:Act) (w1:World) (hx:GSx l ls A C e g i base base2 w w1) (hS1:St gsN [(0,(.slice base l.length c,0)),(7,(.int .i64 e,0)),(16,(.slice bK l.length cK,0)),(18,(.int .i64 0,0))] a1) (rK:RdS w1 bK (encM l)):wpL Tryz.prog (gsL.drop 7) (gsQ w) a1 w1:=by
 have hSm:∀ w',Chg [] w1 w'→Calls Tryz.prog 24 #[.slice bK l.length cK,.slice base l.length c] w' (RetV (.bool true) w'):=fun w' hc=>by
  have:=gnSame_any l l bK base cK c w' (rK.bl hc.bl0) (hx.hR.bl hc.bl0) (Nat.le_trans hx.hl (by decide))
  rwa [decide_eq_true rfl] at this
 subst hv
 refine vm_fragA (X:=⟨w1,[]⟩) kr [] gsN (gsL.drop 7) (ne_nil kr) (fun r=>[(0,(.slice base l.length c,0)),(7,(.int .i64 (0),0)),(16,(.slice bK l.length cK,0)),(18,(.int .i64 (0),0))]) (fun r=>[]) 0 (fun _=>(0,0)) (hS1) (memOk0 w1 _) (fun r hr=>⟨rfl,rfl⟩) (keysLt_all kr) [.f,.f,.f,.t,.t,.t,.f,.t,.f] [cW hSm] (VEx.r) (fun r=>[(4,(.bool true,0))]) [] (fun r=>[]) (fun r g=>by kernel_rfl) (fun r g=>by kernel_rfl) ?_
 intro r a3 w3 hr hS3 hK3 hM3
 have hc:=hM3.below
 exact vm_out (fn:=Tryz.f5) (hS3.re rfl:St _ [(4,(.bool true,0))] a3) (.bool true) (fun g=>by kernel_rfl) ⟨rfl,hx.hb.trans (hc.bl0.mono hx.hb.size)⟩
theorem prT_cases (h:prT l=(A,e)):(e=1∧A = [])∨(e=0∧parseT A=(l,0,0)):=by
 unfold prT at h
 split at h
 ·rename_i hv
  right
  have e1:=congrArg Prod.fst h
  have e2:=congrArg Prod.snd h
  simp only at e1 e2
  exact ⟨e2.symm,by rw [← e1];exact parse_print hv⟩
 ·left
  have e1:=congrArg Prod.fst h
  have e2:=congrArg Prod.snd h
  simp only at e1 e2
  exact ⟨e2.symm,e1.symm⟩
theorem gs_16x (hv:e=1) (hA0:A = []) (bA:Option Addr) (cA:Nat) (a1:Act) (w1:World) (hx:GSx l ls A C e g i base base2 w w1) (hS1:St gsN [(0,(.slice base l.length c,0)),(6,(.slice bA A.length cA,0)),(7,(.int .i64 e,0))] a1) (rA:RdS w1 bA (encS A)):wpL Tryz.prog (gsL.drop 6) (gsQ w) a1 w1:=by
 have H:∀ w',Chg [] w1 w'→Calls Tryz.prog 21 #[.slice bA A.length cA] w' (RetV (.tuple #[.slice none 0 0,.int .i64 ((0:Nat):Int),.int .i64 0]) w'):=fun w' hc=>by
  have:=gmParse_any A bA cA w' (hx.hG.below hc.bl0) (rA.bl hc.bl0) (by rw [hA0];decide) (by rw [hA0];intro x h;cases h)
  rw [show parseT A=([],0,0) by rw [hA0];rfl] at this
  exact pa_nil this
 subst hv
 refine vm_fragA (X:=⟨w1,[]⟩) kr [] gsN (gsL.drop 6) (ne_nil kr) (fun r=>[(0,(.slice base l.length c,0)),(6,(.slice bA A.length cA,0)),(7,(.int .i64 (1),0))]) (fun r=>[]) 0 (fun _=>(0,0)) (hS1) (memOk0 w1 _) (fun r hr=>⟨rfl,rfl⟩) (keysLt_all kr) [.t,.t,.t,.u,.u,.u,.t,.t] [cW H] (VEx.r) (fun r=>[(4,(.bool true,0))]) [] (fun r=>[]) (fun r g=>by kernel_rfl) (fun r g=>by kernel_rfl) ?_
 intro r a3 w3 hr hS3 hK3 hM3
 have hc:=hM3.below
 exact vm_out (fn:=Tryz.f5) (hS3.re rfl:St _ [(4,(.bool true,0))] a3) (.bool true) (fun g=>by kernel_rfl) ⟨rfl,hx.hb.trans (hc.bl0.mono hx.hb.size)⟩
theorem gs_16y (hv:e=0) (hP:parseT A=(l,0,0)) (bA:Option Addr) (cA:Nat) (a1:Act) (w1:World) (hx:GSx l ls A C e g i base base2 w w1) (hS1:St gsN [(0,(.slice base l.length c,0)),(6,(.slice bA A.length cA,0)),(7,(.int .i64 e,0))] a1) (rA:RdS w1 bA (encS A)):wpL Tryz.prog (gsL.drop 6) (gsQ w) a1 w1:=by
 have hA:=hx.hp
 have hal:=hx.al
 have hlen:∀ x,x ∈ A→x.length≤1000000:=fun x hm=>by
  unfold prT at hA
  split at hA
  ·rename_i hv
   have e1:=congrArg Prod.fst hA
   simp only at e1
   rw [← e1] at hm
   obtain ⟨m,hm1,rfl⟩:=List.mem_map.1 hm
   exact txt_len (valid_all hv m hm1)
  ·have e1:=congrArg Prod.fst hA
   simp only at e1
   rw [← e1] at hm
   cases hm
 have H:∀ w',Chg [] w1 w'→Calls Tryz.prog 21 #[.slice bA A.length cA] w' (RetPa (parseT A) w'):=fun w' hc=>gmParse_any A bA cA w' (hx.hG.below hc.bl0) (rA.bl hc.bl0) (by omega) hlen
 rw [hP] at H
 refine wp_part 1 ?_
 by_cases h0:l = []
 ·have H:=fun w' hc=>pa_nil (by have:=H w' hc;rwa [h0] at this)
  refine vm_fragA (X:=⟨w1,[]⟩) kr [] gsN ((gsL.drop 6).take 1) (ne_nil kr) (fun r=>[(0,(.slice base l.length c,0)),(6,(.slice bA A.length cA,0)),(7,(.int .i64 (e),0))]) (fun r=>[]) 0 (fun _=>(0,0)) (hS1) (memOk0 w1 _) (fun r hr=>⟨rfl,rfl⟩) (keysLt_all kr) [] [cW H] (VEx.n) (fun r=>[(0,(.slice base l.length c,0)),(7,(.int .i64 (e),0)),(16,(.slice none 0 0,0)),(18,(.int .i64 (0),0))]) [] (fun r=>[]) (fun r g=>by kernel_rfl) (fun r g=>by kernel_rfl) ?_
  intro r a3 w3 hr hS3 hK3 hM3
  have hc:=hM3.below
  exact then_n (show wpL Tryz.prog ((gsL.drop 6).drop 1) (gsQ w) a3 w3 from (show (gsL.drop 6).drop 1=gsL.drop 7 by kernel_rfl) ▸ gs_17 hv none 0 a3 w3 (hx.next hc) (hS3.re (by rw [show l.length=0 by rw [h0];rfl];try rfl)) (.inl (by rw [h0];rfl)))
 ·have H:=fun w' hc=>pa_new h0 (H w' hc)
  refine vm_fragA (X:=⟨w1,[]⟩) kr [] gsN ((gsL.drop 6).take 1) (ne_nil kr) (fun r=>[(0,(.slice base l.length c,0)),(6,(.slice bA A.length cA,0)),(7,(.int .i64 (e),0))]) (fun r=>[]) 0 (fun _=>(0,0)) (hS1) (memOk0 w1 _) (fun r hr=>⟨rfl,rfl⟩) (keysLt_all kr) [] [cS 23 (fun m=>(encM l++zc zMc m).toArray) (fun n m=>.tuple #[.slice (some ⟨n,0,none⟩) l.length (l.length+m),.int .i64 ((0:Nat):Int),.int .i64 0]) H] (VEx.n) (fun r=>[(0,(.slice base l.length c,0)),(7,(.int .i64 (e),0)),(16,(.slice (some ⟨(r 1).1,0,none⟩) (l.length) (l.length+(r 1).2),2)),(18,(.int .i64 (0),0))]) [] (fun r=>[(1,(23,(encM l++zc zMc (r 1).2).toArray))]) (fun r g=>by kernel_rfl) (fun r g=>by kernel_rfl) ?_
  intro r a3 w3 hr hS3 hK3 hM3
  have hc:=hM3.below
  exact then_n (show wpL Tryz.prog ((gsL.drop 6).drop 1) (gsQ w) a3 w3 from (show (gsL.drop 6).drop 1=gsL.drop 7 by kernel_rfl) ▸ gs_17 hv (some ⟨(r 1).1,0,none⟩) (l.length+(r 1).2) a3 w3 (hx.next hc) (hS3.re rfl) (rds_hc (hM3.has 1 _ rfl).1))
theorem gs_14 (bA:Option Addr) (cA:Nat) (bB:Option Addr) (cB:Nat) (bC:Option Addr) (cC:Nat) (bD:Option Addr) (cD:Nat) (a1:Act) (w1:World) (hx:GSx l ls A C e g i base base2 w w1) (hS1:St gsN [(0,(.slice base l.length c,0)),(1,(.slice base2 ls.length c2,0)),(6,(.slice bA A.length cA,0)),(7,(.int .i64 e,0)),(8,(.slice bB A.length cB,0)),(9,(.int .i64 e,0)),(10,(.slice bC C.length cC,0)),(11,(.int .i64 (i:Int),0)),(12,(.int .i64 g,0)),(13,(.slice bD C.length cD,0)),(14,(.int .i64 (i:Int),0)),(15,(.int .i64 g,0))] a1) (rA:RdS w1 bA (encS A)) (rB:RdS w1 bB (encS A)) (rC:RdS w1 bC (encM C)) (rD:RdS w1 bD (encM C)):wpL Tryz.prog (gsL.drop 4) (gsQ w) a1 w1:=by
 have hal:=hx.al
 have hcl:=hx.cl
 have HT:∀ w',Chg [] w1 w'→Calls Tryz.prog 23 #[.slice bA A.length cA,.slice bB A.length cB] w' (RetV (.bool true) w'):=fun w' hc=>by
  have:=gnSameTexts_any A A bA bB cA cB w' (rA.bl hc.bl0) (rB.bl hc.bl0) (by omega)
  rwa [decide_eq_true rfl] at this
 have HM:∀ w',Chg [] w1 w'→Calls Tryz.prog 24 #[.slice bC C.length cC,.slice bD C.length cD] w' (RetV (.bool true) w'):=fun w' hc=>by
  have:=gnSame_any C C bC bD cC cD w' (rC.bl hc.bl0) (rD.bl hc.bl0) (by omega)
  rwa [decide_eq_true rfl] at this
 have he:(e != e)=false:=by simp
 have hi:((i:Int) != (i:Int))=false:=by simp
 have hg:(g != g)=false:=by simp
 refine wp_part 2 ?_
 refine vm_fragA (X:=⟨w1,[]⟩) kr [] gsN ((gsL.drop 4).take 2) (ne_nil kr) (fun r=>[(0,(.slice base l.length c,0)),(1,(.slice base2 ls.length c2,0)),(6,(.slice bA A.length cA,0)),(7,(.int .i64 (e),0)),(8,(.slice bB A.length cB,0)),(9,(.int .i64 (e),0)),(10,(.slice bC C.length cC,0)),(11,(.int .i64 ((i:Int)),0)),(12,(.int .i64 (g),0)),(13,(.slice bD C.length cD,0)),(14,(.int .i64 ((i:Int)),0)),(15,(.int .i64 (g),0))]) (fun r=>[]) 0 (fun _=>(0,0)) (hS1) (memOk0 w1 _) (fun r hr=>⟨rfl,rfl⟩) (keysLt_all kr) [.f,.f,.f,.f,(.p _ false he),(.p _ false he),(.p _ false he),(.p _ false he),(.p _ false he),.f,.f,.f,.f,(.p _ false hi),(.p _ false hi),(.p _ false hi),(.p _ false hi),(.p _ false hg)] [cW HT,cW HM] (VEx.n) (fun r=>[(0,(.slice base l.length c,0)),(6,(.slice bA A.length cA,0)),(7,(.int .i64 (e),0))]) [] (fun r=>[]) (fun r g=>by kernel_rfl) (fun r g=>by kernel_rfl) ?_
 intro r a3 w3 hr hS3 hK3 hM3
 have hc:=hM3.below
 refine then_n (show wpL Tryz.prog ((gsL.drop 4).drop 2) (gsQ w) a3 w3 from ?_)
 rw [show (gsL.drop 4).drop 2=gsL.drop 6 by kernel_rfl]
 rcases prT_cases hx.hp with ⟨h1,h2⟩ | ⟨h1,h2⟩
 ·exact gs_16x h1 h2 bA cA a3 w3 (hx.next hc) (hS3.re rfl) (rA.bl hc.bl0)
 ·exact gs_16y h1 h2 bA cA a3 w3 (hx.next hc) (hS3.re rfl) (rA.bl hc.bl0)
theorem gs_13 (bA:Option Addr) (cA:Nat) (bB:Option Addr) (cB:Nat) (bC:Option Addr) (cC:Nat) (a1:Act) (w1:World) (hx:GSx l ls A C e g i base base2 w w1) (hS1:St gsN [(0,(.slice base l.length c,0)),(1,(.slice base2 ls.length c2,0)),(6,(.slice bA A.length cA,0)),(7,(.int .i64 e,0)),(8,(.slice bB A.length cB,0)),(9,(.int .i64 e,0)),(10,(.slice bC C.length cC,0)),(11,(.int .i64 (i:Int),0)),(12,(.int .i64 g,0))] a1) (rA:RdS w1 bA (encS A)) (rB:RdS w1 bB (encS A)) (rC:RdS w1 bC (encM C)):wpL Tryz.prog (gsL.drop 3) (gsQ w) a1 w1:=by
 have H:∀ w',Chg [] w1 w'→Calls Tryz.prog 22 #[.slice base2 ls.length c2] w' (RetPa (C,i,g) w'):=fun w' hc=>by
  have:=gnParse_any ls base2 c2 w' (hx.hL.bl hc.bl0) (Nat.le_trans hx.hls (by decide)) (fun x h=>Nat.le_trans (hx.hlm x h) (by decide))
  rwa [hx.hq] at this
 refine wp_part 1 ?_
 by_cases h0:C = []
 ·have H:=fun w' hc=>pa_nil (by have:=H w' hc;rwa [h0] at this)
  refine vm_fragA (X:=⟨w1,[]⟩) kr [] gsN ((gsL.drop 3).take 1) (ne_nil kr) (fun r=>[(0,(.slice base l.length c,0)),(1,(.slice base2 ls.length c2,0)),(6,(.slice bA A.length cA,0)),(7,(.int .i64 (e),0)),(8,(.slice bB A.length cB,0)),(9,(.int .i64 (e),0)),(10,(.slice bC C.length cC,0)),(11,(.int .i64 ((i:Int)),0)),(12,(.int .i64 (g),0))]) (fun r=>[]) 0 (fun _=>(0,0)) (hS1) (memOk0 w1 _) (fun r hr=>⟨rfl,rfl⟩) (keysLt_all kr) [] [cW H] (VEx.n) (fun r=>[(0,(.slice base l.length c,0)),(1,(.slice base2 ls.length c2,0)),(6,(.slice bA A.length cA,0)),(7,(.int .i64 (e),0)),(8,(.slice bB A.length cB,0)),(9,(.int .i64 (e),0)),(10,(.slice bC C.length cC,0)),(11,(.int .i64 ((i:Int)),0)),(12,(.int .i64 (g),0)),(13,(.slice none 0 0,0)),(14,(.int .i64 ((i:Int)),0)),(15,(.int .i64 (g),0))]) [] (fun r=>[]) (fun r g=>by kernel_rfl) (fun r g=>by kernel_rfl) ?_
  intro r a3 w3 hr hS3 hK3 hM3
  have hc:=hM3.below
  exact then_n (show wpL Tryz.prog ((gsL.drop 3).drop 1) (gsQ w) a3 w3 from (show (gsL.drop 3).drop 1=gsL.drop 4 by kernel_rfl) ▸ gs_14 bA cA bB cB bC cC none 0 a3 w3 (hx.next hc) (hS3.re (by rw [show C.length=0 by rw [h0];rfl];try rfl)) (rA.bl hc.bl0) (rB.bl hc.bl0) (rC.bl hc.bl0) (.inl (by rw [h0];rfl)))
 ·have H:=fun w' hc=>pa_new h0 (H w' hc)
  refine vm_fragA (X:=⟨w1,[]⟩) kr [] gsN ((gsL.drop 3).take 1) (ne_nil kr) (fun r=>[(0,(.slice base l.length c,0)),(1,(.slice base2 ls.length c2,0)),(6,(.slice bA A.length cA,0)),(7,(.int .i64 (e),0)),(8,(.slice bB A.length cB,0)),(9,(.int .i64 (e),0)),(10,(.slice bC C.length cC,0)),(11,(.int .i64 ((i:Int)),0)),(12,(.int .i64 (g),0))]) (fun r=>[]) 0 (fun _=>(0,0)) (hS1) (memOk0 w1 _) (fun r hr=>⟨rfl,rfl⟩) (keysLt_all kr) [] [cS 23 (fun m=>(encM C++zc zMc m).toArray) (fun n m=>.tuple #[.slice (some ⟨n,0,none⟩) C.length (C.length+m),.int .i64 (i:Int),.int .i64 g]) H] (VEx.n) (fun r=>[(0,(.slice base l.length c,0)),(1,(.slice base2 ls.length c2,0)),(6,(.slice bA A.length cA,0)),(7,(.int .i64 (e),0)),(8,(.slice bB A.length cB,0)),(9,(.int .i64 (e),0)),(10,(.slice bC C.length cC,0)),(11,(.int .i64 ((i:Int)),0)),(12,(.int .i64 (g),0)),(13,(.slice (some ⟨(r 1).1,0,none⟩) (C.length) (C.length+(r 1).2),2)),(14,(.int .i64 ((i:Int)),0)),(15,(.int .i64 (g),0))]) [] (fun r=>[(1,(23,(encM C++zc zMc (r 1).2).toArray))]) (fun r g=>by kernel_rfl) (fun r g=>by kernel_rfl) ?_
  intro r a3 w3 hr hS3 hK3 hM3
  have hc:=hM3.below
  exact then_n (show wpL Tryz.prog ((gsL.drop 3).drop 1) (gsQ w) a3 w3 from (show (gsL.drop 3).drop 1=gsL.drop 4 by kernel_rfl) ▸ gs_14 bA cA bB cB bC cC (some ⟨(r 1).1,0,none⟩) (C.length+(r 1).2) a3 w3 (hx.next hc) (hS3.re rfl) (rA.bl hc.bl0) (rB.bl hc.bl0) (rC.bl hc.bl0) (rds_hc (hM3.has 1 _ rfl).1))
theorem gs_12 (bA:Option Addr) (cA:Nat) (bB:Option Addr) (cB:Nat) (a1:Act) (w1:World) (hx:GSx l ls A C e g i base base2 w w1) (hS1:St gsN [(0,(.slice base l.length c,0)),(1,(.slice base2 ls.length c2,0)),(6,(.slice bA A.length cA,0)),(7,(.int .i64 e,0)),(8,(.slice bB A.length cB,0)),(9,(.int .i64 e,0))] a1) (rA:RdS w1 bA (encS A)) (rB:RdS w1 bB (encS A)):wpL Tryz.prog (gsL.drop 2) (gsQ w) a1 w1:=by
 have H:∀ w',Chg [] w1 w'→Calls Tryz.prog 21 #[.slice base2 ls.length c2] w' (RetPa (C,i,g) w'):=fun w' hc=>by
  have:=gmParse_any ls base2 c2 w' (hx.hG.below hc.bl0) (hx.hL.bl hc.bl0) (Nat.le_trans hx.hls (by decide)) (fun x h=>Nat.le_trans (hx.hlm x h) (by decide))
  rwa [hx.hq] at this
 refine wp_part 1 ?_
 by_cases h0:C = []
 ·have H:=fun w' hc=>pa_nil (by have:=H w' hc;rwa [h0] at this)
  refine vm_fragA (X:=⟨w1,[]⟩) kr [] gsN ((gsL.drop 2).take 1) (ne_nil kr) (fun r=>[(0,(.slice base l.length c,0)),(1,(.slice base2 ls.length c2,0)),(6,(.slice bA A.length cA,0)),(7,(.int .i64 (e),0)),(8,(.slice bB A.length cB,0)),(9,(.int .i64 (e),0))]) (fun r=>[]) 0 (fun _=>(0,0)) (hS1) (memOk0 w1 _) (fun r hr=>⟨rfl,rfl⟩) (keysLt_all kr) [] [cW H] (VEx.n) (fun r=>[(0,(.slice base l.length c,0)),(1,(.slice base2 ls.length c2,0)),(6,(.slice bA A.length cA,0)),(7,(.int .i64 (e),0)),(8,(.slice bB A.length cB,0)),(9,(.int .i64 (e),0)),(10,(.slice none 0 0,0)),(11,(.int .i64 ((i:Int)),0)),(12,(.int .i64 (g),0))]) [] (fun r=>[]) (fun r g=>by kernel_rfl) (fun r g=>by kernel_rfl) ?_
  intro r a3 w3 hr hS3 hK3 hM3
  have hc:=hM3.below
  exact then_n (show wpL Tryz.prog ((gsL.drop 2).drop 1) (gsQ w) a3 w3 from (show (gsL.drop 2).drop 1=gsL.drop 3 by kernel_rfl) ▸ gs_13 bA cA bB cB none 0 a3 w3 (hx.next hc) (hS3.re (by rw [show C.length=0 by rw [h0];rfl];try rfl)) (rA.bl hc.bl0) (rB.bl hc.bl0) (.inl (by rw [h0];rfl)))
 ·have H:=fun w' hc=>pa_new h0 (H w' hc)
  refine vm_fragA (X:=⟨w1,[]⟩) kr [] gsN ((gsL.drop 2).take 1) (ne_nil kr) (fun r=>[(0,(.slice base l.length c,0)),(1,(.slice base2 ls.length c2,0)),(6,(.slice bA A.length cA,0)),(7,(.int .i64 (e),0)),(8,(.slice bB A.length cB,0)),(9,(.int .i64 (e),0))]) (fun r=>[]) 0 (fun _=>(0,0)) (hS1) (memOk0 w1 _) (fun r hr=>⟨rfl,rfl⟩) (keysLt_all kr) [] [cS 23 (fun m=>(encM C++zc zMc m).toArray) (fun n m=>.tuple #[.slice (some ⟨n,0,none⟩) C.length (C.length+m),.int .i64 (i:Int),.int .i64 g]) H] (VEx.n) (fun r=>[(0,(.slice base l.length c,0)),(1,(.slice base2 ls.length c2,0)),(6,(.slice bA A.length cA,0)),(7,(.int .i64 (e),0)),(8,(.slice bB A.length cB,0)),(9,(.int .i64 (e),0)),(10,(.slice (some ⟨(r 1).1,0,none⟩) (C.length) (C.length+(r 1).2),2)),(11,(.int .i64 ((i:Int)),0)),(12,(.int .i64 (g),0))]) [] (fun r=>[(1,(23,(encM C++zc zMc (r 1).2).toArray))]) (fun r g=>by kernel_rfl) (fun r g=>by kernel_rfl) ?_
  intro r a3 w3 hr hS3 hK3 hM3
  have hc:=hM3.below
  exact then_n (show wpL Tryz.prog ((gsL.drop 2).drop 1) (gsQ w) a3 w3 from (show (gsL.drop 2).drop 1=gsL.drop 3 by kernel_rfl) ▸ gs_13 bA cA bB cB (some ⟨(r 1).1,0,none⟩) (C.length+(r 1).2) a3 w3 (hx.next hc) (hS3.re rfl) (rA.bl hc.bl0) (rB.bl hc.bl0) (rds_hc (hM3.has 1 _ rfl).1))
theorem gs_11 (bA:Option Addr) (cA:Nat) (a1:Act) (w1:World) (hx:GSx l ls A C e g i base base2 w w1) (hS1:St gsN [(0,(.slice base l.length c,0)),(1,(.slice base2 ls.length c2,0)),(6,(.slice bA A.length cA,0)),(7,(.int .i64 e,0))] a1) (rA:RdS w1 bA (encS A)):wpL Tryz.prog (gsL.drop 1) (gsQ w) a1 w1:=by
 have H:∀ w',Chg [] w1 w'→Calls Tryz.prog 20 #[.slice base l.length c] w' (RetId (A,e) w'):=fun w' hc=>by
  have:=gnPrint_any l base c w' (hx.hR.bl hc.bl0) (Nat.le_trans hx.hl (by decide)) hx.mm
  rwa [hx.hp] at this
 refine wp_part 1 ?_
 by_cases h0:A = []
 ·have H:=fun w' hc=>id_nil (by have:=H w' hc;rwa [h0] at this)
  refine vm_fragA (X:=⟨w1,[]⟩) kr [] gsN ((gsL.drop 1).take 1) (ne_nil kr) (fun r=>[(0,(.slice base l.length c,0)),(1,(.slice base2 ls.length c2,0)),(6,(.slice bA A.length cA,0)),(7,(.int .i64 (e),0))]) (fun r=>[]) 0 (fun _=>(0,0)) (hS1) (memOk0 w1 _) (fun r hr=>⟨rfl,rfl⟩) (keysLt_all kr) [] [cW H] (VEx.n) (fun r=>[(0,(.slice base l.length c,0)),(1,(.slice base2 ls.length c2,0)),(6,(.slice bA A.length cA,0)),(7,(.int .i64 (e),0)),(8,(.slice none 0 0,0)),(9,(.int .i64 (e),0))]) [] (fun r=>[]) (fun r g=>by kernel_rfl) (fun r g=>by kernel_rfl) ?_
  intro r a3 w3 hr hS3 hK3 hM3
  have hc:=hM3.below
  exact then_n (show wpL Tryz.prog ((gsL.drop 1).drop 1) (gsQ w) a3 w3 from (show (gsL.drop 1).drop 1=gsL.drop 2 by kernel_rfl) ▸ gs_12 bA cA none 0 a3 w3 (hx.next hc) (hS3.re (by rw [show A.length=0 by rw [h0];rfl];try rfl)) (rA.bl hc.bl0) (.inl (by rw [h0];rfl)))
 ·have H:=fun w' hc=>id_new h0 (H w' hc)
  refine vm_fragA (X:=⟨w1,[]⟩) kr [] gsN ((gsL.drop 1).take 1) (ne_nil kr) (fun r=>[(0,(.slice base l.length c,0)),(1,(.slice base2 ls.length c2,0)),(6,(.slice bA A.length cA,0)),(7,(.int .i64 (e),0))]) (fun r=>[]) 0 (fun _=>(0,0)) (hS1) (memOk0 w1 _) (fun r hr=>⟨rfl,rfl⟩) (keysLt_all kr) [] [cS 9 (fun m=>(encS A++zc zSc m).toArray) (fun n m=>.tuple #[.slice (some ⟨n,0,none⟩) A.length (A.length+m),.int .i64 e]) H] (VEx.n) (fun r=>[(0,(.slice base l.length c,0)),(1,(.slice base2 ls.length c2,0)),(6,(.slice bA A.length cA,0)),(7,(.int .i64 (e),0)),(8,(.slice (some ⟨(r 1).1,0,none⟩) (A.length) (A.length+(r 1).2),2)),(9,(.int .i64 (e),0))]) [] (fun r=>[(1,(9,(encS A++zc zSc (r 1).2).toArray))]) (fun r g=>by kernel_rfl) (fun r g=>by kernel_rfl) ?_
  intro r a3 w3 hr hS3 hK3 hM3
  have hc:=hM3.below
  exact then_n (show wpL Tryz.prog ((gsL.drop 1).drop 1) (gsQ w) a3 w3 from (show (gsL.drop 1).drop 1=gsL.drop 2 by kernel_rfl) ▸ gs_12 bA cA (some ⟨(r 1).1,0,none⟩) (A.length+(r 1).2) a3 w3 (hx.next hc) (hS3.re rfl) (rA.bl hc.bl0) (rds_hc (hM3.has 1 _ rfl).1))
theorem gs_10 (a1:Act) (w1:World) (hx:GSx l ls A C e g i base base2 w w1) (hS1:St gsN [(0,(.slice base l.length c,0)),(1,(.slice base2 ls.length c2,0))] a1):wpL Tryz.prog (gsL.drop 0) (gsQ w) a1 w1:=by
 have H:∀ w',Chg [] w1 w'→Calls Tryz.prog 19 #[.slice base l.length c] w' (RetId (A,e) w'):=fun w' hc=>by
  have:=gmPrint_any l base c w' (hx.hG.below hc.bl0) (hx.hR.bl hc.bl0) (Nat.le_trans hx.hl (by decide)) hx.mm
  rwa [hx.hp] at this
 refine wp_part 1 ?_
 by_cases h0:A = []
 ·have H:=fun w' hc=>id_nil (by have:=H w' hc;rwa [h0] at this)
  refine vm_fragA (X:=⟨w1,[]⟩) kr [] gsN ((gsL.drop 0).take 1) (ne_nil kr) (fun r=>[(0,(.slice base l.length c,0)),(1,(.slice base2 ls.length c2,0))]) (fun r=>[]) 0 (fun _=>(0,0)) (hS1) (memOk0 w1 _) (fun r hr=>⟨rfl,rfl⟩) (keysLt_all kr) [] [cW H] (VEx.n) (fun r=>[(0,(.slice base l.length c,0)),(1,(.slice base2 ls.length c2,0)),(6,(.slice none 0 0,0)),(7,(.int .i64 (e),0))]) [] (fun r=>[]) (fun r g=>by kernel_rfl) (fun r g=>by kernel_rfl) ?_
  intro r a3 w3 hr hS3 hK3 hM3
  have hc:=hM3.below
  exact then_n (show wpL Tryz.prog ((gsL.drop 0).drop 1) (gsQ w) a3 w3 from (show (gsL.drop 0).drop 1=gsL.drop 1 by kernel_rfl) ▸ gs_11 none 0 a3 w3 (hx.next hc) (hS3.re (by rw [show A.length=0 by rw [h0];rfl];try rfl)) (.inl (by rw [h0];rfl)))
 ·have H:=fun w' hc=>id_new h0 (H w' hc)
  refine vm_fragA (X:=⟨w1,[]⟩) kr [] gsN ((gsL.drop 0).take 1) (ne_nil kr) (fun r=>[(0,(.slice base l.length c,0)),(1,(.slice base2 ls.length c2,0))]) (fun r=>[]) 0 (fun _=>(0,0)) (hS1) (memOk0 w1 _) (fun r hr=>⟨rfl,rfl⟩) (keysLt_all kr) [] [cS 9 (fun m=>(encS A++zc zSc m).toArray) (fun n m=>.tuple #[.slice (some ⟨n,0,none⟩) A.length (A.length+m),.int .i64 e]) H] (VEx.n) (fun r=>[(0,(.slice base l.length c,0)),(1,(.slice base2 ls.length c2,0)),(6,(.slice (some ⟨(r 1).1,0,none⟩) (A.length) (A.length+(r 1).2),2)),(7,(.int .i64 (e),0))]) [] (fun r=>[(1,(9,(encS A++zc zSc (r 1).2).toArray))]) (fun r g=>by kernel_rfl) (fun r g=>by kernel_rfl) ?_
  intro r a3 w3 hr hS3 hK3 hM3
  have hc:=hM3.below
  exact then_n (show wpL Tryz.prog ((gsL.drop 0).drop 1) (gsQ w) a3 w3 from (show (gsL.drop 0).drop 1=gsL.drop 1 by kernel_rfl) ▸ gs_11 (some ⟨(r 1).1,0,none⟩) (A.length+(r 1).2) a3 w3 (hx.next hc) (hS3.re rfl) (rds_hc (hM3.has 1 _ rfl).1))
end
theorem GS_all (l:List Mt) (ls:List (List UInt8)) (base base2:Option Addr) (c c2:Nat) (w:World) (hG:GW w) (hR:RdS w base (encM l)) (hL:RdS w base2 (encS ls)) (hn:l.length≤9223372036854775807):Calls Tryz.prog 5 #[.slice base l.length c,.slice base2 ls.length c2] w (RetV (.bool true) w):=by
 refine vm_start [.slice base l.length c,.slice base2 ls.length c2] (fn:=Tryz.f5) (c:=gsC) kr kr nle ?_
 intro a hS
 have hS:St gsN [(0,(.slice base l.length c,0)),(1,(.slice base2 ls.length c2,0))] a:=hS
 have HAW:∀ w',Chg [] w w'→Calls Tryz.prog 10 #[] w' (RetV (.bool true) w'):=fun w' hc=>gaawake_any w' (hG.below hc.bl0)
 have HF:∀ w',Chg [] w w'→Calls Tryz.prog 18 #[.slice base l.length c] w' (RetV (.bool (fewM l)) w'):=fun w' hc=>gnFew_any l base c w' (hR.bl hc.bl0) hn
 cases hf:fewM l with
 | false =>
  rw [hf] at HF
  refine wpL_one ?_
  refine vm_fragA (X:=⟨w,[]⟩) kr [] gsN [gsC] (ne_nil kr) (fun r=>[(0,(.slice base l.length c,0)),(1,(.slice base2 ls.length c2,0))]) (fun r=>[]) 0 (fun _=>(0,0)) (hS) (memOk0 w _) (fun r hr=>⟨rfl,rfl⟩) (keysLt_all kr) [.f,.t,.t,.t,.t,.t] [cW HAW,cW HF] (VEx.r) (fun r=>[(4,(.bool true,0))]) [] (fun r=>[]) (fun r g=>by kernel_rfl) (fun r g=>by kernel_rfl) ?_
  intro r a1 w1 hr hS1 hK1 hM1
  exact vm_out (fn:=Tryz.f5) hS1 (.bool true) (fun g=>by kernel_rfl) ⟨rfl,hM1.below.bl0⟩
 | true =>
 rw [hf] at HF
 obtain ⟨hl1,hl2⟩:=few_of hf
 by_cases h110:110<ls.length
 ·have g1:decide ((110:Int)<((ls.length:Nat):Int))=true:=decide_eq_true (by omega)
  refine wpL_one ?_
  refine vm_fragA (X:=⟨w,[]⟩) kr [] gsN [gsC] (ne_nil kr) (fun r=>[(0,(.slice base l.length c,0)),(1,(.slice base2 ls.length c2,0))]) (fun r=>[]) 0 (fun _=>(0,0)) (hS) (memOk0 w _) (fun r hr=>⟨rfl,rfl⟩) (keysLt_all kr) [.f,.f,.f,.f,.f,(.p _ true g1)] [cW HAW,cW HF] (VEx.r) (fun r=>[(4,(.bool true,0))]) [] (fun r=>[]) (fun r g=>by kernel_rfl) (fun r g=>by kernel_rfl) ?_
  intro r a1 w1 hr hS1 hK1 hM1
  exact vm_out (fn:=Tryz.f5) hS1 (.bool true) (fun g=>by kernel_rfl) ⟨rfl,hM1.below.bl0⟩
 have g1:decide ((110:Int)<((ls.length:Nat):Int))=false:=decide_eq_false (by omega)
 refine wp_cut 0 kr ?_
 refine vm_fragA (X:=⟨w,[]⟩) kr [] gsN (cPre 0 gsC) (ne_nil kr) (fun r=>[(0,(.slice base l.length c,0)),(1,(.slice base2 ls.length c2,0))]) (fun r=>[]) 0 (fun _=>(0,0)) (hS) (memOk0 w _) (fun r hr=>⟨rfl,rfl⟩) (keysLt_all kr) [.f,.f,.f,.f,.f,(.p _ false g1)] [cW HAW,cW HF] (VEx.n) (fun r=>[(0,(.slice base l.length c,0)),(1,(.slice base2 ls.length c2,0)),(5,(.int .i64 (((0:Nat):Int)),0))]) [] (fun r=>[]) (fun r g=>by kernel_rfl) (fun r g=>by kernel_rfl) ?_
 intro r a1 w1 hr hS1 hK1 hM1
 have hc1:=hM1.below
 have hL1:=hL.bl hc1.bl0
 refine wp_for 0 kr kr (fun n a' w'=>∃ j,ls.length - j=n∧j≤ls.length∧(∀ k (hk:k<ls.length),k<j→(ls[k]).length≤100)∧St gsN [(0,(.slice base l.length c,0)),(1,(.slice base2 ls.length c2,0)),(5,(.int .i64 (j:Int),0))] a'∧Chg [] w1 w') (ls.length - 0) ⟨0,rfl,by omega,fun k hk h=>absurd h (Nat.not_lt_zero k),hS1.re rfl,Chg.refl _ _⟩ ?_
 clear hS1 hM1 hS hK1 hr
 rintro n a2 w2 ⟨j,rfl,hj,hall,hS2,hM2⟩
 refine wpL_one ?_
 rcases Nat.lt_or_ge j ls.length with hjl | hjl
 ·have h2:decide ((j:Int)<((ls.length:Nat):Int))=true:=decide_eq_true (by omega)
  obtain ⟨bl,o,rfl,-,hA⟩:=hL1.atS j hjl
  have hAj:=hA j hjl
  have hstep:(ls[j]).length≤100→∀ k (hk:k<ls.length),k<j+1→(ls[k]).length≤100:=fun h k hk hkj=>by
   by_cases e:k=j
   ·subst e;exact h
   ·exact hall k hk (by omega)
  have v1:IntKind.i64.wrap ((j:Int)+1)=((j+1:Nat):Int):=by rw [wr64 (by omega) (by omega)];omega
  have hsz:((ByteArray.mk (ls[j]).toArray).size:Int)=((ls[j]).length:Int):=by rw [str_size]
  generalize ls[j]=s at *
  cases q0:(decide ((100:Int)<(((ByteArray.mk (s).toArray)).size:Int))) with
  | true =>
   refine vm_piece (E0:=[(0,(.slice base l.length c,0)),(1,(.slice (some ⟨bl,o,none⟩) ls.length c2,0)),(5,(.int .i64 ((j:Int)),0))]) kr [(8,2),(8,3)] gsN [cI (cI gs0)] kr hS2 [(.p _ true h2),dT q0] [lV (Instr.indexAt 49 (.slice (some ⟨bl,o,none⟩) (ls.length) (c2)) (.int .i64 ((j:Int)))) (.pointer (some ⟨bl,o+j,none⟩)) (fun w hC=>ixS j w (by omega) (by omega) (by omega)),lV (Instr.loadAt 9 (.pointer (some ⟨bl,o+j,none⟩))) (.string ⟨(s).toArray⟩) (fun w hC=>ldS ((hM2.trans hC).cell0 hAj))] (VEx.r) [(4,(.bool true,0))] [] (hQ:=?_)
   intro a3 w3 hS3 hK3 hM3
   exact ret_r (vm_out (fn:=Tryz.f5) hS3 (.bool true) (fun g=>by kernel_rfl) ⟨rfl,(hc1.trans (hM2.trans hM3)).bl0⟩)
  | false =>
   refine vm_piece (E0:=[(0,(.slice base l.length c,0)),(1,(.slice (some ⟨bl,o,none⟩) ls.length c2,0)),(5,(.int .i64 ((j:Int)),0))]) kr [(8,2),(8,3),(7,1)] gsN [cI (cI gs0)] kr hS2 [(.p _ true h2),dF q0] [lV (Instr.indexAt 49 (.slice (some ⟨bl,o,none⟩) (ls.length) (c2)) (.int .i64 ((j:Int)))) (.pointer (some ⟨bl,o+j,none⟩)) (fun w hC=>ixS j w (by omega) (by omega) (by omega)),lV (Instr.loadAt 9 (.pointer (some ⟨bl,o+j,none⟩))) (.string ⟨(s).toArray⟩) (fun w hC=>ldS ((hM2.trans hC).cell0 hAj)),lE .i64 ((((j:Int)):Int)+((1):Int)) (((j+1:Nat):Int)) (v1)] (VEx.n) [(0,(.slice base l.length c,0)),(1,(.slice (some ⟨bl,o,none⟩) ls.length c2,0)),(5,(.int .i64 (((j+1:Nat):Int)),0))] [] (hQ:=?_)
   intro a3 w3 hS3 hK3 hM3
   exact ⟨ls.length - (j+1),by omega,j+1,rfl,by omega,hstep (by have:=of_decide_eq_false q0;omega),hS3,hM2.trans hM3⟩
 ·have h2:decide ((j:Int)<((ls.length:Nat):Int))=false:=decide_eq_false (by omega)
  obtain rfl:j=ls.length:=by omega
  refine vm_piece (E0:=[(0,(.slice base l.length c,0)),(1,(.slice base2 ls.length c2,0)),(5,(.int .i64 (((ls.length:Nat):Int)),0))]) kr [] gsN [cI (cI gs0)] kr hS2 [(.p _ false h2)] [] (VEx.x 0) [(0,(.slice base l.length c,0)),(1,(.slice base2 ls.length c2,0))] [] (hQ:=?_)
  intro a3 w3 hS3 hK3 hM3
  refine exit_n (then_n ?_)
  have hc:=hc1.trans (hM2.trans hM3)
  rw [show cPost 0 gsC = [gsR] by kernel_rfl]
  obtain ⟨A,e,hp⟩:∃ A e,prT l=(A,e):=⟨_,_,rfl⟩
  obtain ⟨C,i,g,hq⟩:∃ C i g,parseT ls=(C,i,g):=⟨_,_,_,rfl⟩
  exact wp_flat gsR (gs_10 (l:=l) (ls:=ls) (A:=A) (C:=C) (e:=e) (g:=g) (i:=i) (c:=c) (c2:=c2) (w:=w) a3 w3 ⟨hG.below hc.bl0,hR.bl hc.bl0,hL.bl hc.bl0,hl1,hl2,by omega,fun x hx=>by
   obtain ⟨k,hk,rfl⟩:=List.mem_iff_getElem.1 hx
   exact hall k hk hk,hp,hq,hc.bl0⟩ (hS3.re rfl))
end Go.Proofs.YtlhddcingeneaaaGreatDoor
