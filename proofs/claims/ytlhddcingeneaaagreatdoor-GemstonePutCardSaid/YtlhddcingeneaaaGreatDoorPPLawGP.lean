/- GemstonePut: the law. -/
import Derived.Test.YtlhddcingeneaaaGreatDoorPPZ
namespace Go.Proofs.YtlhddcingeneaaaGreatDoor
open Go Go.RowKit
set_option maxRecDepth 100000
set_option linter.unusedVariables false
set_option linter.unusedSimpArgs false
noncomputable def gqN:Nat:=Tryz.f9.ntmps
noncomputable def gqC:Code:=Tryz.f9.body.getD .skip
noncomputable def gqL:List Code:=flat gqC
noncomputable def gqB:Code:=gqL.getD 12 .skip
noncomputable def gq5:List Oper:=rgL 5 gqC
noncomputable def gq17:List Oper:=rgL 17 gqC
noncomputable def gq18:List Oper:=rgL 18 gqC
noncomputable def gq19:List Oper:=rgL 19 gqC
noncomputable def gqF (w:World):Exit→Act→World→Prop:=bodyPost Tryz.prog Tryz.f9 (RetV (.bool true) w)
theorem put_comm {l A B C D:List Mt} {m k:Mt} (hne:m.nm≠k.nm) (h1:putT l m=(A,0)) (h2:putT A k=(B,0)) (h3:putT l k=(C,0)) (h4:putT C m=(D,0)):B=D:=by
 obtain ⟨-,-,e1,-⟩:=put_ok h1
 obtain ⟨-,-,e2,-⟩:=put_ok h2
 obtain ⟨-,-,e3,-⟩:=put_ok h3
 obtain ⟨-,-,e4,-⟩:=put_ok h4
 rw [e2,e1,e4,e3]
 exact ins_comm' hne l
def oneT (m x:Mt):Mt:=if x.nm=m.nm then m else x
theorem find_put {l A:List Mt} {m:Mt} (h:putT l m=(A,0)) (i:Nat) (hi:i<l.length):findT A l[i].nm=some (oneT m l[i]):=by
 obtain ⟨hv,hr,rfl,-⟩:=put_ok h
 have hok:=(valid_len hv).2
 unfold oneT
 by_cases e:l[i].nm=m.nm
 ·rw [if_pos e,e,find_ins]
 ·rw [if_neg e,find_other e,find_own i hi hok]
section
variable {l A:List Mt} {m k:Mt} {base bA:Option Addr} {c cA p4 p5:Nat} {w:World}
theorem gq_last {B C D:List Mt} {f g h:Int} {bB bD:Option Addr} {cB cD:Nat} {a1:Act} {w1:World} (h1:putT l m=(A,0)) (h2:putT A k=(B,f)) (h3:putT l k=(C,g)) (h4:putT C m=(D,h)) (hP4:MAt w1 p4 0 m) (hP5:MAt w1 p5 0 k) (hRB:RdS w1 bB (encM B)) (hRD:RdS w1 bD (encM D)) (hb:Below w.heap.size w w1) (hS:St gqN [(4,(.pointer (some ⟨p4,0,none⟩),0)),(5,(.pointer (some ⟨p5,0,none⟩),0)),(14,(.slice bB B.length cB,0)),(15,(.int .i64 f,0)),(17,(.int .i64 g,0)),(18,(.slice bD D.length cD,0)),(19,(.int .i64 h,0))] a1):wpL Tryz.prog (gqL.drop 16) (gqF w) a1 w1:=by
 have m4:w1.cell? ⟨p4,0+0,none⟩=some (.string ⟨m.nm.toArray⟩):=hP4.c0
 have m5:w1.cell? ⟨p5,0+0,none⟩=some (.string ⟨k.nm.toArray⟩):=hP5.c0
 cases q1:((ByteArray.mk m.nm.toArray).toList == (ByteArray.mk k.nm.toArray).toList) with
 | true =>
  refine vm_fragA (X:=⟨w1,[]⟩) kr [(20,1),(20,3)] gqN (gqL.drop 16) (ne_nil kr) (fun r=>[(4,(.pointer (some ⟨p4,0,none⟩),0)),(5,(.pointer (some ⟨p5,0,none⟩),0)),(14,(.slice bB B.length cB,0)),(15,(.int .i64 f,0)),(17,(.int .i64 g,0)),(18,(.slice bD D.length cD,0)),(19,(.int .i64 h,0))]) (fun r=>[]) 0 (fun _=>(0,0)) (hS) (memOk0 w1 _) (fun r hr=>⟨rfl,rfl⟩) (keysLt_all kr) [(.p _ true q1),(.p _ true q1),(.p _ true q1),.t,.t,.t,.t,.t,.t,.t] [lV (Instr.loadAt 9 (.pointer (some ⟨p4,0+0,none⟩))) (.string ⟨(m.nm).toArray⟩) (fun w hC=>ldS (hC.cell0 m4)),lV (Instr.loadAt 9 (.pointer (some ⟨p5,0+0,none⟩))) (.string ⟨(k.nm).toArray⟩) (fun w hC=>ldS (hC.cell0 m5))] (VEx.r) (fun r=>[(6,(.bool true,0))]) [] (fun r=>[]) (fun r g=>by kernel_rfl) (fun r g=>by kernel_rfl) ?_
  intro r a2 w2 hr hS2 hK2 hM2
  exact vm_out (fn:=Tryz.f9) hS2 (.bool true) (fun g=>by kernel_rfl) ⟨rfl,hb.trans (hM2.below.bl0.mono hb.size)⟩
 | false =>
 cases q2:((f:Int) != (0:Int)) with
 | true =>
  refine vm_fragA (X:=⟨w1,[]⟩) kr [(20,1),(20,3)] gqN (gqL.drop 16) (ne_nil kr) (fun r=>[(4,(.pointer (some ⟨p4,0,none⟩),0)),(5,(.pointer (some ⟨p5,0,none⟩),0)),(14,(.slice bB B.length cB,0)),(15,(.int .i64 f,0)),(17,(.int .i64 g,0)),(18,(.slice bD D.length cD,0)),(19,(.int .i64 h,0))]) (fun r=>[]) 0 (fun _=>(0,0)) (hS) (memOk0 w1 _) (fun r hr=>⟨rfl,rfl⟩) (keysLt_all kr) [(.p _ false q1),(.p _ false q1),(.p _ false q1),(.p _ true q2),(.p _ true q2),(.p _ true q2),.t,.t,.t,.t] [lV (Instr.loadAt 9 (.pointer (some ⟨p4,0+0,none⟩))) (.string ⟨(m.nm).toArray⟩) (fun w hC=>ldS (hC.cell0 m4)),lV (Instr.loadAt 9 (.pointer (some ⟨p5,0+0,none⟩))) (.string ⟨(k.nm).toArray⟩) (fun w hC=>ldS (hC.cell0 m5))] (VEx.r) (fun r=>[(6,(.bool true,0))]) [] (fun r=>[]) (fun r g=>by kernel_rfl) (fun r g=>by kernel_rfl) ?_
  intro r a2 w2 hr hS2 hK2 hM2
  exact vm_out (fn:=Tryz.f9) hS2 (.bool true) (fun g=>by kernel_rfl) ⟨rfl,hb.trans (hM2.below.bl0.mono hb.size)⟩
 | false =>
 cases q3:((g:Int) != (0:Int)) with
 | true =>
  refine vm_fragA (X:=⟨w1,[]⟩) kr [(20,1),(20,3)] gqN (gqL.drop 16) (ne_nil kr) (fun r=>[(4,(.pointer (some ⟨p4,0,none⟩),0)),(5,(.pointer (some ⟨p5,0,none⟩),0)),(14,(.slice bB B.length cB,0)),(15,(.int .i64 f,0)),(17,(.int .i64 g,0)),(18,(.slice bD D.length cD,0)),(19,(.int .i64 h,0))]) (fun r=>[]) 0 (fun _=>(0,0)) (hS) (memOk0 w1 _) (fun r hr=>⟨rfl,rfl⟩) (keysLt_all kr) [(.p _ false q1),(.p _ false q1),(.p _ false q1),(.p _ false q2),(.p _ false q2),(.p _ false q2),(.p _ true q3),(.p _ true q3),(.p _ true q3),.t] [lV (Instr.loadAt 9 (.pointer (some ⟨p4,0+0,none⟩))) (.string ⟨(m.nm).toArray⟩) (fun w hC=>ldS (hC.cell0 m4)),lV (Instr.loadAt 9 (.pointer (some ⟨p5,0+0,none⟩))) (.string ⟨(k.nm).toArray⟩) (fun w hC=>ldS (hC.cell0 m5))] (VEx.r) (fun r=>[(6,(.bool true,0))]) [] (fun r=>[]) (fun r g=>by kernel_rfl) (fun r g=>by kernel_rfl) ?_
  intro r a2 w2 hr hS2 hK2 hM2
  exact vm_out (fn:=Tryz.f9) hS2 (.bool true) (fun g=>by kernel_rfl) ⟨rfl,hb.trans (hM2.below.bl0.mono hb.size)⟩
 | false =>
 cases q4:((h:Int) != (0:Int)) with
 | true =>
  refine vm_fragA (X:=⟨w1,[]⟩) kr [(20,1),(20,3)] gqN (gqL.drop 16) (ne_nil kr) (fun r=>[(4,(.pointer (some ⟨p4,0,none⟩),0)),(5,(.pointer (some ⟨p5,0,none⟩),0)),(14,(.slice bB B.length cB,0)),(15,(.int .i64 f,0)),(17,(.int .i64 g,0)),(18,(.slice bD D.length cD,0)),(19,(.int .i64 h,0))]) (fun r=>[]) 0 (fun _=>(0,0)) (hS) (memOk0 w1 _) (fun r hr=>⟨rfl,rfl⟩) (keysLt_all kr) [(.p _ false q1),(.p _ false q1),(.p _ false q1),(.p _ false q2),(.p _ false q2),(.p _ false q2),(.p _ false q3),(.p _ false q3),(.p _ false q3),(.p _ true q4)] [lV (Instr.loadAt 9 (.pointer (some ⟨p4,0+0,none⟩))) (.string ⟨(m.nm).toArray⟩) (fun w hC=>ldS (hC.cell0 m4)),lV (Instr.loadAt 9 (.pointer (some ⟨p5,0+0,none⟩))) (.string ⟨(k.nm).toArray⟩) (fun w hC=>ldS (hC.cell0 m5))] (VEx.r) (fun r=>[(6,(.bool true,0))]) [] (fun r=>[]) (fun r g=>by kernel_rfl) (fun r g=>by kernel_rfl) ?_
  intro r a2 w2 hr hS2 hK2 hM2
  exact vm_out (fn:=Tryz.f9) hS2 (.bool true) (fun g=>by kernel_rfl) ⟨rfl,hb.trans (hM2.below.bl0.mono hb.size)⟩
 | false =>
  have e1:m.nm≠k.nm:=by
   rw [str_beq] at q1
   simpa using q1
  obtain rfl:f=0:=by simpa using q2
  obtain rfl:g=0:=by simpa using q3
  obtain rfl:h=0:=by simpa using q4
  obtain rfl:=put_comm e1 h1 h2 h3 h4
  have hl:=put_len h2
  have HSm:∀ w',Chg [] w1 w'→Calls Tryz.prog 24 #[.slice bB B.length cB,.slice bD B.length cD] w' (RetV (.bool true) w'):=fun w' hc=>by
   have:=gnSame_any B B bB bD cB cD w' (hRB.chg hc) (hRD.chg hc) (by omega)
   rwa [decide_eq_true rfl] at this
  refine vm_fragA (X:=⟨w1,[]⟩) kr [(20,1),(20,3)] gqN (gqL.drop 16) (ne_nil kr) (fun r=>[(4,(.pointer (some ⟨p4,0,none⟩),0)),(5,(.pointer (some ⟨p5,0,none⟩),0)),(14,(.slice bB B.length cB,0)),(15,(.int .i64 0,0)),(17,(.int .i64 0,0)),(18,(.slice bD B.length cD,0)),(19,(.int .i64 0,0))]) (fun r=>[]) 0 (fun _=>(0,0)) (hS) (memOk0 w1 _) (fun r hr=>⟨rfl,rfl⟩) (keysLt_all kr) [(.p _ false q1),(.p _ false q1),(.p _ false q1),.f,.f,.f,.f,.f,.f,.f] [lV (Instr.loadAt 9 (.pointer (some ⟨p4,0+0,none⟩))) (.string ⟨(m.nm).toArray⟩) (fun w hC=>ldS (hC.cell0 m4)),lV (Instr.loadAt 9 (.pointer (some ⟨p5,0+0,none⟩))) (.string ⟨(k.nm).toArray⟩) (fun w hC=>ldS (hC.cell0 m5)),cW HSm] (VEx.r) (fun r=>[(6,(.bool true,0))]) [] (fun r=>[]) (fun r g=>by kernel_rfl) (fun r g=>by kernel_rfl) ?_
  intro r a2 w2 hr hS2 hK2 hM2
  exact vm_out (fn:=Tryz.f9) hS2 (.bool true) (fun g=>by kernel_rfl) ⟨rfl,hb.trans (hM2.below.bl0.mono hb.size)⟩
theorem gq_puts {a1:Act} {w1:World} (h1:putT l m=(A,0)) (hln:l.length≤110) (hlm:∀ y,y ∈ l→y.nm.length≤1000000) (hmm:m.nm.length≤1000000) (hkm:k.nm.length≤1000000) (hPp4:MAt w1 p4 0 m) (hPp5:MAt w1 p5 0 k) (hR:RdS w1 base (encM l)) (hRA:RdS w1 bA (encM A)) (hb:Below w.heap.size w w1) (hS1:St gqN [(0,(.slice base l.length c,0)),(4,(.pointer (some ⟨p4,0,none⟩),0)),(5,(.pointer (some ⟨p5,0,none⟩),0)),(7,(.slice bA A.length cA,0))] a1):wpL Tryz.prog (gqL.drop 13) (gqF w) a1 w1:=by
 have hlA:=put_len h1
 have hmA:∀ y,y ∈ A→y.nm.length≤1000000:=fun y hy=>(put_mem h1 y hy).elim (fun e=>by rw [e];exact hmm) (hlm y)
 obtain ⟨B,f,h2⟩:∃ B f,putT A k=(B,f):=⟨_,_,rfl⟩
 obtain ⟨C,g,h3⟩:∃ C g,putT l k=(C,g):=⟨_,_,rfl⟩
 obtain ⟨D,h,h4⟩:∃ D h,putT C m=(D,h):=⟨_,_,rfl⟩
 have hlC:=put_len h3
 have hmC:∀ y,y ∈ C→y.nm.length≤1000000:=fun y hy=>(put_mem h3 y hy).elim (fun e=>by rw [e];exact hkm) (hlm y)
 rw [show gqL.drop 13=gqL.getD 13 .skip :: gqL.getD 14 .skip :: gqL.getD 15 .skip :: gqL.drop 16 from by kernel_rfl]
 show (gqL.getD 13 .skip).wp Tryz.prog _ a1 w1
 refine wp_rg 17 gq17 kr ?_
 refine ops_win gq17 kr 0 2 (by omega) nle ?_
 refine vm_opsA (X:=⟨w1,[]⟩) [(17,1)] gqN 17 (opsW gq17 0 2) (fun r=>[(0,(.slice base l.length c,0)),(4,(.pointer (some ⟨p4,0,none⟩),0)),(5,(.pointer (some ⟨p5,0,none⟩),0)),(7,(.slice bA A.length cA,0))]) (fun r=>[]) 0 (fun _=>(0,0)) (hS1) (memOk0 w1 _) (fun r hr=>⟨rfl,rfl⟩) (keysLt_all kr) [] [lV (Instr.loadAt 23 (.pointer (some ⟨p5,0,none⟩))) (vMt k) (fun w hC=>ldM (hPp5.chg hC))] (fun r=>[(0,(.slice base l.length c,0)),(4,(.pointer (some ⟨p4,0,none⟩),0)),(5,(.pointer (some ⟨p5,0,none⟩),0)),(7,(.slice bA A.length cA,0)),(101,(.slice bA A.length cA,0)),(102,(vMt k,0))]) [] (fun r=>[]) (fun r g=>by kernel_rfl) (fun r g=>by kernel_rfl) ?_
 intro r a1x w1x hr hSx hKx hMx
 refine then_n ?_
 have hcx:Chg [] w1 w1x:=hMx.below
 have eA:=eval_St hSx 101 (.slice bA A.length cA) 0 (by simp)
 have eB:=eval_St hSx 102 (vMt k) 0 (by simp)
 refine ops_one gq17 kr 2 nle (f:=35) (args:=#[.slice bA A.length cA,vMt k]) (exec_call (xs:=#[.tmp 101,.tmp 102]) kr rfl (by
  rw [← eA,← eB]
  simp)) kr kr (by have:=gmPut_any A k bA cA w1x (hRA.chg hcx) (by omega) hmA hkm;rw [h2] at this;exact this) (by rintro e w' ⟨sv',rfl,-⟩;exact ⟨_,rfl⟩) ?_
 rintro v w1y ⟨sv,ev,hOy,hby⟩
 cases ev
 obtain ⟨bB,cB,rfl,hRB⟩:=hOy.rds
 rw [show (opAt gq17 2).dst=some 103 from by kernel_rfl]
 have hSy:=hSx.putR 103 (.tuple #[.slice bB B.length cB,.int .i64 f]) nle kr
 generalize a1x.put (some 103) _=a1y at *
 refine ops_win gq17 kr 3 gq17.length nle (Nat.le_refl _) ?_
 refine vm_opsA (X:=⟨w1y,[]⟩) [] gqN 17 (opsW gq17 3 gq17.length) (fun r=>[(0,(.slice base l.length c,0)),(4,(.pointer (some ⟨p4,0,none⟩),0)),(5,(.pointer (some ⟨p5,0,none⟩),0)),(7,(.slice bA A.length cA,0)),(103,(.tuple #[.slice bB B.length cB,.int .i64 f],0))]) (fun r=>[]) 0 (fun _=>(0,0)) ((hSy.sub (l':=[(0,(.slice base l.length c,0)),(4,(.pointer (some ⟨p4,0,none⟩),0)),(5,(.pointer (some ⟨p5,0,none⟩),0)),(7,(.slice bA A.length cA,0)),(103,(.tuple #[.slice bB B.length cB,.int .i64 f],0))]) (by simp))) (memOk0 w1y _) (fun r hr=>⟨rfl,rfl⟩) (keysLt_all kr) [] [] (fun r=>[(0,(.slice base l.length c,0)),(4,(.pointer (some ⟨p4,0,none⟩),0)),(5,(.pointer (some ⟨p5,0,none⟩),0)),(7,(.slice bA A.length cA,0)),(14,(.slice bB B.length cB,0)),(15,(.int .i64 (f),0))]) [] (fun r=>[]) (fun r g=>by kernel_rfl) (fun r g=>by kernel_rfl) ?_
 intro r a2 w2 hr hS2 hKz hMz
 refine then_n (ops_fin gq17 (then_n ?_))
 have hcz:Chg [] w1y w2:=hMz.below
 have hbw2:Below w1.heap.size w1 w2:=hcx.bl0.trans ((hby.trans (hcz.bl0.mono hby.size)).mono hcx.size)
 have hRB:=hRB.chg hcz
 have hR:=hR.bl hbw2
 have hRA:=hRA.bl hbw2
 have hPp4:=hPp4.bl hbw2
 have hPp5:=hPp5.bl hbw2
 have hb:=hb.trans (hbw2.mono hb.size)
 clear hMx hMz hr hKx hKz hSx hSy eA eB hcx hcz hby hOy
 show (gqL.getD 14 .skip).wp Tryz.prog _ a2 w2
 refine wp_rg 18 gq18 kr ?_
 refine ops_win gq18 kr 0 2 (by omega) nle ?_
 refine vm_opsA (X:=⟨w2,[]⟩) [(18,1)] gqN 18 (opsW gq18 0 2) (fun r=>[(0,(.slice base l.length c,0)),(4,(.pointer (some ⟨p4,0,none⟩),0)),(5,(.pointer (some ⟨p5,0,none⟩),0)),(7,(.slice bA A.length cA,0)),(14,(.slice bB B.length cB,0)),(15,(.int .i64 f,0))]) (fun r=>[]) 0 (fun _=>(0,0)) (hS2) (memOk0 w2 _) (fun r hr=>⟨rfl,rfl⟩) (keysLt_all kr) [] [lV (Instr.loadAt 23 (.pointer (some ⟨p5,0,none⟩))) (vMt k) (fun w hC=>ldM (hPp5.chg hC))] (fun r=>[(0,(.slice base l.length c,0)),(4,(.pointer (some ⟨p4,0,none⟩),0)),(5,(.pointer (some ⟨p5,0,none⟩),0)),(7,(.slice bA A.length cA,0)),(14,(.slice bB B.length cB,0)),(15,(.int .i64 f,0)),(107,(.slice base l.length c,0)),(108,(vMt k,0))]) [] (fun r=>[]) (fun r g=>by kernel_rfl) (fun r g=>by kernel_rfl) ?_
 intro r a2x w2x hr hSx hKx hMx
 refine then_n ?_
 have hcx:Chg [] w2 w2x:=hMx.below
 have eA:=eval_St hSx 107 (.slice base l.length c) 0 (by simp)
 have eB:=eval_St hSx 108 (vMt k) 0 (by simp)
 refine ops_one gq18 kr 2 nle (f:=35) (args:=#[.slice base l.length c,vMt k]) (exec_call (xs:=#[.tmp 107,.tmp 108]) kr rfl (by
  rw [← eA,← eB]
  simp)) kr kr (by have:=gmPut_any l k base c w2x (hR.chg hcx) (by omega) hlm hkm;rw [h3] at this;exact this) (by rintro e w' ⟨sv',rfl,-⟩;exact ⟨_,rfl⟩) ?_
 rintro v w2y ⟨sv,ev,hOy,hby⟩
 cases ev
 obtain ⟨bC,cC,rfl,hRC⟩:=hOy.rds
 rw [show (opAt gq18 2).dst=some 109 from by kernel_rfl]
 have hSy:=hSx.putR 109 (.tuple #[.slice bC C.length cC,.int .i64 g]) nle kr
 generalize a2x.put (some 109) _=a2y at *
 refine ops_win gq18 kr 3 gq18.length nle (Nat.le_refl _) ?_
 refine vm_opsA (X:=⟨w2y,[]⟩) [] gqN 18 (opsW gq18 3 gq18.length) (fun r=>[(0,(.slice base l.length c,0)),(4,(.pointer (some ⟨p4,0,none⟩),0)),(5,(.pointer (some ⟨p5,0,none⟩),0)),(7,(.slice bA A.length cA,0)),(14,(.slice bB B.length cB,0)),(15,(.int .i64 f,0)),(109,(.tuple #[.slice bC C.length cC,.int .i64 g],0))]) (fun r=>[]) 0 (fun _=>(0,0)) ((hSy.sub (l':=[(0,(.slice base l.length c,0)),(4,(.pointer (some ⟨p4,0,none⟩),0)),(5,(.pointer (some ⟨p5,0,none⟩),0)),(7,(.slice bA A.length cA,0)),(14,(.slice bB B.length cB,0)),(15,(.int .i64 f,0)),(109,(.tuple #[.slice bC C.length cC,.int .i64 g],0))]) (by simp))) (memOk0 w2y _) (fun r hr=>⟨rfl,rfl⟩) (keysLt_all kr) [] [] (fun r=>[(0,(.slice base l.length c,0)),(4,(.pointer (some ⟨p4,0,none⟩),0)),(5,(.pointer (some ⟨p5,0,none⟩),0)),(7,(.slice bA A.length cA,0)),(14,(.slice bB B.length cB,0)),(15,(.int .i64 f,0)),(16,(.slice bC C.length cC,0)),(17,(.int .i64 (g),0))]) [] (fun r=>[]) (fun r g=>by kernel_rfl) (fun r g=>by kernel_rfl) ?_
 intro r a3 w3 hr hS3 hKz hMz
 refine then_n (ops_fin gq18 (then_n ?_))
 have hcz:Chg [] w2y w3:=hMz.below
 have hbw3:Below w2.heap.size w2 w3:=hcx.bl0.trans ((hby.trans (hcz.bl0.mono hby.size)).mono hcx.size)
 have hRC:=hRC.chg hcz
 have hR:=hR.bl hbw3
 have hRA:=hRA.bl hbw3
 have hPp4:=hPp4.bl hbw3
 have hPp5:=hPp5.bl hbw3
 have hRB:=hRB.bl hbw3
 have hb:=hb.trans (hbw3.mono hb.size)
 clear hMx hMz hr hKx hKz hSx hSy eA eB hcx hcz hby hOy
 show (gqL.getD 15 .skip).wp Tryz.prog _ a3 w3
 refine wp_rg 19 gq19 kr ?_
 refine ops_win gq19 kr 0 2 (by omega) nle ?_
 refine vm_opsA (X:=⟨w3,[]⟩) [(19,1)] gqN 19 (opsW gq19 0 2) (fun r=>[(0,(.slice base l.length c,0)),(4,(.pointer (some ⟨p4,0,none⟩),0)),(5,(.pointer (some ⟨p5,0,none⟩),0)),(7,(.slice bA A.length cA,0)),(14,(.slice bB B.length cB,0)),(15,(.int .i64 f,0)),(16,(.slice bC C.length cC,0)),(17,(.int .i64 g,0))]) (fun r=>[]) 0 (fun _=>(0,0)) (hS3) (memOk0 w3 _) (fun r hr=>⟨rfl,rfl⟩) (keysLt_all kr) [] [lV (Instr.loadAt 23 (.pointer (some ⟨p4,0,none⟩))) (vMt m) (fun w hC=>ldM (hPp4.chg hC))] (fun r=>[(0,(.slice base l.length c,0)),(4,(.pointer (some ⟨p4,0,none⟩),0)),(5,(.pointer (some ⟨p5,0,none⟩),0)),(7,(.slice bA A.length cA,0)),(14,(.slice bB B.length cB,0)),(15,(.int .i64 f,0)),(16,(.slice bC C.length cC,0)),(17,(.int .i64 g,0)),(113,(.slice bC C.length cC,0)),(114,(vMt m,0))]) [] (fun r=>[]) (fun r g=>by kernel_rfl) (fun r g=>by kernel_rfl) ?_
 intro r a3x w3x hr hSx hKx hMx
 refine then_n ?_
 have hcx:Chg [] w3 w3x:=hMx.below
 have eA:=eval_St hSx 113 (.slice bC C.length cC) 0 (by simp)
 have eB:=eval_St hSx 114 (vMt m) 0 (by simp)
 refine ops_one gq19 kr 2 nle (f:=35) (args:=#[.slice bC C.length cC,vMt m]) (exec_call (xs:=#[.tmp 113,.tmp 114]) kr rfl (by
  rw [← eA,← eB]
  simp)) kr kr (by have:=gmPut_any C m bC cC w3x (hRC.chg hcx) (by omega) hmC hmm;rw [h4] at this;exact this) (by rintro e w' ⟨sv',rfl,-⟩;exact ⟨_,rfl⟩) ?_
 rintro v w3y ⟨sv,ev,hOy,hby⟩
 cases ev
 obtain ⟨bD,cD,rfl,hRD⟩:=hOy.rds
 rw [show (opAt gq19 2).dst=some 115 from by kernel_rfl]
 have hSy:=hSx.putR 115 (.tuple #[.slice bD D.length cD,.int .i64 h]) nle kr
 generalize a3x.put (some 115) _=a3y at *
 refine ops_win gq19 kr 3 gq19.length nle (Nat.le_refl _) ?_
 refine vm_opsA (X:=⟨w3y,[]⟩) [] gqN 19 (opsW gq19 3 gq19.length) (fun r=>[(0,(.slice base l.length c,0)),(4,(.pointer (some ⟨p4,0,none⟩),0)),(5,(.pointer (some ⟨p5,0,none⟩),0)),(7,(.slice bA A.length cA,0)),(14,(.slice bB B.length cB,0)),(15,(.int .i64 f,0)),(16,(.slice bC C.length cC,0)),(17,(.int .i64 g,0)),(115,(.tuple #[.slice bD D.length cD,.int .i64 h],0))]) (fun r=>[]) 0 (fun _=>(0,0)) ((hSy.sub (l':=[(0,(.slice base l.length c,0)),(4,(.pointer (some ⟨p4,0,none⟩),0)),(5,(.pointer (some ⟨p5,0,none⟩),0)),(7,(.slice bA A.length cA,0)),(14,(.slice bB B.length cB,0)),(15,(.int .i64 f,0)),(16,(.slice bC C.length cC,0)),(17,(.int .i64 g,0)),(115,(.tuple #[.slice bD D.length cD,.int .i64 h],0))]) (by simp))) (memOk0 w3y _) (fun r hr=>⟨rfl,rfl⟩) (keysLt_all kr) [] [] (fun r=>[(0,(.slice base l.length c,0)),(4,(.pointer (some ⟨p4,0,none⟩),0)),(5,(.pointer (some ⟨p5,0,none⟩),0)),(7,(.slice bA A.length cA,0)),(14,(.slice bB B.length cB,0)),(15,(.int .i64 f,0)),(16,(.slice bC C.length cC,0)),(17,(.int .i64 g,0)),(18,(.slice bD D.length cD,0)),(19,(.int .i64 (h),0))]) [] (fun r=>[]) (fun r g=>by kernel_rfl) (fun r g=>by kernel_rfl) ?_
 intro r a4 w4 hr hS4 hKz hMz
 refine then_n (ops_fin gq19 (then_n ?_))
 have hcz:Chg [] w3y w4:=hMz.below
 have hbw4:Below w3.heap.size w3 w4:=hcx.bl0.trans ((hby.trans (hcz.bl0.mono hby.size)).mono hcx.size)
 have hRD:=hRD.chg hcz
 have hPp4:=hPp4.bl hbw4
 have hPp5:=hPp5.bl hbw4
 have hRB:=hRB.bl hbw4
 have hb:=hb.trans (hbw4.mono hb.size)
 clear hMx hMz hr hKx hKz hSx hSy eA eB hcx hcz hby hOy
 exact gq_last (cB:=cB) (cD:=cD) h1 h2 h3 h4 hPp4 hPp5 hRB hRD hb (hS4.re' (by simp))
noncomputable def gqI:Code:=cI (cI gqB)
theorem gq_loop {a1:Act} {w1:World} (h1:putT l m=(A,0)) (hln:l.length≤110) (hlm:∀ y,y ∈ l→y.nm.length≤1000000) (hmm:m.nm.length≤1000000) (hkm:k.nm.length≤1000000) (hPp4:MAt w1 p4 0 m) (hPp5:MAt w1 p5 0 k) (hR:RdS w1 base (encM l)) (hRA:RdS w1 bA (encM A)) (hb:Below w.heap.size w w1) (hS1:St gqN [(0,(.slice base l.length c,0)),(4,(.pointer (some ⟨p4,0,none⟩),0)),(5,(.pointer (some ⟨p5,0,none⟩),0)),(7,(.slice bA A.length cA,0)),(11,(.int .i64 ((0:Nat):Int),0))] a1):wpL Tryz.prog (gqL.drop 12) (gqF w) a1 w1:=by
 have hlA:=put_len h1
 rw [show gqL.drop 12=gqB :: gqL.drop 13 from by kernel_rfl]
 show gqB.wp Tryz.prog _ a1 w1
 refine wp_for 0 kr kr (fun n a' w'=>∃ i,l.length - i=n∧i≤l.length∧St gqN [(0,(.slice base l.length c,0)),(4,(.pointer (some ⟨p4,0,none⟩),0)),(5,(.pointer (some ⟨p5,0,none⟩),0)),(7,(.slice bA A.length cA,0)),(11,(.int .i64 (i:Int),0))] a'∧Below w1.heap.size w1 w') (l.length - 0) ⟨0,rfl,Nat.zero_le _,hS1,Below.refl _ _⟩ ?_
 clear hS1
 rintro n a2 w2 ⟨i,rfl,hi,hS2,hB2⟩
 refine wpL_one ?_
 have hP4:=hPp4.bl hB2
 have hP5:=hPp5.bl hB2
 have hR2:=hR.bl hB2
 have hRA2:=hRA.bl hB2
 have m4:w2.cell? ⟨p4,0+0,none⟩=some (.string ⟨m.nm.toArray⟩):=hP4.c0
 rcases Nat.lt_or_ge i l.length with hil | hil
 ·have g1:decide ((i:Int)<((l.length:Nat):Int))=true:=decide_eq_true (by omega)
  obtain ⟨bl,o,rfl,hA⟩:=hR2.at i hil
  have hAi:=hA i hil
  have hfi:=find_put h1 i hil
  have v1:IntKind.i64.wrap ((i:Int)+1)=((i+1:Nat):Int):=by rw [wr64 (by omega) (by omega)];omega
  generalize l[i]=x at *
  have HD:∀ w',Chg [] w2 w'→Calls Tryz.prog 33 #[.slice bA A.length cA,.string ⟨x.nm.toArray⟩] w' (RetV (.tuple #[vMt (oneT m x),.bool true]) w'):=fun w' hc=>by
   have:=gmFind_any A x.nm bA cA w' (hRA2.chg hc) (by omega)
   rw [hfi] at this
   exact this
  by_cases e:x.nm=m.nm
  ·have q1:((ByteArray.mk x.nm.toArray).toList != (ByteArray.mk m.nm.toArray).toList)=false:=by rw [bne,str_beq];simp [e]
   generalize oneT m x=y at *
   refine vm_fragA (X:=⟨w2,[]⟩) kr [(14,3),(14,5),(15,5),(15,7),(15,9),(13,1)] gqN [gqI] (ne_nil kr) (fun r=>[(0,(.slice (some ⟨bl,o,none⟩) l.length c,0)),(4,(.pointer (some ⟨p4,0,none⟩),0)),(5,(.pointer (some ⟨p5,0,none⟩),0)),(7,(.slice bA A.length cA,0)),(11,(.int .i64 (i:Int),0))]) (fun r=>[]) 0 (fun _=>(0,0)) (hS2) (memOk0 w2 _) (fun r hr=>⟨rfl,rfl⟩) (keysLt_all kr) [(.p _ true g1),.f,.f,.f,.f,.f,.f,.f,.f,.f,(.p _ false q1),(.p _ false q1),(.p _ false q1),(.p _ false q1),(.p _ false q1),(.p _ false q1),.f,(.p _ false q1),.f,.f] [lV (Instr.indexAt 48 (.slice (some ⟨bl,o,none⟩) (l.length) (c)) (.int .i64 ((i:Int)))) (.pointer (some ⟨bl,o+i * 4,none⟩)) (fun w hC=>ixM i w (by omega) (by omega) (by omega)),lV (Instr.loadAt 9 (.pointer (some ⟨bl,o+i * 4+0,none⟩))) (.string ⟨(x.nm).toArray⟩) (fun w hC=>ldN (hAi.chg hC)),cW HD,lV (Instr.indexAt 48 (.slice (some ⟨bl,o,none⟩) (l.length) (c)) (.int .i64 ((i:Int)))) (.pointer (some ⟨bl,o+i * 4,none⟩)) (fun w hC=>ixM i w (by omega) (by omega) (by omega)),lV (Instr.loadAt 9 (.pointer (some ⟨bl,o+i * 4+0,none⟩))) (.string ⟨(x.nm).toArray⟩) (fun w hC=>ldN (hAi.chg hC)),lV (Instr.loadAt 9 (.pointer (some ⟨p4,0+0,none⟩))) (.string ⟨(m.nm).toArray⟩) (fun w hC=>ldS (hC.cell0 m4)),lE .i64 ((((i:Int)):Int)+((1):Int)) (((i+1:Nat):Int)) (v1)] (VEx.n) (fun r=>[(0,(.slice (some ⟨bl,o,none⟩) l.length c,0)),(4,(.pointer (some ⟨p4,0,none⟩),0)),(5,(.pointer (some ⟨p5,0,none⟩),0)),(7,(.slice bA A.length cA,0)),(11,(.int .i64 (((i+1:Nat):Int)),0))]) [] (fun r=>[]) (fun r g=>by kernel_rfl) (fun r g=>by kernel_rfl) ?_
   intro r a3 w3 hr hS3 hK3 hM3
   exact ⟨l.length - (i+1),by omega,i+1,rfl,by omega,hS3,hB2.trans (hM3.below.bl0.mono hB2.size)⟩
  ·have q1:((ByteArray.mk x.nm.toArray).toList != (ByteArray.mk m.nm.toArray).toList)=true:=by rw [bne,str_beq];simpa using e
   have hy:oneT m x=x:=if_neg e
   rw [hy] at HD
   refine vm_fragA (X:=⟨w2,[]⟩) kr [(14,3),(14,5),(15,5),(15,7),(15,9),(15,15),(15,16),(15,17),(13,1)] gqN [gqI] (ne_nil kr) (fun r=>[(0,(.slice (some ⟨bl,o,none⟩) l.length c,0)),(4,(.pointer (some ⟨p4,0,none⟩),0)),(5,(.pointer (some ⟨p5,0,none⟩),0)),(7,(.slice bA A.length cA,0)),(11,(.int .i64 (i:Int),0))]) (fun r=>[]) 0 (fun _=>(0,0)) (hS2) (memOk0 w2 _) (fun r hr=>⟨rfl,rfl⟩) (keysLt_all kr) [(.p _ true g1),.f,.f,.f,.f,.f,.f,.f,.f,.f,(.p _ true q1),(.p _ true q1),(.p _ true q1),(.p _ true q1),(.p _ true q1),(.p _ true q1),.f,(.p _ true q1),.f,.f] [lV (Instr.indexAt 48 (.slice (some ⟨bl,o,none⟩) (l.length) (c)) (.int .i64 ((i:Int)))) (.pointer (some ⟨bl,o+i * 4,none⟩)) (fun w hC=>ixM i w (by omega) (by omega) (by omega)),lV (Instr.loadAt 9 (.pointer (some ⟨bl,o+i * 4+0,none⟩))) (.string ⟨(x.nm).toArray⟩) (fun w hC=>ldN (hAi.chg hC)),cW HD,lV (Instr.indexAt 48 (.slice (some ⟨bl,o,none⟩) (l.length) (c)) (.int .i64 ((i:Int)))) (.pointer (some ⟨bl,o+i * 4,none⟩)) (fun w hC=>ixM i w (by omega) (by omega) (by omega)),lV (Instr.loadAt 9 (.pointer (some ⟨bl,o+i * 4+0,none⟩))) (.string ⟨(x.nm).toArray⟩) (fun w hC=>ldN (hAi.chg hC)),lV (Instr.loadAt 9 (.pointer (some ⟨p4,0+0,none⟩))) (.string ⟨(m.nm).toArray⟩) (fun w hC=>ldS (hC.cell0 m4)),lV (Instr.indexAt 48 (.slice (some ⟨bl,o,none⟩) (l.length) (c)) (.int .i64 ((i:Int)))) (.pointer (some ⟨bl,o+i * 4,none⟩)) (fun w hC=>ixM i w (by omega) (by omega) (by omega)),lV (Instr.loadAt 23 (.pointer (some ⟨bl,o+i * 4,none⟩))) (vMt x) (fun w hC=>ldM (hAi.chg hC)),lV _ (.bool false) (fun w hC=>neM_same (x) (.tmp 92) (.tmp 96) w),lE .i64 ((((i:Int)):Int)+((1):Int)) (((i+1:Nat):Int)) (v1)] (VEx.n) (fun r=>[(0,(.slice (some ⟨bl,o,none⟩) l.length c,0)),(4,(.pointer (some ⟨p4,0,none⟩),0)),(5,(.pointer (some ⟨p5,0,none⟩),0)),(7,(.slice bA A.length cA,0)),(11,(.int .i64 (((i+1:Nat):Int)),0))]) [] (fun r=>[]) (fun r g=>by kernel_rfl) (fun r g=>by kernel_rfl) ?_
   intro r a3 w3 hr hS3 hK3 hM3
   exact ⟨l.length - (i+1),by omega,i+1,rfl,by omega,hS3,hB2.trans (hM3.below.bl0.mono hB2.size)⟩
 ·have g1:decide ((i:Int)<((l.length:Nat):Int))=false:=decide_eq_false (by omega)
  obtain rfl:i=l.length:=by omega
  refine vm_fragA (X:=⟨w2,[]⟩) kr [] gqN [gqI] (ne_nil kr) (fun r=>[(0,(.slice base l.length c,0)),(4,(.pointer (some ⟨p4,0,none⟩),0)),(5,(.pointer (some ⟨p5,0,none⟩),0)),(7,(.slice bA A.length cA,0)),(11,(.int .i64 ((l.length:Nat):Int),0))]) (fun r=>[]) 0 (fun _=>(0,0)) (hS2) (memOk0 w2 _) (fun r hr=>⟨rfl,rfl⟩) (keysLt_all kr) [(.p _ false g1)] [] (VEx.x 0) (fun r=>[(0,(.slice base l.length c,0)),(4,(.pointer (some ⟨p4,0,none⟩),0)),(5,(.pointer (some ⟨p5,0,none⟩),0)),(7,(.slice bA A.length cA,0))]) [] (fun r=>[]) (fun r g=>by kernel_rfl) (fun r g=>by kernel_rfl) ?_
  intro r a3 w3 hr hS3 hK3 hM3
  have hc3:Chg [] w2 w3:=hM3.below
  refine exit_n (then_n ?_)
  exact gq_puts h1 hln hlm hmm hkm (hP4.chg hc3) (hP5.chg hc3) (hR2.chg hc3) (hRA2.chg hc3) ((hb.trans (hB2.mono hb.size)).trans (hc3.bl0.mono (Nat.le_trans hb.size hB2.size))) hS3
theorem gq_mid {e:Int} {a1:Act} {w1:World} (h1:putT l m=(A,e)) (hln:l.length≤110) (hlm:∀ y,y ∈ l→y.nm.length≤1000000) (hmm:m.nm.length≤1000000) (hkm:k.nm.length≤1000000) (hPp4:MAt w1 p4 0 m) (hPp5:MAt w1 p5 0 k) (hR:RdS w1 base (encM l)) (hRA:RdS w1 bA (encM A)) (hb:Below w.heap.size w w1) (hS1:St gqN [(0,(.slice base l.length c,0)),(4,(.pointer (some ⟨p4,0,none⟩),0)),(5,(.pointer (some ⟨p5,0,none⟩),0)),(7,(.slice bA A.length cA,0)),(8,(.int .i64 e,0))] a1):wpL Tryz.prog (gqL.drop 6) (gqF w) a1 w1:=by
 have m4:w1.cell? ⟨p4,0+0,none⟩=some (.string ⟨m.nm.toArray⟩):=hPp4.c0
 cases q1:((e:Int) != (0:Int)) with
 | true =>
  refine vm_fragA (X:=⟨w1,[]⟩) kr [] gqN (gqL.drop 6) (ne_nil kr) (fun r=>[(0,(.slice base l.length c,0)),(4,(.pointer (some ⟨p4,0,none⟩),0)),(5,(.pointer (some ⟨p5,0,none⟩),0)),(7,(.slice bA A.length cA,0)),(8,(.int .i64 e,0))]) (fun r=>[]) 0 (fun _=>(0,0)) (hS1) (memOk0 w1 _) (fun r hr=>⟨rfl,rfl⟩) (keysLt_all kr) [(.p _ true q1)] [] (VEx.r) (fun r=>[(6,(.bool true,0))]) [] (fun r=>[]) (fun r g=>by kernel_rfl) (fun r g=>by kernel_rfl) ?_
  intro r a2 w2 hr hS2 hK2 hM2
  exact vm_out (fn:=Tryz.f9) hS2 (.bool true) (fun g=>by kernel_rfl) ⟨rfl,hb.trans (hM2.below.bl0.mono hb.size)⟩
 | false =>
  obtain rfl:e=0:=by simpa using q1
  have hlA:=put_len h1
  have hmA:∀ y,y ∈ A→y.nm.length≤1000000:=fun y hy=>(put_mem h1 y hy).elim (fun e=>by rw [e];exact hmm) (hlm y)
  have HD:∀ w',Chg [] w1 w'→Calls Tryz.prog 33 #[.slice bA A.length cA,.string ⟨m.nm.toArray⟩] w' (RetV (.tuple #[vMt m,.bool true]) w'):=fun w' hc=>by
   have:=gmFind_any A m.nm bA cA w' (hRA.chg hc) (by omega)
   rw [show findT A m.nm=some m by rw [(put_ok h1).2.2.1];exact find_ins m l] at this
   exact this
  have HV:∀ w',Chg [] w1 w'→Calls Tryz.prog 37 #[.slice bA A.length cA] w' (RetV (.bool true) w'):=fun w' hc=>by
   have:=gmValid_any A bA cA w' (hRA.chg hc) (by omega) hmA
   rwa [put_valid h1] at this
  refine wp_part 6 ?_
  refine vm_fragA (X:=⟨w1,[]⟩) kr [(8,2),(9,9),(9,10)] gqN ((gqL.drop 6).take 6) (ne_nil kr) (fun r=>[(0,(.slice base l.length c,0)),(4,(.pointer (some ⟨p4,0,none⟩),0)),(5,(.pointer (some ⟨p5,0,none⟩),0)),(7,(.slice bA A.length cA,0)),(8,(.int .i64 0,0))]) (fun r=>[]) 0 (fun _=>(0,0)) (hS1) (memOk0 w1 _) (fun r hr=>⟨rfl,rfl⟩) (keysLt_all kr) [.f,.f,.f,.f,.f,.f,.f,.f,.f] [lV (Instr.loadAt 9 (.pointer (some ⟨p4,0+0,none⟩))) (.string ⟨(m.nm).toArray⟩) (fun w hC=>ldS (hC.cell0 m4)),cW HD,cW HV,lV (Instr.loadAt 23 (.pointer (some ⟨p4,0,none⟩))) (vMt m) (fun w hC=>ldM (hPp4.chg hC)),lV _ (.bool false) (fun w hC=>neM_same (m) (.tmp 60) (.tmp 61) w)] (VEx.n) (fun r=>[(0,(.slice base l.length c,0)),(4,(.pointer (some ⟨p4,0,none⟩),0)),(5,(.pointer (some ⟨p5,0,none⟩),0)),(7,(.slice bA A.length cA,0)),(11,(.int .i64 (((0:Nat):Int)),0))]) [] (fun r=>[]) (fun r g=>by kernel_rfl) (fun r g=>by kernel_rfl) ?_
  intro r a2 w2 hr hS2 hK2 hM2
  have hc2:Chg [] w1 w2:=hM2.below
  refine then_n ?_
  show wpL Tryz.prog ((gqL.drop 6).drop 6) _ a2 w2
  rw [show (gqL.drop 6).drop 6=gqL.drop 12 from by kernel_rfl]
  exact gq_loop h1 hln hlm hmm hkm (hPp4.chg hc2) (hPp5.chg hc2) (hR.chg hc2) (hRA.chg hc2) (hb.trans (hc2.bl0.mono hb.size)) hS2
end
theorem GP_all (l:List Mt) (m k:Mt) (base:Option Addr) (c:Nat) (w:World) (hG:GW w) (hR:RdS w base (encM l)) (hn:l.length≤9223372036854775807):Calls Tryz.prog 9 #[.slice base l.length c,vMt m,vMt k] w (RetV (.bool true) w):=by
 refine vm_start [.slice base l.length c,vMt m,vMt k] (fn:=Tryz.f9) (c:=gqC) kr kr nle ?_
 intro a hS
 have hS:St gqN [(0,(.slice base l.length c,0)),(1,(vMt m,0)),(2,(vMt k,0))] a:=hS
 have HAW:∀ w',Chg [] w w'→Calls Tryz.prog 10 #[] w' (RetV (.bool true) w'):=fun w' hc=>gaawake_any w' (hG.below hc.bl0)
 have HF:∀ w',Chg [] w w'→Calls Tryz.prog 18 #[.slice base l.length c] w' (RetV (.bool (fewM l)) w'):=fun w' hc=>gnFew_any l base c w' (hR.bl hc.bl0) hn
 cases hf:fewM l with
 | false =>
  rw [hf] at HF
  refine wpL_one ?_
  refine vm_fragA (X:=⟨w,[]⟩) kr [] gqN [gqC] (ne_nil kr) (fun r=>[(0,(.slice base l.length c,0)),(1,(vMt m,0)),(2,(vMt k,0))]) (fun r=>[]) 0 (fun _=>(0,0)) (hS) (memOk0 w _) (fun r hr=>⟨rfl,rfl⟩) (keysLt_all kr) [.f,.t,.t,.t,.t,.t,.t,.t,.t,.t,.t,.t] [cW HAW,cW HF] (VEx.r) (fun r=>[(6,(.bool true,0))]) [] (fun r=>[]) (fun r g=>by kernel_rfl) (fun r g=>by kernel_rfl) ?_
  intro r a1 w1 hr hS1 hK1 hM1
  exact vm_out (fn:=Tryz.f9) hS1 (.bool true) (fun g=>by kernel_rfl) ⟨rfl,hM1.below.bl0⟩
 | true =>
 rw [hf] at HF
 obtain ⟨hl1,hl2⟩:=few_of' hf
 have z1:((ByteArray.mk m.nm.toArray).size:Int)=(m.nm.length:Int):=by rw [str_size]
 have z2:((ByteArray.mk k.nm.toArray).size:Int)=(k.nm.length:Int):=by rw [str_size]
 cases g1:decide ((40:Int)<((ByteArray.mk m.nm.toArray).size:Int)) with
 | true =>
  refine wpL_one ?_
  refine vm_fragA (X:=⟨w,[]⟩) kr [] gqN [gqC] (ne_nil kr) (fun r=>[(0,(.slice base l.length c,0)),(1,(vMt m,0)),(2,(vMt k,0))]) (fun r=>[]) 0 (fun _=>(0,0)) (hS) (memOk0 w _) (fun r hr=>⟨rfl,rfl⟩) (keysLt_all kr) [.f,.f,.f,.f,.f,.f,(.p _ true g1),(.p _ true g1),(.p _ true g1),(.p _ true g1),(.p _ true g1),.t] [cW HAW,cW HF] (VEx.r) (fun r=>[(6,(.bool true,0))]) [] (fun r=>[]) (fun r g=>by kernel_rfl) (fun r g=>by kernel_rfl) ?_
  intro r a1 w1 hr hS1 hK1 hM1
  exact vm_out (fn:=Tryz.f9) hS1 (.bool true) (fun g=>by kernel_rfl) ⟨rfl,hM1.below.bl0⟩
 | false =>
 cases g2:decide ((40:Int)<((ByteArray.mk k.nm.toArray).size:Int)) with
 | true =>
  refine wpL_one ?_
  refine vm_fragA (X:=⟨w,[]⟩) kr [] gqN [gqC] (ne_nil kr) (fun r=>[(0,(.slice base l.length c,0)),(1,(vMt m,0)),(2,(vMt k,0))]) (fun r=>[]) 0 (fun _=>(0,0)) (hS) (memOk0 w _) (fun r hr=>⟨rfl,rfl⟩) (keysLt_all kr) [.f,.f,.f,.f,.f,.f,(.p _ false g1),(.p _ false g1),(.p _ false g1),(.p _ false g1),(.p _ false g1),(.p _ true g2)] [cW HAW,cW HF] (VEx.r) (fun r=>[(6,(.bool true,0))]) [] (fun r=>[]) (fun r g=>by kernel_rfl) (fun r g=>by kernel_rfl) ?_
  intro r a1 w1 hr hS1 hK1 hM1
  exact vm_out (fn:=Tryz.f9) hS1 (.bool true) (fun g=>by kernel_rfl) ⟨rfl,hM1.below.bl0⟩
 | false =>
 have k1:=of_decide_eq_false g1
 have k2:=of_decide_eq_false g2
 have hmm:m.nm.length≤1000000:=by omega
 have hkm:k.nm.length≤1000000:=by omega
 have hlm:∀ m,m ∈ l→m.nm.length≤1000000:=fun m hm=>Nat.le_trans (hl2 m hm) (by decide)
 refine wp_flat gqC ?_
 refine wp_part 5 ?_
 refine vm_fragA (X:=⟨w,[]⟩) kr [] gqN ((flat gqC).take 5) (ne_nil kr) (fun r=>[(0,(.slice base l.length c,0)),(1,(vMt m,0)),(2,(vMt k,0))]) (fun r=>[]) 0 (fun _=>(0,0)) (hS) (memOk0 w _) (fun r hr=>⟨rfl,rfl⟩) (keysLt_all kr) [.f,.f,.f,.f,.f,.f,(.p _ false g1),(.p _ false g1),(.p _ false g1),(.p _ false g1),(.p _ false g1),(.p _ false g2)] [cW HAW,cW HF] (VEx.n) (fun r=>[(0,(.slice base l.length c,0)),(4,(.pointer (some ⟨(r 0).1,0,none⟩),1)),(5,(.pointer (some ⟨(r 1).1,0,none⟩),2))]) [] (fun r=>[(0,(23,(cellsM m).toArray)),(1,(23,(cellsM k).toArray))]) (fun r g=>by kernel_rfl) (fun r g=>by kernel_rfl) ?_
 intro r a1 w1 hr hS1 hK1 hM1
 obtain ⟨p4,hp4⟩:∃ p,p=(r 0).1:=⟨_,rfl⟩
 have hPp4:MAt w1 p4 0 m:=by rw [hp4];exact mat_at (hM1.has 0 _ rfl).1
 obtain ⟨p5,hp5⟩:∃ p,p=(r 1).1:=⟨_,rfl⟩
 have hPp5:MAt w1 p5 0 k:=by rw [hp5];exact mat_at (hM1.has 1 _ rfl).1
 have hS1:St gqN [(0,(.slice base l.length c,0)),(4,(.pointer (some ⟨p4,0,none⟩),0)),(5,(.pointer (some ⟨p5,0,none⟩),0))] a1:=by rw [hp4,hp5];exact hS1.re' (by simp)
 have hb:Below w.heap.size w w1:=hM1.below.bl0
 have hR:=hR.chg hM1.below
 clear hM1 hr hK1 HAW HF hS hp4 hp5
 obtain ⟨A,e,h1⟩:∃ A e,putT l m=(A,e):=⟨_,_,rfl⟩
 refine then_n ?_
 rw [show (flat gqC).drop 5=gqL.getD 5 .skip :: gqL.drop 6 from by kernel_rfl]
 show (gqL.getD 5 .skip).wp Tryz.prog _ a1 w1
 refine wp_rg 5 gq5 kr ?_
 refine ops_win gq5 kr 0 2 (by omega) nle ?_
 refine vm_opsA (X:=⟨w1,[]⟩) [(5,1)] gqN 5 (opsW gq5 0 2) (fun r=>[(0,(.slice base l.length c,0)),(4,(.pointer (some ⟨p4,0,none⟩),0)),(5,(.pointer (some ⟨p5,0,none⟩),0))]) (fun r=>[]) 0 (fun _=>(0,0)) (hS1) (memOk0 w1 _) (fun r hr=>⟨rfl,rfl⟩) (keysLt_all kr) [] [lV (Instr.loadAt 23 (.pointer (some ⟨p4,0,none⟩))) (vMt m) (fun w hC=>ldM (hPp4.chg hC))] (fun r=>[(0,(.slice base l.length c,0)),(4,(.pointer (some ⟨p4,0,none⟩),0)),(5,(.pointer (some ⟨p5,0,none⟩),0)),(38,(.slice base l.length c,0)),(39,(vMt m,0))]) [] (fun r=>[]) (fun r g=>by kernel_rfl) (fun r g=>by kernel_rfl) ?_
 intro r a1x w1x hr hSx hKx hMx
 refine then_n ?_
 have hcx:Chg [] w1 w1x:=hMx.below
 have eA:=eval_St hSx 38 (.slice base l.length c) 0 (by simp)
 have eB:=eval_St hSx 39 (vMt m) 0 (by simp)
 refine ops_one gq5 kr 2 nle (f:=35) (args:=#[.slice base l.length c,vMt m]) (exec_call (xs:=#[.tmp 38,.tmp 39]) kr rfl (by
  rw [← eA,← eB]
  simp)) kr kr (by have:=gmPut_any l m base c w1x (hR.chg hcx) (by omega) hlm hmm;rw [h1] at this;exact this) (by rintro e w' ⟨sv',rfl,-⟩;exact ⟨_,rfl⟩) ?_
 rintro v w1y ⟨sv,ev,hOy,hby⟩
 cases ev
 obtain ⟨bA,cA,rfl,hRA⟩:=hOy.rds
 rw [show (opAt gq5 2).dst=some 40 from by kernel_rfl]
 have hSy:=hSx.putR 40 (.tuple #[.slice bA A.length cA,.int .i64 e]) nle kr
 generalize a1x.put (some 40) _=a1y at *
 refine ops_win gq5 kr 3 gq5.length nle (Nat.le_refl _) ?_
 refine vm_opsA (X:=⟨w1y,[]⟩) [] gqN 5 (opsW gq5 3 gq5.length) (fun r=>[(0,(.slice base l.length c,0)),(4,(.pointer (some ⟨p4,0,none⟩),0)),(5,(.pointer (some ⟨p5,0,none⟩),0)),(40,(.tuple #[.slice bA A.length cA,.int .i64 e],0))]) (fun r=>[]) 0 (fun _=>(0,0)) ((hSy.sub (l':=[(0,(.slice base l.length c,0)),(4,(.pointer (some ⟨p4,0,none⟩),0)),(5,(.pointer (some ⟨p5,0,none⟩),0)),(40,(.tuple #[.slice bA A.length cA,.int .i64 e],0))]) (by simp))) (memOk0 w1y _) (fun r hr=>⟨rfl,rfl⟩) (keysLt_all kr) [] [] (fun r=>[(0,(.slice base l.length c,0)),(4,(.pointer (some ⟨p4,0,none⟩),0)),(5,(.pointer (some ⟨p5,0,none⟩),0)),(7,(.slice bA A.length cA,0)),(8,(.int .i64 (e),0))]) [] (fun r=>[]) (fun r g=>by kernel_rfl) (fun r g=>by kernel_rfl) ?_
 intro r a2 w2 hr hS2 hKz hMz
 refine then_n (ops_fin gq5 (then_n ?_))
 have hcz:Chg [] w1y w2:=hMz.below
 have hbw2:Below w1.heap.size w1 w2:=hcx.bl0.trans ((hby.trans (hcz.bl0.mono hby.size)).mono hcx.size)
 have hRA:=hRA.chg hcz
 have hR:=hR.bl hbw2
 have hPp4:=hPp4.bl hbw2
 have hPp5:=hPp5.bl hbw2
 have hb:=hb.trans (hbw2.mono hb.size)
 clear hMx hMz hr hKx hKz hSx hSy eA eB hcx hcz hby hOy
 exact gq_mid h1 (by omega) hlm hmm hkm hPp4 hPp5 hR hRA hb hS2
end Go.Proofs.YtlhddcingeneaaaGreatDoor
