/- GemstoneIdentify: the law. -/
import Derived.Test.YtlhddcingeneaaaGreatDoorPIY
namespace Go.Proofs.YtlhddcingeneaaaGreatDoor
open Go Go.RowKit
set_option maxRecDepth 100000
set_option linter.unusedVariables false
set_option linter.unusedSimpArgs false
theorem gconvb (n:Nat) (h:n<256) (w:World):(convert 5 3 (.int .u8 (n:Int))).run Tryz.prog w = .ok (.int .i64 (n:Int)) w:=by
 have:IntKind.i64.wrap (n:Int)=n:=wr64 (by omega) (by omega)
 go_simp
 try rw [this]
noncomputable def ghN:Nat:=Tryz.f6.ntmps
noncomputable def ghC:Code:=Tryz.f6.body.getD .skip
noncomputable def gh0:Code:=cB 0 ghC
noncomputable def ghF (w:World):Exit→Act→World→Prop:=bodyPost Tryz.prog Tryz.f6 (RetV (.bool true) w)
noncomputable def ghT (w:World):Act→World→Prop:=fun a w'=>(cAt 0 ghC).wp Tryz.prog (Exit.then (fun a w'=>wpL Tryz.prog (cPost 0 ghC) (ghF w) a w') (ghF w)) a w'
theorem gi_tail (A C:List (List UInt8)) (hAC:A.Sublist C) (hn:C.length≤1000000) (baseA baseC:Option Addr) (cA cC:Nat) (w:World) (a1:Act) (w1:World) (hS1:St ghN [(7,(.slice baseA A.length cA,0)),(11,(.slice baseC C.length cC,0)),(12,(.int .i64 0,0)),(13,(.int .i64 ((0:Nat):Int),0)),(14,(.int .i64 ((0:Nat):Int),0))] a1) (hRA:RdS w1 baseA (encS A)) (hRC:RdS w1 baseC (encS C)) (hb:Below w.heap.size w w1):ghT w a1 w1:=by
 unfold ghT
 have hlen:=hAC.length_le
 refine wp_for 0 kr kr (fun n a' w'=>∃ i k,C.length - i=n∧i≤C.length∧k≤A.length∧(A.drop k).Sublist (C.drop i)∧St ghN [(7,(.slice baseA A.length cA,0)),(11,(.slice baseC C.length cC,0)),(12,(.int .i64 0,0)),(13,(.int .i64 (k:Int),0)),(14,(.int .i64 (i:Int),0))] a'∧Chg [] w1 w') (C.length - 0) ⟨0,0,rfl,by omega,by omega,hAC,hS1,Chg.refl _ _⟩ ?_
 clear hS1
 rintro n a2 w2 ⟨i,k,rfl,hi,hk,hsub,hS2,hM2⟩
 refine wpL_one ?_
 have hend:∀ a3 w3,St ghN [(7,(.slice baseA A.length cA,0)),(11,(.slice baseC C.length cC,0)),(12,(.int .i64 0,0)),(13,(.int .i64 ((A.length:Nat):Int),0)),(14,(.int .i64 (i:Int),0))] a3→Chg [] w2 w3→wpL Tryz.prog (cPost 0 ghC) (ghF w) a3 w3:=by
  intro a3 w3 hS3 hM3
  have h5:(((A.length:Nat):Int) == ((A.length:Nat):Int))=true:=by simp
  refine vm_piece (E0:=[(7,(.slice baseA A.length cA,0)),(11,(.slice baseC C.length cC,0)),(12,(.int .i64 (0),0)),(13,(.int .i64 (((A.length:Nat):Int)),0)),(14,(.int .i64 ((i:Int)),0))]) kr [(18,6)] ghN (cPost 0 ghC) kr hS3 [.t,.t,.t,.t,.t] [lP (.bool (((A.length:Nat):Int) == ((A.length:Nat):Int))) (.bool true) (congrArg Value.bool h5)] (VEx.r) [(6,(.bool true,0))] [] (hQ:=?_)
  intro a4 w4 hS4 hK4 hM4
  have hb4:=((hM2.trans hM3).trans hM4).bl0
  exact vm_out (fn:=Tryz.f6) hS4 (.bool true) (fun g=>by kernel_rfl) ⟨rfl,hb.trans (hb4.mono hb.size)⟩
 rcases Nat.lt_or_ge i C.length with hil | hil
 ·have h1:decide ((i:Int)<((C.length:Nat):Int))=true:=decide_eq_true (by omega)
  rcases Nat.lt_or_ge k A.length with hkl | hkl
  ·have h2:decide ((k:Int)<((A.length:Nat):Int))=true:=decide_eq_true (by omega)
   obtain ⟨bC,oC,rfl,-,hB⟩:=hRC.atS i hil
   obtain ⟨bA,oA,rfl,-,hA⟩:=hRA.atS k hkl
   have hAj:=hA k hkl
   have hBj:=hB i hil
   rw [List.drop_eq_getElem_cons hil,List.drop_eq_getElem_cons hkl] at hsub
   have hA2:=List.drop_eq_getElem_cons hkl
   have v1:IntKind.i64.wrap ((i:Int)+1)=((i+1:Nat):Int):=by rw [wr64 (by omega) (by omega)];omega
   have v2:IntKind.i64.wrap ((k:Int)+1)=((k+1:Nat):Int):=by rw [wr64 (by omega) (by omega)];omega
   generalize A[k]=y at *
   generalize C[i]=x at *
   have hbq:∀ {b:Bool},((ByteArray.mk x.toArray).toList == (ByteArray.mk y.toArray).toList)=b→(x == y)=b:=fun h=>by rw [← str_beq x y];exact h
   have hyes:x=y→(A.drop (k+1)).Sublist (C.drop (i+1)):=fun e=>by
    subst e
    exact List.cons_sublist_cons.1 hsub
   have hno:x≠y→(A.drop k).Sublist (C.drop (i+1)):=fun e=>by
    rw [hA2]
    cases hsub with
    | cons _ h=>exact h
    | cons_cons _ h=>exact absurd rfl e
   cases q0:(((ByteArray.mk (x).toArray).toList == (ByteArray.mk (y).toArray).toList)) with
   | true =>
    refine vm_piece (E0:=[(7,(.slice (some ⟨bA,oA,none⟩) A.length cA,0)),(11,(.slice (some ⟨bC,oC,none⟩) C.length cC,0)),(12,(.int .i64 (0),0)),(13,(.int .i64 ((k:Int)),0)),(14,(.int .i64 ((i:Int)),0))]) kr [(16,2),(16,3),(16,6),(16,7),(17,1),(15,1)] ghN [cI (cI gh0)] kr hS2 [(.p _ true h1),(.p _ true h1),(.p _ true h1),(.p _ true h1),(.p _ true h1),(.p _ true h2),dT q0] [lV (Instr.indexAt 49 (.slice (some ⟨bC,oC,none⟩) (C.length) (cC)) (.int .i64 ((i:Int)))) (.pointer (some ⟨bC,oC+i,none⟩)) (fun w hC=>ixS i w (by omega) (by omega) (by omega)),lV (Instr.loadAt 9 (.pointer (some ⟨bC,oC+i,none⟩))) (.string ⟨(x).toArray⟩) (fun w hC=>ldS ((hM2.trans hC).cell0 hBj)),lV (Instr.indexAt 49 (.slice (some ⟨bA,oA,none⟩) (A.length) (cA)) (.int .i64 ((k:Int)))) (.pointer (some ⟨bA,oA+k,none⟩)) (fun w hC=>ixS k w (by omega) (by omega) (by omega)),lV (Instr.loadAt 9 (.pointer (some ⟨bA,oA+k,none⟩))) (.string ⟨(y).toArray⟩) (fun w hC=>ldS ((hM2.trans hC).cell0 hAj)),lE .i64 ((((k:Int)):Int)+((1):Int)) (((k+1:Nat):Int)) (v2),lE .i64 ((((i:Int)):Int)+((1):Int)) (((i+1:Nat):Int)) (v1)] (VEx.n) [(7,(.slice (some ⟨bA,oA,none⟩) A.length cA,0)),(11,(.slice (some ⟨bC,oC,none⟩) C.length cC,0)),(12,(.int .i64 (0),0)),(13,(.int .i64 (((k+1:Nat):Int)),0)),(14,(.int .i64 (((i+1:Nat):Int)),0))] [] (hQ:=?_)
    intro a3 w3 hS3 hK3 hM3
    exact ⟨C.length - (i+1),by omega,i+1,k+1,rfl,by omega,by omega,hyes (by have:=hbq q0;simpa using this),hS3,hM2.trans hM3⟩
   | false =>
    refine vm_piece (E0:=[(7,(.slice (some ⟨bA,oA,none⟩) A.length cA,0)),(11,(.slice (some ⟨bC,oC,none⟩) C.length cC,0)),(12,(.int .i64 (0),0)),(13,(.int .i64 ((k:Int)),0)),(14,(.int .i64 ((i:Int)),0))]) kr [(16,2),(16,3),(16,6),(16,7),(15,1)] ghN [cI (cI gh0)] kr hS2 [(.p _ true h1),(.p _ true h1),(.p _ true h1),(.p _ true h1),(.p _ true h1),(.p _ true h2),dF q0] [lV (Instr.indexAt 49 (.slice (some ⟨bC,oC,none⟩) (C.length) (cC)) (.int .i64 ((i:Int)))) (.pointer (some ⟨bC,oC+i,none⟩)) (fun w hC=>ixS i w (by omega) (by omega) (by omega)),lV (Instr.loadAt 9 (.pointer (some ⟨bC,oC+i,none⟩))) (.string ⟨(x).toArray⟩) (fun w hC=>ldS ((hM2.trans hC).cell0 hBj)),lV (Instr.indexAt 49 (.slice (some ⟨bA,oA,none⟩) (A.length) (cA)) (.int .i64 ((k:Int)))) (.pointer (some ⟨bA,oA+k,none⟩)) (fun w hC=>ixS k w (by omega) (by omega) (by omega)),lV (Instr.loadAt 9 (.pointer (some ⟨bA,oA+k,none⟩))) (.string ⟨(y).toArray⟩) (fun w hC=>ldS ((hM2.trans hC).cell0 hAj)),lE .i64 ((((i:Int)):Int)+((1):Int)) (((i+1:Nat):Int)) (v1)] (VEx.n) [(7,(.slice (some ⟨bA,oA,none⟩) A.length cA,0)),(11,(.slice (some ⟨bC,oC,none⟩) C.length cC,0)),(12,(.int .i64 (0),0)),(13,(.int .i64 ((k:Int)),0)),(14,(.int .i64 (((i+1:Nat):Int)),0))] [] (hQ:=?_)
    intro a3 w3 hS3 hK3 hM3
    exact ⟨C.length - (i+1),by omega,i+1,k,rfl,by omega,by omega,hno (by have:=hbq q0;simpa using this),hS3,hM2.trans hM3⟩
  ·obtain rfl:k=A.length:=by omega
   have h2:decide (((A.length:Nat):Int)<((A.length:Nat):Int))=false:=decide_eq_false (by omega)
   refine vm_piece (E0:=[(7,(.slice baseA A.length cA,0)),(11,(.slice baseC C.length cC,0)),(12,(.int .i64 (0),0)),(13,(.int .i64 (((A.length:Nat):Int)),0)),(14,(.int .i64 ((i:Int)),0))]) kr [] ghN [cI (cI gh0)] kr hS2 [(.p _ true h1),(.p _ true h1),(.p _ true h1),(.p _ true h1),(.p _ true h1),(.p _ false h2)] [] (VEx.x 0) [(7,(.slice baseA A.length cA,0)),(11,(.slice baseC C.length cC,0)),(12,(.int .i64 (0),0)),(13,(.int .i64 (((A.length:Nat):Int)),0)),(14,(.int .i64 ((i:Int)),0))] [] (hQ:=?_)
   intro a3 w3 hS3 hK3 hM3
   exact exit_n (then_n (hend a3 w3 hS3 hM3))
 ·have h1:decide ((i:Int)<((C.length:Nat):Int))=false:=decide_eq_false (by omega)
  obtain rfl:k=A.length:=by
   rw [List.drop_eq_nil_of_le hil] at hsub
   have:=List.drop_eq_nil_iff.1 (List.sublist_nil.1 hsub)
   omega
  refine vm_piece (E0:=[(7,(.slice baseA A.length cA,0)),(11,(.slice baseC C.length cC,0)),(12,(.int .i64 (0),0)),(13,(.int .i64 (((A.length:Nat):Int)),0)),(14,(.int .i64 ((i:Int)),0))]) kr [] ghN [cI (cI gh0)] kr hS2 [(.p _ false h1),(.p _ false h1),(.p _ false h1),(.p _ false h1),(.p _ false h1),.f] [] (VEx.x 0) [(7,(.slice baseA A.length cA,0)),(11,(.slice baseC C.length cC,0)),(12,(.int .i64 (0),0)),(13,(.int .i64 (((A.length:Nat):Int)),0)),(14,(.int .i64 ((i:Int)),0))] [] (hQ:=?_)
  intro a3 w3 hS3 hK3 hM3
  exact exit_n (then_n (hend a3 w3 hS3 hM3))
theorem gi_mid (l:List Mt) (d0 d1 i0 i1:Int) (more:Nat) (hm:more<256) (A:List (List UInt8)) (hA:A=idsT d0 d1 i0 i1 l) (hl:fewM l=true) (hv:validT l=true) (hd:decide (d1<d0)=false) (hi:decide (i1<i0)=false) (hd1:-9223372036854775808≤d1) (hi0:i0≤9223372036854775807) (base baseA baseB:Option Addr) (c cA cB b4:Nat) (w:World) (a1:Act) (w1:World)
  (hS1:St ghN [(0,(.slice base l.length c,0)),(2,(.int .u8 (more:Int),0)),(4,(.pointer (some ⟨b4,0,none⟩),0)),(7,(.slice baseA A.length cA,0)),(8,(.int .i64 0,0)),(9,(.slice baseB A.length cB,0)),(10,(.int .i64 0,0))] a1) (hR:RdS w1 base (encM l)) (hRA:RdS w1 baseA (encS A)) (hRB:RdS w1 baseB (encS A))
  (e0:w1.cell? ⟨b4,0,none⟩=some (.int .i64 d0)) (e1:w1.cell? ⟨b4,1,none⟩=some (.int .i64 d1)) (e2:w1.cell? ⟨b4,2,none⟩=some (.int .i64 i0)) (e3:w1.cell? ⟨b4,3,none⟩=some (.int .i64 i1)) (hb:Below w.heap.size w w1) :
  wpL Tryz.prog ((cPre 0 ghC).drop 5) (Exit.then (ghT w) (ghF w)) a1 w1:=by
 obtain ⟨hl1,hl2⟩:=few_of hl
 have hAl:A.length≤110:=by rw [hA];exact Nat.le_trans (ids_len _ _ _ _ _) hl1
 have hSame:∀ w',Chg [] w1 w'→Calls Tryz.prog 23 #[.slice baseA A.length cA,.slice baseB A.length cB] w' (RetV (.bool true) w'):=fun w' hc=>by
  have:=gnSameTexts_any A A baseA baseB cA cB w' (hRA.bl hc.bl0) (hRB.bl hc.bl0) (by omega)
  rwa [decide_eq_true rfl] at this
 have CK:=fun w=>gconvb more hm w
 by_cases g1:1000000<d1
 ·have g1':decide ((1000000:Int)<d1)=true:=decide_eq_true g1
  refine vm_fragA (X:=⟨w1,[]⟩) kr [(9,5)] ghN ((cPre 0 ghC).drop 5) (ne_nil kr) (fun r=>[(0,(.slice base l.length c,0)),(2,(.int .u8 (more:Int),0)),(4,(.pointer (some ⟨b4,0,none⟩),0)),(7,(.slice baseA A.length cA,0)),(8,(.int .i64 (0),0)),(9,(.slice baseB A.length cB,0)),(10,(.int .i64 (0),0))]) (fun r=>[]) 0 (fun _=>(0,0)) (hS1) (memOk0 w1 _) (fun r hr=>⟨rfl,rfl⟩) (keysLt_all kr) [.f,.f,.f,.f,.f,.f,.f,.f,.f,.f,(.p _ true g1'),(.p _ true g1'),(.p _ true g1'),(.p _ true g1'),(.p _ true g1'),.t] [cW hSame,lV (Instr.loadAt 3 (.pointer (some ⟨b4,0+0+1,none⟩))) (.int .i64 (d1)) (fun w hC=>ldI (hC.cell0 e1))] (VEx.r) (fun r=>[(6,(.bool true,0))]) [] (fun r=>[]) (fun r g=>by kernel_rfl) (fun r g=>by kernel_rfl) ?_
  intro r a3 w3 hr hS3 hK3 hM3
  exact vm_out (fn:=Tryz.f6) hS3 (.bool true) (fun g=>by kernel_rfl) ⟨rfl,hb.trans (hM3.below.bl0.mono hb.size)⟩
 have g1':decide ((1000000:Int)<d1)=false:=decide_eq_false g1
 by_cases g2:i0 < -1000000
 ·have g2':decide (i0<(-1000000:Int))=true:=decide_eq_true g2
  refine vm_fragA (X:=⟨w1,[]⟩) kr [(9,5),(9,11)] ghN ((cPre 0 ghC).drop 5) (ne_nil kr) (fun r=>[(0,(.slice base l.length c,0)),(2,(.int .u8 (more:Int),0)),(4,(.pointer (some ⟨b4,0,none⟩),0)),(7,(.slice baseA A.length cA,0)),(8,(.int .i64 (0),0)),(9,(.slice baseB A.length cB,0)),(10,(.int .i64 (0),0))]) (fun r=>[]) 0 (fun _=>(0,0)) (hS1) (memOk0 w1 _) (fun r hr=>⟨rfl,rfl⟩) (keysLt_all kr) [.f,.f,.f,.f,.f,.f,.f,.f,.f,.f,(.p _ false g1'),(.p _ false g1'),(.p _ false g1'),(.p _ false g1'),(.p _ false g1'),(.p _ true g2')] [cW hSame,lV (Instr.loadAt 3 (.pointer (some ⟨b4,0+0+1,none⟩))) (.int .i64 (d1)) (fun w hC=>ldI (hC.cell0 e1)),lV (Instr.loadAt 3 (.pointer (some ⟨b4,0+2+0,none⟩))) (.int .i64 (i0)) (fun w hC=>ldI (hC.cell0 e2))] (VEx.r) (fun r=>[(6,(.bool true,0))]) [] (fun r=>[]) (fun r g=>by kernel_rfl) (fun r g=>by kernel_rfl) ?_
  intro r a3 w3 hr hS3 hK3 hM3
  exact vm_out (fn:=Tryz.f6) hS3 (.bool true) (fun g=>by kernel_rfl) ⟨rfl,hb.trans (hM3.below.bl0.mono hb.size)⟩
 have g2':decide (i0<(-1000000:Int))=false:=decide_eq_false g2
 have v1:IntKind.i64.wrap (d1+(more:Int))=d1+(more:Int):=wr64 (by omega) (by omega)
 have v2:IntKind.i64.wrap (i0 - (more:Int))=i0 - (more:Int):=wr64 (by omega) (by omega)
 have hsub:A.Sublist (idsT d0 (d1+(more:Int)) (i0 - (more:Int)) i1 l):=by rw [hA];exact ids_sub d0 d1 i0 i1 more (by omega) l
 have hI:∀ w',Chg [] w1 w'→Calls Tryz.prog 25 #[.slice base l.length c,rgV d0 (d1+(more:Int)),rgV (i0 - (more:Int)) i1] w' (RetId (idsT d0 (d1+(more:Int)) (i0 - (more:Int)) i1 l,0) w'):=fun w' hc=>by
  have:=gmIdentify_any l d0 (d1+(more:Int)) (i0 - (more:Int)) i1 base c w' (hR.bl hc.bl0) (by omega) (fun m hm=>Nat.le_trans (hl2 m hm) (by decide))
  unfold identT at this
  rwa [if_pos hv,if_neg (by
   have:=of_decide_eq_false hd
   have:=of_decide_eq_false hi
   simp only [Bool.or_eq_true,decide_eq_true_eq];omega)] at this
 have hCl:(idsT d0 (d1+(more:Int)) (i0 - (more:Int)) i1 l).length≤110:=Nat.le_trans (ids_len _ _ _ _ _) hl1
 generalize idsT d0 (d1+(more:Int)) (i0 - (more:Int)) i1 l=C at *
 by_cases hC0:C = []
 ·subst hC0
  have hI2:=fun w' hc=>id_nil (hI w' hc)
  refine vm_fragA (X:=⟨w1,[]⟩) kr [(9,5),(9,11),(11,3),(11,6),(11,8),(11,9),(11,13),(11,15),(11,16),(11,19)] ghN ((cPre 0 ghC).drop 5) (ne_nil kr) (fun r=>[(0,(.slice base l.length c,0)),(2,(.int .u8 (more:Int),0)),(4,(.pointer (some ⟨b4,0,none⟩),0)),(7,(.slice baseA A.length cA,0)),(8,(.int .i64 (0),0)),(9,(.slice baseB A.length cB,0)),(10,(.int .i64 (0),0))]) (fun r=>[]) 0 (fun _=>(0,0)) (hS1) (memOk0 w1 _) (fun r hr=>⟨rfl,rfl⟩) (keysLt_all kr) [.f,.f,.f,.f,.f,.f,.f,.f,.f,.f,(.p _ false g1'),(.p _ false g1'),(.p _ false g1'),(.p _ false g1'),(.p _ false g1'),(.p _ false g2')] [cW hSame,lV (Instr.loadAt 3 (.pointer (some ⟨b4,0+0+1,none⟩))) (.int .i64 (d1)) (fun w hC=>ldI (hC.cell0 e1)),lV (Instr.loadAt 3 (.pointer (some ⟨b4,0+2+0,none⟩))) (.int .i64 (i0)) (fun w hC=>ldI (hC.cell0 e2)),lV (Instr.loadAt 3 (.pointer (some ⟨b4,0+0+0,none⟩))) (.int .i64 (d0)) (fun w hC=>ldI (hC.cell0 e0)),lV (Instr.loadAt 3 (.pointer (some ⟨b4,0+0+1,none⟩))) (.int .i64 (d1)) (fun w hC=>ldI (hC.cell0 e1)),lV (convert 5 3 (.int .u8 (more:Int))) (.int .i64 (more:Int)) (fun w hC=>CK w),lE .i64 (((d1):Int)+(((more:Int)):Int)) (d1+(more:Int)) (v1),lV (Instr.loadAt 3 (.pointer (some ⟨b4,0+2+0,none⟩))) (.int .i64 (i0)) (fun w hC=>ldI (hC.cell0 e2)),lV (convert 5 3 (.int .u8 (more:Int))) (.int .i64 (more:Int)) (fun w hC=>CK w),lE .i64 (((i0):Int) - (((more:Int)):Int)) (i0 - (more:Int)) (v2),lV (Instr.loadAt 3 (.pointer (some ⟨b4,0+2+1,none⟩))) (.int .i64 (i1)) (fun w hC=>ldI (hC.cell0 e3)),cW hI2] (VEx.n) (fun r=>[(7,(.slice baseA A.length cA,0)),(11,(.slice none 0 0,0)),(12,(.int .i64 (0),0)),(13,(.int .i64 (((0:Nat):Int)),0)),(14,(.int .i64 (((0:Nat):Int)),0))]) [] (fun r=>[]) (fun r g=>by kernel_rfl) (fun r g=>by kernel_rfl) ?_
  intro r a3 w3 hr hS3 hK3 hM3
  exact gi_tail A [] hsub (by simp) baseA none cA 0 w a3 w3 (hS3.re rfl) (hRA.bl hM3.below.bl0) (.inl rfl) (hb.trans (hM3.below.bl0.mono hb.size))
 ·have hI2:=fun w' hc=>id_new hC0 (hI w' hc)
  refine vm_fragA (X:=⟨w1,[]⟩) kr [(9,5),(9,11),(11,3),(11,6),(11,8),(11,9),(11,13),(11,15),(11,16),(11,19)] ghN ((cPre 0 ghC).drop 5) (ne_nil kr) (fun r=>[(0,(.slice base l.length c,0)),(2,(.int .u8 (more:Int),0)),(4,(.pointer (some ⟨b4,0,none⟩),0)),(7,(.slice baseA A.length cA,0)),(8,(.int .i64 (0),0)),(9,(.slice baseB A.length cB,0)),(10,(.int .i64 (0),0))]) (fun r=>[]) 0 (fun _=>(0,0)) (hS1) (memOk0 w1 _) (fun r hr=>⟨rfl,rfl⟩) (keysLt_all kr) [.f,.f,.f,.f,.f,.f,.f,.f,.f,.f,(.p _ false g1'),(.p _ false g1'),(.p _ false g1'),(.p _ false g1'),(.p _ false g1'),(.p _ false g2')] [cW hSame,lV (Instr.loadAt 3 (.pointer (some ⟨b4,0+0+1,none⟩))) (.int .i64 (d1)) (fun w hC=>ldI (hC.cell0 e1)),lV (Instr.loadAt 3 (.pointer (some ⟨b4,0+2+0,none⟩))) (.int .i64 (i0)) (fun w hC=>ldI (hC.cell0 e2)),lV (Instr.loadAt 3 (.pointer (some ⟨b4,0+0+0,none⟩))) (.int .i64 (d0)) (fun w hC=>ldI (hC.cell0 e0)),lV (Instr.loadAt 3 (.pointer (some ⟨b4,0+0+1,none⟩))) (.int .i64 (d1)) (fun w hC=>ldI (hC.cell0 e1)),lV (convert 5 3 (.int .u8 (more:Int))) (.int .i64 (more:Int)) (fun w hC=>CK w),lE .i64 (((d1):Int)+(((more:Int)):Int)) (d1+(more:Int)) (v1),lV (Instr.loadAt 3 (.pointer (some ⟨b4,0+2+0,none⟩))) (.int .i64 (i0)) (fun w hC=>ldI (hC.cell0 e2)),lV (convert 5 3 (.int .u8 (more:Int))) (.int .i64 (more:Int)) (fun w hC=>CK w),lE .i64 (((i0):Int) - (((more:Int)):Int)) (i0 - (more:Int)) (v2),lV (Instr.loadAt 3 (.pointer (some ⟨b4,0+2+1,none⟩))) (.int .i64 (i1)) (fun w hC=>ldI (hC.cell0 e3)),cS 9 (fun m=>(encS C++zc zSc m).toArray) (fun n m=>.tuple #[.slice (some ⟨n,0,none⟩) C.length (C.length+m),.int .i64 0]) hI2] (VEx.n) (fun r=>[(7,(.slice baseA A.length cA,0)),(11,(.slice (some ⟨(r 44).1,0,none⟩) (C.length) (C.length+(r 44).2),45)),(12,(.int .i64 (0),0)),(13,(.int .i64 (((0:Nat):Int)),0)),(14,(.int .i64 (((0:Nat):Int)),0))]) [] (fun r=>[(44,(9,(encS C++zc zSc (r 44).2).toArray))]) (fun r g=>by kernel_rfl) (fun r g=>by kernel_rfl) ?_
  intro r a3 w3 hr hS3 hK3 hM3
  have hh:=(hM3.has 44 _ rfl).1
  exact gi_tail A C hsub (by omega) baseA (some ⟨(r 44).1,0,none⟩) cA (C.length+(r 44).2) w a3 w3 (hS3.re rfl) (hRA.bl hM3.below.bl0) (rds_hc hh) (hb.trans (hM3.below.bl0.mono hb.size))
theorem GI_all (l:List Mt) (d0 d1 i0 i1:Int) (more:Nat) (hm:more<256) (hd1:-9223372036854775808≤d1) (hi0:i0≤9223372036854775807) (base:Option Addr) (c:Nat) (w:World) (hG:GW w) (hR:RdS w base (encM l)) (hn:l.length≤9223372036854775807):Calls Tryz.prog 6 #[.slice base l.length c,.agg #[.int .i64 d0,.int .i64 d1,.int .i64 i0,.int .i64 i1],.int .u8 (more:Int)] w (RetV (.bool true) w):=by
 refine vm_start [.slice base l.length c,.agg #[.int .i64 d0,.int .i64 d1,.int .i64 i0,.int .i64 i1],.int .u8 (more:Int)] (fn:=Tryz.f6) (c:=ghC) kr kr nle ?_
 intro a hS
 have hS:St ghN [(0,(.slice base l.length c,0)),(1,(.agg #[.int .i64 d0,.int .i64 d1,.int .i64 i0,.int .i64 i1],0)),(2,(.int .u8 (more:Int),0))] a:=hS
 have HAW:∀ w',Chg [] w w'→Calls Tryz.prog 10 #[] w' (RetV (.bool true) w'):=fun w' hc=>gaawake_any w' (hG.below hc.bl0)
 have HF:∀ w',Chg [] w w'→Calls Tryz.prog 18 #[.slice base l.length c] w' (RetV (.bool (fewM l)) w'):=fun w' hc=>gnFew_any l base c w' (hR.bl hc.bl0) hn
 cases hf:fewM l with
 | false =>
  rw [hf] at HF
  refine wpL_one ?_
  refine vm_fragA (X:=⟨w,[]⟩) kr [] ghN [ghC] (ne_nil kr) (fun r=>[(0,(.slice base l.length c,0)),(1,(.agg #[.int .i64 d0,.int .i64 d1,.int .i64 i0,.int .i64 i1],0)),(2,(.int .u8 (more:Int),0))]) (fun r=>[]) 0 (fun _=>(0,0)) (hS) (memOk0 w _) (fun r hr=>⟨rfl,rfl⟩) (keysLt_all kr) [.f,.t] [cW HAW,cW HF] (VEx.r) (fun r=>[(6,(.bool true,0))]) [] (fun r=>[]) (fun r g=>by kernel_rfl) (fun r g=>by kernel_rfl) ?_
  intro r a1 w1 hr hS1 hK1 hM1
  exact vm_out (fn:=Tryz.f6) hS1 (.bool true) (fun g=>by kernel_rfl) ⟨rfl,hM1.below.bl0⟩
 | true =>
 rw [hf] at HF
 obtain ⟨hl1,hl2⟩:=few_of hf
 have hl3:∀ m,m ∈ l→m.nm.length≤1000000:=fun m hm=>Nat.le_trans (hl2 m hm) (by decide)
 have H1:∀ w',Chg [] w w'→Calls Tryz.prog 25 #[.slice base l.length c,rgV d0 d1,rgV i0 i1] w' (RetId (identT d0 d1 i0 i1 l) w'):=fun w' hc=>gmIdentify_any l d0 d1 i0 i1 base c w' (hR.bl hc.bl0) (by omega) hl3
 have H2:∀ w',Chg [] w w'→Calls Tryz.prog 26 #[.slice base l.length c,rgV d0 d1,rgV i0 i1] w' (RetId (identT d0 d1 i0 i1 l) w'):=fun w' hc=>gnIdentify_any l d0 d1 i0 i1 base c w' (hR.bl hc.bl0) (by omega) hl3
 have HS:∀ w,Calls Tryz.prog 23 #[.slice none 0 0,.slice none 0 0] w (RetV (.bool true) w):=fun w=>by
  have:=gnSameTexts_any [] [] none none 0 0 w (.inl rfl) (.inl rfl) (by decide)
  rwa [decide_eq_true rfl] at this
 have hcase:identT d0 d1 i0 i1 l=([],1)∨identT d0 d1 i0 i1 l=([],2)∨(validT l=true∧decide (d1<d0)=false∧decide (i1<i0)=false∧identT d0 d1 i0 i1 l=(idsT d0 d1 i0 i1 l,0)):=by
  unfold identT
  cases hv:validT l with
  | false=>left;rw [if_neg (by decide)]
  | true =>
   rw [if_pos rfl]
   cases h1:decide (d1<d0) with
   | true=>right;left;rw [if_pos (by simp)]
   | false =>
    cases h2:decide (i1<i0) with
    | true=>right;left;rw [if_pos (by simp)]
    | false=>right;right;exact ⟨rfl,rfl,rfl,if_neg (by decide)⟩
 rcases hcase with he | he | ⟨hv,hd,hi,he⟩
 ·rw [he] at H1 H2
  have H1:=fun w' hc=>id_nil (H1 w' hc)
  have H2:=fun w' hc=>id_nil (H2 w' hc)
  refine wpL_one ?_
  refine vm_fragA (X:=⟨w,[]⟩) kr [] ghN [ghC] (ne_nil kr) (fun r=>[(0,(.slice base l.length c,0)),(1,(.agg #[.int .i64 d0,.int .i64 d1,.int .i64 i0,.int .i64 i1],0)),(2,(.int .u8 (more:Int),0))]) (fun r=>[]) 0 (fun _=>(0,0)) (hS) (memOk0 w _) (fun r hr=>⟨rfl,rfl⟩) (keysLt_all kr) [.f,.f,.f,.f,.f,.f,.f,.t,.t,.t,.t,.t,.t,.t,.t,.t,.t,.t] [cW HAW,cW HF,cW H1,cW H2,cV HS] (VEx.r) (fun r=>[(6,(.bool true,0))]) [] (fun r=>[]) (fun r g=>by kernel_rfl) (fun r g=>by kernel_rfl) ?_
  intro r a1 w1 hr hS1 hK1 hM1
  exact vm_out (fn:=Tryz.f6) hS1 (.bool true) (fun g=>by kernel_rfl) ⟨rfl,hM1.below.bl0⟩
 ·rw [he] at H1 H2
  have H1:=fun w' hc=>id_nil (H1 w' hc)
  have H2:=fun w' hc=>id_nil (H2 w' hc)
  refine wpL_one ?_
  refine vm_fragA (X:=⟨w,[]⟩) kr [] ghN [ghC] (ne_nil kr) (fun r=>[(0,(.slice base l.length c,0)),(1,(.agg #[.int .i64 d0,.int .i64 d1,.int .i64 i0,.int .i64 i1],0)),(2,(.int .u8 (more:Int),0))]) (fun r=>[]) 0 (fun _=>(0,0)) (hS) (memOk0 w _) (fun r hr=>⟨rfl,rfl⟩) (keysLt_all kr) [.f,.f,.f,.f,.f,.f,.f,.t,.t,.t,.t,.t,.t,.t,.t,.t,.t,.t] [cW HAW,cW HF,cW H1,cW H2,cV HS] (VEx.r) (fun r=>[(6,(.bool true,0))]) [] (fun r=>[]) (fun r g=>by kernel_rfl) (fun r g=>by kernel_rfl) ?_
  intro r a1 w1 hr hS1 hK1 hM1
  exact vm_out (fn:=Tryz.f6) hS1 (.bool true) (fun g=>by kernel_rfl) ⟨rfl,hM1.below.bl0⟩
 rw [he] at H1 H2
 obtain ⟨A,hA⟩:∃ A,A=idsT d0 d1 i0 i1 l:=⟨_,rfl⟩
 rw [← hA] at H1 H2
 refine wp_cut 0 kr (wp_part 5 ?_)
 by_cases hA0:A = []
 ·have H1:=fun w' hc=>id_nil (by have:=H1 w' hc;rwa [hA0] at this)
  have H2:=fun w' hc=>id_nil (by have:=H2 w' hc;rwa [hA0] at this)
  refine vm_fragA (X:=⟨w,[]⟩) kr [] ghN ((cPre 0 ghC).take 5) (ne_nil kr) (fun r=>[(0,(.slice base l.length c,0)),(1,(.agg #[.int .i64 d0,.int .i64 d1,.int .i64 i0,.int .i64 i1],0)),(2,(.int .u8 (more:Int),0))]) (fun r=>[]) 0 (fun _=>(0,0)) (hS) (memOk0 w _) (fun r hr=>⟨rfl,rfl⟩) (keysLt_all kr) [.f,.f] [cW HAW,cW HF,cW H1,cW H2] (VEx.n) (fun r=>[(0,(.slice base l.length c,0)),(2,(.int .u8 (more:Int),0)),(4,(.pointer (some ⟨(r 0).1,0,none⟩),1)),(7,(.slice none 0 0,0)),(8,(.int .i64 (0),0)),(9,(.slice none 0 0,0)),(10,(.int .i64 (0),0))]) [] (fun r=>[(0,(59,#[.int .i64 d0,.int .i64 d1,.int .i64 i0,.int .i64 i1]))]) (fun r g=>by kernel_rfl) (fun r g=>by kernel_rfl) ?_
  intro r a1 w1 hr hS1 hK1 hM1
  have hh:=(hM1.has 0 _ rfl).1
  have hb1:=hM1.below.bl0
  have hRA:RdS w1 none (encS A):=.inl (by rw [hA0];rfl)
  exact then_n (gi_mid l d0 d1 i0 i1 more hm A hA hf hv hd hi hd1 hi0 base none none c 0 0 (r 0).1 w a1 w1 (hS1.re (by rw [hA0];rfl)) (hR.bl hb1) hRA hRA (hh.cells rfl) (hh.cells rfl) (hh.cells rfl) (hh.cells rfl) hb1)
 ·have H1:=fun w' hc=>id_new hA0 (H1 w' hc)
  have H2:=fun w' hc=>id_new hA0 (H2 w' hc)
  refine vm_fragA (X:=⟨w,[]⟩) kr [] ghN ((cPre 0 ghC).take 5) (ne_nil kr) (fun r=>[(0,(.slice base l.length c,0)),(1,(.agg #[.int .i64 d0,.int .i64 d1,.int .i64 i0,.int .i64 i1],0)),(2,(.int .u8 (more:Int),0))]) (fun r=>[]) 0 (fun _=>(0,0)) (hS) (memOk0 w _) (fun r hr=>⟨rfl,rfl⟩) (keysLt_all kr) [.f,.f] [cW HAW,cW HF,cS 9 (fun m=>(encS A++zc zSc m).toArray) (fun n m=>.tuple #[.slice (some ⟨n,0,none⟩) A.length (A.length+m),.int .i64 0]) H1,cS 9 (fun m=>(encS A++zc zSc m).toArray) (fun n m=>.tuple #[.slice (some ⟨n,0,none⟩) A.length (A.length+m),.int .i64 0]) H2] (VEx.n) (fun r=>[(0,(.slice base l.length c,0)),(2,(.int .u8 (more:Int),0)),(4,(.pointer (some ⟨(r 0).1,0,none⟩),1)),(7,(.slice (some ⟨(r 12).1,0,none⟩) (A.length) (A.length+(r 12).2),13)),(8,(.int .i64 (0),0)),(9,(.slice (some ⟨(r 23).1,0,none⟩) (A.length) (A.length+(r 23).2),24)),(10,(.int .i64 (0),0))]) [] (fun r=>[(0,(59,#[.int .i64 d0,.int .i64 d1,.int .i64 i0,.int .i64 i1])),(12,(9,(encS A++zc zSc (r 12).2).toArray)),(23,(9,(encS A++zc zSc (r 23).2).toArray))]) (fun r g=>by kernel_rfl) (fun r g=>by kernel_rfl) ?_
  intro r a1 w1 hr hS1 hK1 hM1
  have hh:=(hM1.has 0 _ rfl).1
  have hb1:=hM1.below.bl0
  exact then_n (gi_mid l d0 d1 i0 i1 more hm A hA hf hv hd hi hd1 hi0 base (some ⟨(r 12).1,0,none⟩) (some ⟨(r 23).1,0,none⟩) c (A.length+(r 12).2) (A.length+(r 23).2) (r 0).1 w a1 w1 (hS1.re rfl) (hR.bl hb1) (rds_hc (hM1.has 12 _ rfl).1) (rds_hc (hM1.has 23 _ rfl).1) (hh.cells rfl) (hh.cells rfl) (hh.cells rfl) (hh.cells rfl) hb1)
end Go.Proofs.YtlhddcingeneaaaGreatDoor
