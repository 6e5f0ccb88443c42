/- Tables: validity (reference); materials by their names. -/
import Derived.Test.YtlhddcingeneaaaGreatDoorPSGemL
import Derived.Test.YtlhddcingeneaaaGreatDoorPSX
namespace Go.Proofs.YtlhddcingeneaaaGreatDoor
open Go Go.RowKit
set_option maxRecDepth 100000
set_option linter.unusedVariables false
set_option linter.unusedSimpArgs false
noncomputable def gvbN:Nat:=Tryz.f38.ntmps
noncomputable def gvbC:Code:=Tryz.f38.body.getD .skip
noncomputable def gvb0:Code:=cB 0 gvbC
theorem gnValid_any (l:List Mt) (base:Option Addr) (c:Nat) (w:World) (hR:RdS w base (encM l)) (hn:l.length≤1000000) (hm:∀ m,m ∈ l→m.nm.length≤1000000):Calls Tryz.prog 38 #[.slice base l.length c] w (RetV (.bool (validT l)) w):=by
 refine vm_start [.slice base l.length c] (fn:=Tryz.f38) (c:=gvbC) kr kr nle ?_
 intro a hS
 have hS:St gvbN [(0,(.slice base l.length c,0))] a:=hS
 refine wp_cut 0 kr ?_
 refine vm_piece (E0:=[(0,(.slice base l.length c,0))]) kr [] gvbN (cPre 0 gvbC) kr hS [] [] (VEx.n) [(0,(.slice base l.length c,0)),(3,(.int .i64 (((0:Nat):Int)),0))] [] (hQ:=?_)
 intro a1 w1 hS1 hK1 hM1
 refine wp_for 0 kr kr (fun n a' w'=>∃ j,l.length - j=n∧j≤l.length∧okFrom none l=okFrom (prevN l j) (l.drop j)∧St gvbN [(0,(.slice base l.length c,0)),(3,(.int .i64 (j:Int),0))] a'∧Chg [] w w') (l.length - 0) ⟨0,rfl,by omega,rfl,hS1,hM1⟩ ?_
 clear hS1 hM1 hS hK1
 rintro n a2 w2 ⟨j,rfl,hj,hok,hS2,hM2⟩
 refine wpL_one ?_
 rcases Nat.lt_or_ge j l.length with hjl | hjl
 ·have h1:decide ((j:Int)<((l.length:Nat):Int))=true:=decide_eq_true (by omega)
  obtain ⟨b,o,rfl,hA⟩:=hR.at j hjl
  have hAj:=hA j hjl
  have hN:=fun w=>gnRight_any l[j] w (hm _ (List.getElem_mem hjl))
  have v1:IntKind.i64.wrap ((j:Int)+1)=((j+1:Nat):Int):=by rw [wr64 (by omega) (by omega)];omega
  rw [okFrom_drop j hjl] at hok
  have hp:=prevN_succ j hjl
  cases j with
  | zero =>
   generalize l[0]=m at *
   simp only [prevN,Bool.and_true] at hok
   cases q0:(rightM m) with
   | true =>
    refine vm_piece (E0:=[(0,(.slice (some ⟨b,o,none⟩) l.length c,0)),(3,(.int .i64 (((0:Nat):Int)),0))]) kr [(4,2),(4,3),(3,1)] gvbN [cI (cI gvb0)] kr hS2 [(.p _ true h1),dF (nT q0),dF (nT q0),dF (nT q0),.f,.f,.f,.f,.f,.f,.f,.f,.f,.f,.f,.f,dF (nT q0),.f,dF (nT q0),.f] [lV (Instr.indexAt 48 (.slice (some ⟨b,o,none⟩) (l.length) (c)) (.int .i64 (((0:Nat):Int)))) (.pointer (some ⟨b,o+0 * 4,none⟩)) (fun w hC=>ixM 0 w (by omega) (by omega) (by omega)),lV (Instr.loadAt 23 (.pointer (some ⟨b,o+0 * 4,none⟩))) (vMt m) (fun w hC=>ldM (hAj.chg (hM2.trans hC))),cV (hN),lE .i64 (((((0:Nat):Int)):Int)+((1):Int)) (((0+1:Nat):Int)) (v1)] (VEx.n) [(0,(.slice (some ⟨b,o,none⟩) l.length c,0)),(3,(.int .i64 (((0+1:Nat):Int)),0))] [] (hQ:=?_)
    intro a3 w3 hS3 hK3 hM3
    exact ⟨l.length - (0+1),by omega,0+1,rfl,by omega,by rw [hok,hp];simp [q0],hS3,hM2.trans hM3⟩
   | false =>
    refine vm_piece (E0:=[(0,(.slice (some ⟨b,o,none⟩) l.length c,0)),(3,(.int .i64 (((0:Nat):Int)),0))]) kr [(4,2),(4,3)] gvbN [cI (cI gvb0)] kr hS2 [(.p _ true h1),dT (nF q0),dT (nF q0),dT (nF q0),.u,.u,.u,.u,.u,.u,.u,.u,.u,.u,.u,.u,dT (nF q0),dT (nF q0),.t] [lV (Instr.indexAt 48 (.slice (some ⟨b,o,none⟩) (l.length) (c)) (.int .i64 (((0:Nat):Int)))) (.pointer (some ⟨b,o+0 * 4,none⟩)) (fun w hC=>ixM 0 w (by omega) (by omega) (by omega)),lV (Instr.loadAt 23 (.pointer (some ⟨b,o+0 * 4,none⟩))) (vMt m) (fun w hC=>ldM (hAj.chg (hM2.trans hC))),cV (hN)] (VEx.r) [(2,(.bool false,0))] [] (hQ:=?_)
    intro a3 w3 hS3 hK3 hM3
    exact ret_r (vm_out (fn:=Tryz.f38) hS3 (.bool false) (fun g=>by kernel_rfl) ⟨by rw [show validT l=false from by unfold validT;rw [hok];simp [q0]],(hM2.trans hM3).bl0⟩)
  | succ k =>
   have hAk:=hA k (by omega)
   have hpk:prevN l (k+1)=some l[k].nm:=prevN_succ k (by omega)
   rw [hpk] at hok
   generalize l[k+1]=m at *
   generalize l[k]=p at *
   simp only at hok
   have v2:IntKind.i64.wrap (((k+1:Nat):Int) - 1)=(k:Int):=by rw [wr64 (by omega) (by omega)];omega
   have h0:decide ((0:Int)<((k+1:Nat):Int))=true:=decide_eq_true (by omega)
   cases q0:(rightM m) with
   | true =>
    cases q1:(sLt (p.nm) (m.nm)) with
    | true =>
     refine vm_piece (E0:=[(0,(.slice (some ⟨b,o,none⟩) l.length c,0)),(3,(.int .i64 (((k+1:Nat):Int)),0))]) kr [(4,2),(4,3),(4,12),(4,13),(4,15),(4,18),(4,20),(3,1)] gvbN [cI (cI gvb0)] kr hS2 [(.p _ true h1),dF (nT q0),dF (nT q0),dF (nT q0),(.p _ true h0),(.p _ true h0),(.p _ true h0),(.p _ true h0),(.p _ true h0),(.p _ true h0),(.p _ true h0),(.p _ true h0),(.p _ true h0),(.p _ true h0),(.p _ true h0),(.p _ true h0),dF (nT q0),(.p _ true h0),dF (nT q0),dF (nT q1)] [lV (Instr.indexAt 48 (.slice (some ⟨b,o,none⟩) (l.length) (c)) (.int .i64 (((k+1:Nat):Int)))) (.pointer (some ⟨b,o+(k+1) * 4,none⟩)) (fun w hC=>ixM (k+1) w (by omega) (by omega) (by omega)),lV (Instr.loadAt 23 (.pointer (some ⟨b,o+(k+1) * 4,none⟩))) (vMt m) (fun w hC=>ldM (hAj.chg (hM2.trans hC))),cV (hN),lE .i64 (((((k+1:Nat):Int)):Int) - ((1):Int)) ((k:Int)) (v2),lV (Instr.indexAt 48 (.slice (some ⟨b,o,none⟩) (l.length) (c)) (.int .i64 ((k:Int)))) (.pointer (some ⟨b,o+k * 4,none⟩)) (fun w hC=>ixM k w (by omega) (by omega) (by omega)),lV (Instr.loadAt 9 (.pointer (some ⟨b,o+k * 4+0,none⟩))) (.string ⟨(p.nm).toArray⟩) (fun w hC=>ldN (hAk.chg (hM2.trans hC))),lV (Instr.indexAt 48 (.slice (some ⟨b,o,none⟩) (l.length) (c)) (.int .i64 (((k+1:Nat):Int)))) (.pointer (some ⟨b,o+(k+1) * 4,none⟩)) (fun w hC=>ixM (k+1) w (by omega) (by omega) (by omega)),lV (Instr.loadAt 9 (.pointer (some ⟨b,o+(k+1) * 4+0,none⟩))) (.string ⟨(m.nm).toArray⟩) (fun w hC=>ldN (hAj.chg (hM2.trans hC))),lE .i64 (((((k+1:Nat):Int)):Int)+((1):Int)) (((k+1+1:Nat):Int)) (v1)] (VEx.n) [(0,(.slice (some ⟨b,o,none⟩) l.length c,0)),(3,(.int .i64 (((k+1+1:Nat):Int)),0))] [] (hQ:=?_)
     intro a3 w3 hS3 hK3 hM3
     exact ⟨l.length - (k+1+1),by omega,k+1+1,rfl,by omega,by rw [hok,hp];simp [q0,q1],hS3,hM2.trans hM3⟩
    | false =>
     refine vm_piece (E0:=[(0,(.slice (some ⟨b,o,none⟩) l.length c,0)),(3,(.int .i64 (((k+1:Nat):Int)),0))]) kr [(4,2),(4,3),(4,12),(4,13),(4,15),(4,18),(4,20)] gvbN [cI (cI gvb0)] kr hS2 [(.p _ true h1),dF (nT q0),dF (nT q0),dF (nT q0),(.p _ true h0),(.p _ true h0),(.p _ true h0),(.p _ true h0),(.p _ true h0),(.p _ true h0),(.p _ true h0),(.p _ true h0),(.p _ true h0),(.p _ true h0),(.p _ true h0),(.p _ true h0),dF (nT q0),(.p _ true h0),dF (nT q0),dT (nF q1)] [lV (Instr.indexAt 48 (.slice (some ⟨b,o,none⟩) (l.length) (c)) (.int .i64 (((k+1:Nat):Int)))) (.pointer (some ⟨b,o+(k+1) * 4,none⟩)) (fun w hC=>ixM (k+1) w (by omega) (by omega) (by omega)),lV (Instr.loadAt 23 (.pointer (some ⟨b,o+(k+1) * 4,none⟩))) (vMt m) (fun w hC=>ldM (hAj.chg (hM2.trans hC))),cV (hN),lE .i64 (((((k+1:Nat):Int)):Int) - ((1):Int)) ((k:Int)) (v2),lV (Instr.indexAt 48 (.slice (some ⟨b,o,none⟩) (l.length) (c)) (.int .i64 ((k:Int)))) (.pointer (some ⟨b,o+k * 4,none⟩)) (fun w hC=>ixM k w (by omega) (by omega) (by omega)),lV (Instr.loadAt 9 (.pointer (some ⟨b,o+k * 4+0,none⟩))) (.string ⟨(p.nm).toArray⟩) (fun w hC=>ldN (hAk.chg (hM2.trans hC))),lV (Instr.indexAt 48 (.slice (some ⟨b,o,none⟩) (l.length) (c)) (.int .i64 (((k+1:Nat):Int)))) (.pointer (some ⟨b,o+(k+1) * 4,none⟩)) (fun w hC=>ixM (k+1) w (by omega) (by omega) (by omega)),lV (Instr.loadAt 9 (.pointer (some ⟨b,o+(k+1) * 4+0,none⟩))) (.string ⟨(m.nm).toArray⟩) (fun w hC=>ldN (hAj.chg (hM2.trans hC)))] (VEx.r) [(2,(.bool false,0))] [] (hQ:=?_)
     intro a3 w3 hS3 hK3 hM3
     exact ret_r (vm_out (fn:=Tryz.f38) hS3 (.bool false) (fun g=>by kernel_rfl) ⟨by rw [show validT l=false from by unfold validT;rw [hok];simp [q0,q1]],(hM2.trans hM3).bl0⟩)
   | false =>
    refine vm_piece (E0:=[(0,(.slice (some ⟨b,o,none⟩) l.length c,0)),(3,(.int .i64 (((k+1:Nat):Int)),0))]) kr [(4,2),(4,3)] gvbN [cI (cI gvb0)] kr hS2 [(.p _ true h1),dT (nF q0),dT (nF q0),dT (nF q0),.u,.u,.u,.u,.u,.u,.u,.u,.u,.u,.u,.u,dT (nF q0),dT (nF q0),.t] [lV (Instr.indexAt 48 (.slice (some ⟨b,o,none⟩) (l.length) (c)) (.int .i64 (((k+1:Nat):Int)))) (.pointer (some ⟨b,o+(k+1) * 4,none⟩)) (fun w hC=>ixM (k+1) w (by omega) (by omega) (by omega)),lV (Instr.loadAt 23 (.pointer (some ⟨b,o+(k+1) * 4,none⟩))) (vMt m) (fun w hC=>ldM (hAj.chg (hM2.trans hC))),cV (hN)] (VEx.r) [(2,(.bool false,0))] [] (hQ:=?_)
    intro a3 w3 hS3 hK3 hM3
    exact ret_r (vm_out (fn:=Tryz.f38) hS3 (.bool false) (fun g=>by kernel_rfl) ⟨by rw [show validT l=false from by unfold validT;rw [hok];simp [q0]],(hM2.trans hM3).bl0⟩)
 ·have h1:decide ((j:Int)<((l.length:Nat):Int))=false:=decide_eq_false (by omega)
  obtain rfl:j=l.length:=by omega
  rw [List.drop_length] at hok
  refine vm_piece (E0:=[(0,(.slice base l.length c,0)),(3,(.int .i64 (((l.length:Nat):Int)),0))]) kr [] gvbN [cI (cI gvb0)] kr hS2 [(.p _ false h1)] [] (VEx.x 0) [(0,(.slice base l.length c,0)),(3,(.int .i64 (((l.length:Nat):Int)),0))] [] (hQ:=?_)
  intro a3 w3 hS3 hK3 hM3
  refine exit_n (then_n ?_)
  refine vm_piece (E0:=[(0,(.slice base l.length c,0)),(3,(.int .i64 (((l.length:Nat):Int)),0))]) kr [] gvbN (cPost 0 gvbC) kr hS3 [] [] (VEx.r) [(2,(.bool (decide (((l.length:Nat):Int)≤(100:Int))),0))] [] (hQ:=?_)
  intro a4 w4 hS4 hK4 hM4
  exact vm_out (fn:=Tryz.f38) hS4 (.bool (decide (((l.length:Nat):Int)≤(100:Int)))) (fun g=>by kernel_rfl) ⟨by rw [show validT l=decide (((l.length:Nat):Int)≤(100:Int)) from by unfold validT;rw [hok];exact (dec_nat l.length 100).symm ▸ rfl],((hM2.trans hM3).trans hM4).bl0⟩
def findT (l:List Mt) (s:List UInt8):Option Mt:=l.find? fun m=>m.nm == s
def findV:Option Mt→Value
 | some m=>.tuple #[vMt m,.bool true]
 | none=>.tuple #[vMt zM,.bool false]
noncomputable def gfN:Nat:=Tryz.f34.ntmps
noncomputable def gfC:Code:=Tryz.f34.body.getD .skip
noncomputable def gf0:Code:=cB 0 gfC
end Go.Proofs.YtlhddcingeneaaaGreatDoor
