import Derived.Test.YtlhddcingeneaaaGreatDoorPPX
import Derived.Test.YtlhddcingeneaaaGreatDoorPPShelf
import Derived.Test.YtlhddcingeneaaaGreatDoorPPW
import Derived.Deep.Upon
import Derived.Test.YtlhddcingeneaaaGreatDoorPPY
/- Names and materials: validity (reference). -/
set_option linter.unusedVariables false
set_option linter.unusedSimpArgs false
set_option maxRecDepth 100000
set_option maxHeartbeats 8000000
namespace Go.Proofs.YtlhddcingeneaaaGreatDoor
open Go Go.RowKit
theorem lyletter_any (c:Nat) (w:World):Calls Tryz.prog 214 #[.int .u8 (c:Int)] w (RetV (.bool (isL c)) w):=by
 cases q0:(decide ((97:Int)≤(c:Int))) with
 | true =>
  cases q1:(decide ((c:Int)≤(122:Int))) with
  | true =>
   rw [show (isL c)=true from by simp only [isL,q0,q1];try rfl]
   exact vm_pure kr Tryz.func214 rfl [.int .u8 (c:Int)] nle [] [dT q0,dT q0,dT q0,dT q1,dT q1,dT q1,.u,.u,dT q1,dT q1] []
  | false =>
   cases q2:(decide ((65:Int)≤(c:Int))) with
   | true =>
    rw [show (isL c)=decide ((c:Int)≤(90:Int)) from by simp only [isL,q0,q1,q2];try rfl]
    exact vm_pure kr Tryz.func214 rfl [.int .u8 (c:Int)] nle [] [dT q0,dT q0,dT q0,dF q1,dF q1,dF q1,dT q2,dT q2,dF q1,dT q2,dF q1] []
   | false =>
    rw [show (isL c)=false from by simp only [isL,q0,q1,q2];try rfl]
    exact vm_pure kr Tryz.func214 rfl [.int .u8 (c:Int)] nle [] [dT q0,dT q0,dT q0,dF q1,dF q1,dF q1,dF q2,dF q2,dF q1,dF q2,dF q1] []
 | false =>
  cases q1:(decide ((65:Int)≤(c:Int))) with
  | true =>
   rw [show (isL c)=decide ((c:Int)≤(90:Int)) from by simp only [isL,q0,q1];try rfl]
   exact vm_pure kr Tryz.func214 rfl [.int .u8 (c:Int)] nle [] [dF q0,dF q0,dF q0,.f,.f,.f,dT q1,dT q1,.f,dT q1,.f] []
  | false =>
   rw [show (isL c)=false from by simp only [isL,q0,q1];try rfl]
   exact vm_pure kr Tryz.func214 rfl [.int .u8 (c:Int)] nle [] [dF q0,dF q0,dF q0,.f,.f,.f,dF q1,dF q1,.f,dF q1,.f] []
theorem lydigit_any (c:Nat) (w:World):Calls Tryz.prog 215 #[.int .u8 (c:Int)] w (RetV (.bool (isG c)) w):=by
 cases q0:(decide ((48:Int)≤(c:Int))) with
 | true =>
  rw [show (isG c)=decide ((c:Int)≤(57:Int)) from by simp only [isG,q0];try rfl]
  exact vm_pure kr Tryz.func215 rfl [.int .u8 (c:Int)] nle [] [dT q0,dT q0,dT q0] []
 | false =>
  rw [show (isG c)=false from by simp only [isG,q0];try rfl]
  exact vm_pure kr Tryz.func215 rfl [.int .u8 (c:Int)] nle [] [dF q0,dF q0,dF q0] []
def isQ (l:List UInt8):Bool:=((ByteArray.mk #[100,101,115,105,103,110]).toList == (ByteArray.mk l.toArray).toList) || ((ByteArray.mk #[111,114,100,101,114]).toList == (ByteArray.mk l.toArray).toList) || ((ByteArray.mk #[109,105,114,114,111,114]).toList == (ByteArray.mk l.toArray).toList) || ((ByteArray.mk #[116,105,101,114]).toList == (ByteArray.mk l.toArray).toList) || ((ByteArray.mk #[97,110,103,108,101]).toList == (ByteArray.mk l.toArray).toList) || ((ByteArray.mk #[97,116]).toList == (ByteArray.mk l.toArray).toList) || ((ByteArray.mk #[100,101,112,116,104]).toList == (ByteArray.mk l.toArray).toList) || ((ByteArray.mk #[109,101,101,116]).toList == (ByteArray.mk l.toArray).toList) || ((ByteArray.mk #[101,100,103,101]).toList == (ByteArray.mk l.toArray).toList) || ((ByteArray.mk #[104,101,105,103,104,116]).toList == (ByteArray.mk l.toArray).toList) || ((ByteArray.mk #[116,104,114,111,117,103,104]).toList == (ByteArray.mk l.toArray).toList)
theorem isQ_eq (l:List UInt8):isQ l=isR l:=by
 have e:∀ a b:List UInt8,(a == b)=(b == a):=fun a b=>by rw [Bool.eq_iff_iff,beq_iff_eq,beq_iff_eq];exact eq_comm
 unfold isQ isR
 simp only [e (ByteArray.mk l.toArray).toList]
theorem lyReserved_any (l:List UInt8) (w:World):Calls Tryz.prog 167 #[.string ⟨l.toArray⟩] w (RetV (.bool (isR l)) w):=by
 rw [← isQ_eq]
 cases q0:(((ByteArray.mk #[100,101,115,105,103,110]).toList == (ByteArray.mk (l).toArray).toList)) with
 | true =>
  rw [show (isQ l)=true from by simp only [isQ,q0];try rfl]
  exact vm_pure kr Tryz.func167 rfl [.string ⟨l.toArray⟩] nle [] [.t,dT q0] []
 | false =>
  cases q1:(((ByteArray.mk #[111,114,100,101,114]).toList == (ByteArray.mk (l).toArray).toList)) with
  | true =>
   rw [show (isQ l)=true from by simp only [isQ,q0,q1];try rfl]
   exact vm_pure kr Tryz.func167 rfl [.string ⟨l.toArray⟩] nle [] [.t,dF q0,.t,dT q1] []
  | false =>
   cases q2:(((ByteArray.mk #[109,105,114,114,111,114]).toList == (ByteArray.mk (l).toArray).toList)) with
   | true =>
    rw [show (isQ l)=true from by simp only [isQ,q0,q1,q2];try rfl]
    exact vm_pure kr Tryz.func167 rfl [.string ⟨l.toArray⟩] nle [] [.t,dF q0,.t,dF q1,.t,dT q2] []
   | false =>
    cases q3:(((ByteArray.mk #[116,105,101,114]).toList == (ByteArray.mk (l).toArray).toList)) with
    | true =>
     rw [show (isQ l)=true from by simp only [isQ,q0,q1,q2,q3];try rfl]
     exact vm_pure kr Tryz.func167 rfl [.string ⟨l.toArray⟩] nle [] [.t,dF q0,.t,dF q1,.t,dF q2,.t,dT q3] []
    | false =>
     cases q4:(((ByteArray.mk #[97,110,103,108,101]).toList == (ByteArray.mk (l).toArray).toList)) with
     | true =>
      rw [show (isQ l)=true from by simp only [isQ,q0,q1,q2,q3,q4];try rfl]
      exact vm_pure kr Tryz.func167 rfl [.string ⟨l.toArray⟩] nle [] [.t,dF q0,.t,dF q1,.t,dF q2,.t,dF q3,.t,dT q4] []
     | false =>
      cases q5:(((ByteArray.mk #[97,116]).toList == (ByteArray.mk (l).toArray).toList)) with
      | true =>
       rw [show (isQ l)=true from by simp only [isQ,q0,q1,q2,q3,q4,q5];try rfl]
       exact vm_pure kr Tryz.func167 rfl [.string ⟨l.toArray⟩] nle [] [.t,dF q0,.t,dF q1,.t,dF q2,.t,dF q3,.t,dF q4,.t,dT q5] []
      | false =>
       cases q6:(((ByteArray.mk #[100,101,112,116,104]).toList == (ByteArray.mk (l).toArray).toList)) with
       | true =>
        rw [show (isQ l)=true from by simp only [isQ,q0,q1,q2,q3,q4,q5,q6];try rfl]
        exact vm_pure kr Tryz.func167 rfl [.string ⟨l.toArray⟩] nle [] [.t,dF q0,.t,dF q1,.t,dF q2,.t,dF q3,.t,dF q4,.t,dF q5,.t,dT q6] []
       | false =>
        cases q7:(((ByteArray.mk #[109,101,101,116]).toList == (ByteArray.mk (l).toArray).toList)) with
        | true =>
         rw [show (isQ l)=true from by simp only [isQ,q0,q1,q2,q3,q4,q5,q6,q7];try rfl]
         exact vm_pure kr Tryz.func167 rfl [.string ⟨l.toArray⟩] nle [] [.t,dF q0,.t,dF q1,.t,dF q2,.t,dF q3,.t,dF q4,.t,dF q5,.t,dF q6,.t,dT q7] []
        | false =>
         cases q8:(((ByteArray.mk #[101,100,103,101]).toList == (ByteArray.mk (l).toArray).toList)) with
         | true =>
          rw [show (isQ l)=true from by simp only [isQ,q0,q1,q2,q3,q4,q5,q6,q7,q8];try rfl]
          exact vm_pure kr Tryz.func167 rfl [.string ⟨l.toArray⟩] nle [] [.t,dF q0,.t,dF q1,.t,dF q2,.t,dF q3,.t,dF q4,.t,dF q5,.t,dF q6,.t,dF q7,.t,dT q8] []
         | false =>
          cases q9:(((ByteArray.mk #[104,101,105,103,104,116]).toList == (ByteArray.mk (l).toArray).toList)) with
          | true =>
           rw [show (isQ l)=true from by simp only [isQ,q0,q1,q2,q3,q4,q5,q6,q7,q8,q9];try rfl]
           exact vm_pure kr Tryz.func167 rfl [.string ⟨l.toArray⟩] nle [] [.t,dF q0,.t,dF q1,.t,dF q2,.t,dF q3,.t,dF q4,.t,dF q5,.t,dF q6,.t,dF q7,.t,dF q8,.t,dT q9] []
          | false =>
           cases q10:(((ByteArray.mk #[116,104,114,111,117,103,104]).toList == (ByteArray.mk (l).toArray).toList)) with
           | true =>
            rw [show (isQ l)=true from by simp only [isQ,q0,q1,q2,q3,q4,q5,q6,q7,q8,q9,q10];try rfl]
            exact vm_pure kr Tryz.func167 rfl [.string ⟨l.toArray⟩] nle [] [.t,dF q0,.t,dF q1,.t,dF q2,.t,dF q3,.t,dF q4,.t,dF q5,.t,dF q6,.t,dF q7,.t,dF q8,.t,dF q9,.t,dT q10] []
           | false =>
            rw [show (isQ l)=false from by simp only [isQ,q0,q1,q2,q3,q4,q5,q6,q7,q8,q9,q10];try rfl]
            exact vm_pure kr Tryz.func167 rfl [.string ⟨l.toArray⟩] nle [] [.t,dF q0,.t,dF q1,.t,dF q2,.t,dF q3,.t,dF q4,.t,dF q5,.t,dF q6,.t,dF q7,.t,dF q8,.t,dF q9,.t,dF q10,.f] []
def wGo:Bool→List UInt8→Bool
 | _,[]=>true
 | f,c :: r=>(isL c.toNat || (!f && (isG c.toNat || ((c.toNat:Int) == (45:Int)) || ((c.toNat:Int) == (95:Int))))) && wGo false r
theorem wGo_all:∀ l:List UInt8,wGo false l=l.all fun c=>isW c.toNat
 | []=>rfl
 | c :: r=>by
  rw [wGo,wGo_all r,List.all_cons]
  unfold isW
  simp [Bool.or_assoc]
theorem tw_all {α:Type} (p:α→Bool):∀ l:List α,((l.takeWhile p).length == l.length)=l.all p
 | []=>rfl
 | a :: l=>by
  rw [List.takeWhile_cons,List.all_cons]
  cases h:p a with
  | true =>
   have ih:=tw_all p l
   rw [if_pos rfl,List.length_cons,List.length_cons,Bool.true_and,← ih,Bool.eq_iff_iff,beq_iff_eq,beq_iff_eq];omega
  | false=>rw [if_neg (by decide),Bool.false_and];rfl
theorem wGo_word (c:UInt8) (r:List UInt8):wGo true (c :: r)=(wordN (c :: r) == (c :: r).length):=by
 rw [wGo,wGo_all,wordN_cons]
 cases h:isL c.toNat with
 | false=>simp
 | true =>
  rw [if_pos rfl,tw_all,List.all_cons]
  have:isW c.toNat=true:=by unfold isW;rw [h];rfl
  rw [this];rfl
noncomputable def lwN:Nat:=Tryz.f166.ntmps
noncomputable def lwC:Code:=Tryz.f166.body.getD .skip
noncomputable def lw0:Code:=cB 0 lwC
def wordB (l:List UInt8):Bool:=wGo true l && decide (0<l.length)
theorem neq_b (c k:Int):(c != k) = !(c == k):=rfl
theorem lyword_any (l:List UInt8) (w:World) (hl:l.length≤1000000):Calls Tryz.prog 166 #[.string ⟨l.toArray⟩] w (RetV (.bool (wordB l)) w):=by
 have hsz:((ByteArray.mk l.toArray).size:Int)=(l.length:Int):=by rw [str_size]
 refine vm_start [.string ⟨l.toArray⟩] (fn:=Tryz.f166) (c:=lwC) kr kr nle ?_
 intro a hS
 have hS:St lwN [(0,(.string ⟨l.toArray⟩,0))] a:=hS
 refine wp_cut 0 kr ?_
 refine vm_piece (E0:=[(0,(.string ⟨(l).toArray⟩,0))]) kr [] lwN (cPre 0 lwC) kr hS [] [] (VEx.n) [(0,(.string ⟨(l).toArray⟩,0)),(3,(.int .i64 (((0:Nat):Int)),0))] [] (hQ:=?_)
 intro a1 w1 hS1 hK1 hM1
 refine wp_for 0 kr kr (fun n a' w'=>∃ j,l.length - j=n∧j≤l.length∧wGo true l=wGo (decide (j=0)) (l.drop j)∧St lwN [(0,(.string ⟨l.toArray⟩,0)),(3,(.int .i64 (j:Int),0))] a'∧Chg [] w w') (l.length - 0) ⟨0,rfl,by omega,rfl,hS1,hM1⟩ ?_
 clear hS1 hM1 hS hK1
 rintro n a2 w2 ⟨j,rfl,hj,hw,hS2,hM2⟩
 refine wpL_one ?_
 rcases Nat.lt_or_ge j l.length with hjl | hjl
 ·have h1:decide ((j:Int)<((ByteArray.mk l.toArray).size:Int))=true:=decide_eq_true (by omega)
  have hB:=byte_l l j hjl
  rw [List.drop_eq_getElem_cons hjl,wGo] at hw
  have L:=fun w=>lyletter_any (l[j]'hjl).toNat w
  have D:=fun w=>lydigit_any (l[j]'hjl).toNat w
  generalize (l[j]'hjl).toNat=c at *
  have v1:IntKind.i64.wrap ((j:Int)+1)=((j+1:Nat):Int):=by rw [wr64 (by omega) (by omega)];omega
  have hz:decide (j+1=0)=false:=decide_eq_false (by omega)
  cases j with
  | zero =>
   simp only [decide_true,Bool.not_true,Bool.false_and,Bool.or_false] at hw
   cases q0:(isL c) with
   | true =>
    refine vm_piece (E0:=[(0,(.string ⟨(l).toArray⟩,0)),(3,(.int .i64 (((0:Nat):Int)),0))]) kr [(4,2),(3,1)] lwN [cI (cI lw0)] kr hS2 [(.p _ true h1),dF (nT q0),dF (nT q0),dF (nT q0),.u,.u,.u,.u,.u,.u,.u,.u,.u,.u,.u,.u,.u,.u,.u,.u,.u,dF (nT q0),dF (nT q0),.f] [lV (Instr.index 9 (.string ⟨(l).toArray⟩) (.int .i64 (((0:Nat):Int)))) (.int .u8 (c:Int)) (fun w hC=>hB w),cV (L),lE .i64 (((((0:Nat):Int)):Int)+((1):Int)) (((0+1:Nat):Int)) (v1)] (VEx.n) [(0,(.string ⟨(l).toArray⟩,0)),(3,(.int .i64 (((0+1:Nat):Int)),0))] [] (hQ:=?_)
    intro a3 w3 hS3 hK3 hM3
    exact ⟨l.length - (0+1),by omega,0+1,rfl,by omega,by rw [hw,hz];simp [q0],hS3,hM2.trans hM3⟩
   | false =>
    refine vm_piece (E0:=[(0,(.string ⟨(l).toArray⟩,0)),(3,(.int .i64 (((0:Nat):Int)),0))]) kr [(4,2)] lwN [cI (cI lw0)] kr hS2 [(.p _ true h1),dT (nF q0),dT (nF q0),dT (nF q0),.t,.t,.t,.t,.t,.t,.u,.u,.u,.u,.t,.t,.u,.u,.u,.u,.t,dT (nF q0),.t,dT (nF q0),.t] [lV (Instr.index 9 (.string ⟨(l).toArray⟩) (.int .i64 (((0:Nat):Int)))) (.int .u8 (c:Int)) (fun w hC=>hB w),cV (L)] (VEx.r) [(2,(.bool false,0))] [] (hQ:=?_)
    intro a3 w3 hS3 hK3 hM3
    exact ret_r (vm_out (fn:=Tryz.f166) hS3 (.bool false) (fun g=>by kernel_rfl) ⟨by rw [show wordB l=false from by unfold wordB;rw [hw];simp [q0]],(hM2.trans hM3).bl0⟩)
  | succ j =>
   rw [show decide (j+1=0)=false from decide_eq_false (by omega)] at hw
   have h0:(((j+1:Nat):Int) == (0:Int))=false:=by rw [beq_eq_false_iff_ne];omega
   cases q0:(isL c) with
   | true =>
    refine vm_piece (E0:=[(0,(.string ⟨(l).toArray⟩,0)),(3,(.int .i64 (((j+1:Nat):Int)),0))]) kr [(4,2),(3,1)] lwN [cI (cI lw0)] kr hS2 [(.p _ true h1),dF (nT q0),dF (nT q0),dF (nT q0),.u,.u,.u,.u,.u,.u,.u,.u,.u,.u,.u,.u,.u,.u,.u,.u,.u,dF (nT q0),dF (nT q0),.f] [lV (Instr.index 9 (.string ⟨(l).toArray⟩) (.int .i64 (((j+1:Nat):Int)))) (.int .u8 (c:Int)) (fun w hC=>hB w),cV (L),lE .i64 (((((j+1:Nat):Int)):Int)+((1):Int)) (((j+1+1:Nat):Int)) (v1)] (VEx.n) [(0,(.string ⟨(l).toArray⟩,0)),(3,(.int .i64 (((j+1+1:Nat):Int)),0))] [] (hQ:=?_)
    intro a3 w3 hS3 hK3 hM3
    exact ⟨l.length - (j+1+1),by omega,j+1+1,rfl,by omega,by rw [hw,show decide (j+1+1=0)=false from decide_eq_false (by omega)];(try simp only [neq_b] at *);simp_all,hS3,hM2.trans hM3⟩
   | false =>
    cases q1:(isG c) with
    | true =>
     refine vm_piece (E0:=[(0,(.string ⟨(l).toArray⟩,0)),(3,(.int .i64 (((j+1:Nat):Int)),0))]) kr [(4,2),(4,11),(3,1)] lwN [cI (cI lw0)] kr hS2 [(.p _ true h1),dT (nF q0),dT (nF q0),dT (nF q0),(.p _ false h0),(.p _ false h0),(.p _ false h0),(.p _ false h0),(.p _ false h0),(.p _ false h0),dF (nT q1),dF (nT q1),dF (nT q1),dF (nT q1),(.p _ false h0),dF (nT q1),(.p _ false h0),.f,.f,.f,.f,(.p _ false h0),.f,dT (nF q0),(.p _ false h0),dT (nF q0),.f] [lV (Instr.index 9 (.string ⟨(l).toArray⟩) (.int .i64 (((j+1:Nat):Int)))) (.int .u8 (c:Int)) (fun w hC=>hB w),cV (L),lV (Instr.index 9 (.string ⟨(l).toArray⟩) (.int .i64 (((j+1:Nat):Int)))) (.int .u8 (c:Int)) (fun w hC=>hB w),cV (D),lE .i64 (((((j+1:Nat):Int)):Int)+((1):Int)) (((j+1+1:Nat):Int)) (v1)] (VEx.n) [(0,(.string ⟨(l).toArray⟩,0)),(3,(.int .i64 (((j+1+1:Nat):Int)),0))] [] (hQ:=?_)
     intro a3 w3 hS3 hK3 hM3
     exact ⟨l.length - (j+1+1),by omega,j+1+1,rfl,by omega,by rw [hw,show decide (j+1+1=0)=false from decide_eq_false (by omega)];(try simp only [neq_b] at *);simp_all,hS3,hM2.trans hM3⟩
    | false =>
     cases q2:(((c:Int) != (45:Int))) with
     | true =>
      cases q3:(((c:Int) != (95:Int))) with
      | true =>
       refine vm_piece (E0:=[(0,(.string ⟨(l).toArray⟩,0)),(3,(.int .i64 (((j+1:Nat):Int)),0))]) kr [(4,2),(4,11),(4,17),(4,23)] lwN [cI (cI lw0)] kr hS2 [(.p _ true h1),dT (nF q0),dT (nF q0),dT (nF q0),(.p _ false h0),(.p _ false h0),(.p _ false h0),(.p _ false h0),(.p _ false h0),(.p _ false h0),dT (nF q1),dT (nF q1),dT (nF q1),dT (nF q1),(.p _ false h0),dT (nF q1),(.p _ false h0),dT q2,dT q2,dT q2,dT q2,(.p _ false h0),dT q2,dT (nF q0),(.p _ false h0),dT (nF q0),dT q3] [lV (Instr.index 9 (.string ⟨(l).toArray⟩) (.int .i64 (((j+1:Nat):Int)))) (.int .u8 (c:Int)) (fun w hC=>hB w),cV (L),lV (Instr.index 9 (.string ⟨(l).toArray⟩) (.int .i64 (((j+1:Nat):Int)))) (.int .u8 (c:Int)) (fun w hC=>hB w),cV (D),lV (Instr.index 9 (.string ⟨(l).toArray⟩) (.int .i64 (((j+1:Nat):Int)))) (.int .u8 (c:Int)) (fun w hC=>hB w),lV (Instr.index 9 (.string ⟨(l).toArray⟩) (.int .i64 (((j+1:Nat):Int)))) (.int .u8 (c:Int)) (fun w hC=>hB w)] (VEx.r) [(2,(.bool false,0))] [] (hQ:=?_)
       intro a3 w3 hS3 hK3 hM3
       exact ret_r (vm_out (fn:=Tryz.f166) hS3 (.bool false) (fun g=>by kernel_rfl) ⟨by rw [show wordB l=false from by unfold wordB;rw [hw];(try simp only [neq_b] at *);simp_all],(hM2.trans hM3).bl0⟩)
      | false =>
       refine vm_piece (E0:=[(0,(.string ⟨(l).toArray⟩,0)),(3,(.int .i64 (((j+1:Nat):Int)),0))]) kr [(4,2),(4,11),(4,17),(4,23),(3,1)] lwN [cI (cI lw0)] kr hS2 [(.p _ true h1),dT (nF q0),dT (nF q0),dT (nF q0),(.p _ false h0),(.p _ false h0),(.p _ false h0),(.p _ false h0),(.p _ false h0),(.p _ false h0),dT (nF q1),dT (nF q1),dT (nF q1),dT (nF q1),(.p _ false h0),dT (nF q1),(.p _ false h0),dT q2,dT q2,dT q2,dT q2,(.p _ false h0),dT q2,dT (nF q0),(.p _ false h0),dT (nF q0),dF q3] [lV (Instr.index 9 (.string ⟨(l).toArray⟩) (.int .i64 (((j+1:Nat):Int)))) (.int .u8 (c:Int)) (fun w hC=>hB w),cV (L),lV (Instr.index 9 (.string ⟨(l).toArray⟩) (.int .i64 (((j+1:Nat):Int)))) (.int .u8 (c:Int)) (fun w hC=>hB w),cV (D),lV (Instr.index 9 (.string ⟨(l).toArray⟩) (.int .i64 (((j+1:Nat):Int)))) (.int .u8 (c:Int)) (fun w hC=>hB w),lV (Instr.index 9 (.string ⟨(l).toArray⟩) (.int .i64 (((j+1:Nat):Int)))) (.int .u8 (c:Int)) (fun w hC=>hB w),lE .i64 (((((j+1:Nat):Int)):Int)+((1):Int)) (((j+1+1:Nat):Int)) (v1)] (VEx.n) [(0,(.string ⟨(l).toArray⟩,0)),(3,(.int .i64 (((j+1+1:Nat):Int)),0))] [] (hQ:=?_)
       intro a3 w3 hS3 hK3 hM3
       exact ⟨l.length - (j+1+1),by omega,j+1+1,rfl,by omega,by rw [hw,show decide (j+1+1=0)=false from decide_eq_false (by omega)];(try simp only [neq_b] at *);simp_all,hS3,hM2.trans hM3⟩
     | false =>
      refine vm_piece (E0:=[(0,(.string ⟨(l).toArray⟩,0)),(3,(.int .i64 (((j+1:Nat):Int)),0))]) kr [(4,2),(4,11),(4,17),(3,1)] lwN [cI (cI lw0)] kr hS2 [(.p _ true h1),dT (nF q0),dT (nF q0),dT (nF q0),(.p _ false h0),(.p _ false h0),(.p _ false h0),(.p _ false h0),(.p _ false h0),(.p _ false h0),dT (nF q1),dT (nF q1),dT (nF q1),dT (nF q1),(.p _ false h0),dT (nF q1),(.p _ false h0),dF q2,dF q2,dF q2,dF q2,(.p _ false h0),dF q2,dT (nF q0),(.p _ false h0),dT (nF q0),.f] [lV (Instr.index 9 (.string ⟨(l).toArray⟩) (.int .i64 (((j+1:Nat):Int)))) (.int .u8 (c:Int)) (fun w hC=>hB w),cV (L),lV (Instr.index 9 (.string ⟨(l).toArray⟩) (.int .i64 (((j+1:Nat):Int)))) (.int .u8 (c:Int)) (fun w hC=>hB w),cV (D),lV (Instr.index 9 (.string ⟨(l).toArray⟩) (.int .i64 (((j+1:Nat):Int)))) (.int .u8 (c:Int)) (fun w hC=>hB w),lE .i64 (((((j+1:Nat):Int)):Int)+((1):Int)) (((j+1+1:Nat):Int)) (v1)] (VEx.n) [(0,(.string ⟨(l).toArray⟩,0)),(3,(.int .i64 (((j+1+1:Nat):Int)),0))] [] (hQ:=?_)
      intro a3 w3 hS3 hK3 hM3
      exact ⟨l.length - (j+1+1),by omega,j+1+1,rfl,by omega,by rw [hw,show decide (j+1+1=0)=false from decide_eq_false (by omega)];(try simp only [neq_b] at *);simp_all,hS3,hM2.trans hM3⟩
 ·have h1:decide ((j:Int)<((ByteArray.mk l.toArray).size:Int))=false:=decide_eq_false (by omega)
  obtain rfl:j=l.length:=by omega
  rw [List.drop_length] at hw
  have e:wordB l=decide ((0:Int)<((ByteArray.mk l.toArray).size:Int)):=by
   unfold wordB;rw [hw,wGo,Bool.true_and,decide_eq_decide];omega
  refine vm_piece (E0:=[(0,(.string ⟨(l).toArray⟩,0)),(3,(.int .i64 (((l.length:Nat):Int)),0))]) kr [] lwN [cI (cI lw0)] kr hS2 [(.p _ false h1)] [] (VEx.x 0) [(0,(.string ⟨(l).toArray⟩,0)),(3,(.int .i64 (((l.length:Nat):Int)),0))] [] (hQ:=?_)
  intro a3 w3 hS3 hK3 hM3
  refine exit_n (then_n ?_)
  refine vm_piece (E0:=[(0,(.string ⟨(l).toArray⟩,0)),(3,(.int .i64 (((l.length:Nat):Int)),0))]) kr [] lwN (cPost 0 lwC) kr hS3 [] [] (VEx.r) [(2,(.bool (decide ((0:Int)<((ByteArray.mk l.toArray).size:Int))),0))] [] (hQ:=?_)
  intro a4 w4 hS4 hK4 hM4
  exact vm_out (fn:=Tryz.f166) hS4 (.bool (decide ((0:Int)<((ByteArray.mk l.toArray).size:Int)))) (fun g=>by kernel_rfl) ⟨by rw [e],((hM2.trans hM3).trans hM4).bl0⟩
def isNy (l:List UInt8):Bool:=wordB l && decide (((ByteArray.mk (l).toArray).size:Int)≤(30:Int)) && (!isR l)
theorem isNy_eq (l:List UInt8):isNy l=isNm l:=by
 rw [isNm_eq]
 unfold isNy wordB
 rw [str_size,show decide ((l.length:Int)≤(30:Int))=decide (l.length≤30) from by rw [decide_eq_decide];omega]
 cases l with
 | nil=>rfl
 | cons c r =>
  rw [wGo_word]
  simp [Bool.and_assoc,Bool.and_comm]
theorem lyIsName_any (l:List UInt8) (w:World) (hl:l.length≤1000000):Calls Tryz.prog 116 #[.string ⟨l.toArray⟩] w (RetV (.bool (isNm l)) w):=by
 have W:=fun w=>lyword_any l w hl
 have R:=fun w=>lyReserved_any l w
 rw [← isNy_eq]
 cases q0:(wordB l) with
 | true =>
  cases q1:(decide ((((ByteArray.mk (l).toArray)).size:Int)≤(30:Int))) with
  | true =>
   rw [show (isNy l)=(!isR l) from by simp only [isNy,q0,q1];try rfl]
   exact vm_pure kr Tryz.func116 rfl [.string ⟨l.toArray⟩] nle [] [dT q0,dT q0,dT q0,dT q0,dT q1,dT q1,dT q1,dT q1] [cV (W),cV (R)]
  | false =>
   rw [show (isNy l)=false from by simp only [isNy,q0,q1];try rfl]
   exact vm_pure kr Tryz.func116 rfl [.string ⟨l.toArray⟩] nle [] [dT q0,dT q0,dT q0,dT q0,dF q1,dF q1,dF q1,dF q1] [cV (W)]
 | false =>
  rw [show (isNy l)=false from by simp only [isNy,q0];try rfl]
  exact vm_pure kr Tryz.func116 rfl [.string ⟨l.toArray⟩] nle [] [dF q0,dF q0,dF q0,dF q0,.f,.f,.f,.f] [cV (W)]
theorem gnRight_any (m:Mt) (w:World) (hl:m.nm.length≤1000000):Calls Tryz.prog 69 #[vMt m] w (RetV (.bool (rightM m)) w):=by
 have N:=fun w=>lyIsName_any m.nm w hl
 cases q0:(isNm m.nm) with
 | true =>
  cases q1:(decide ((1:Int)≤m.d)) with
  | true =>
   cases q2:(decide (m.d≤(30000:Int))) with
   | true =>
    cases q3:(decide ((1000:Int)≤m.i)) with
    | true =>
     cases q4:(decide (m.i≤(4000:Int))) with
     | true =>
      cases q5:(decide ((1:Int)≤m.h)) with
      | true =>
       rw [show (rightM m)=decide (m.h≤(100:Int)) from by simp only [rightM,q0,q1,q2,q3,q4,q5];try rfl]
       exact vm_pure kr Tryz.func69 rfl [vMt m] nle [] [dT q0,dT q0,dT q0,dT q0,dT q1,dT q1,dT q1,dT q1,dT q2,dT q2,dT q2,dT q2,dT q3,dT q3,dT q3,dT q3,dT q4,dT q4,dT q4,dT q4,dT q5,dT q5,dT q5,dT q5] [cV (N)]
      | false =>
       rw [show (rightM m)=false from by simp only [rightM,q0,q1,q2,q3,q4,q5];try rfl]
       exact vm_pure kr Tryz.func69 rfl [vMt m] nle [] [dT q0,dT q0,dT q0,dT q0,dT q1,dT q1,dT q1,dT q1,dT q2,dT q2,dT q2,dT q2,dT q3,dT q3,dT q3,dT q3,dT q4,dT q4,dT q4,dT q4,dF q5,dF q5,dF q5,dF q5] [cV (N)]
     | false =>
      rw [show (rightM m)=false from by simp only [rightM,q0,q1,q2,q3,q4];try rfl]
      exact vm_pure kr Tryz.func69 rfl [vMt m] nle [] [dT q0,dT q0,dT q0,dT q0,dT q1,dT q1,dT q1,dT q1,dT q2,dT q2,dT q2,dT q2,dT q3,dT q3,dT q3,dT q3,dF q4,dF q4,dF q4,dF q4,.f,.f,.f,.f] [cV (N)]
    | false =>
     rw [show (rightM m)=false from by simp only [rightM,q0,q1,q2,q3];try rfl]
     exact vm_pure kr Tryz.func69 rfl [vMt m] nle [] [dT q0,dT q0,dT q0,dT q0,dT q1,dT q1,dT q1,dT q1,dT q2,dT q2,dT q2,dT q2,dF q3,dF q3,dF q3,dF q3,.f,.f,.f,.f,.f,.f,.f,.f] [cV (N)]
   | false =>
    rw [show (rightM m)=false from by simp only [rightM,q0,q1,q2];try rfl]
    exact vm_pure kr Tryz.func69 rfl [vMt m] nle [] [dT q0,dT q0,dT q0,dT q0,dT q1,dT q1,dT q1,dT q1,dF q2,dF q2,dF q2,dF q2,.f,.f,.f,.f,.f,.f,.f,.f,.f,.f,.f,.f] [cV (N)]
  | false =>
   rw [show (rightM m)=false from by simp only [rightM,q0,q1];try rfl]
   exact vm_pure kr Tryz.func69 rfl [vMt m] nle [] [dT q0,dT q0,dT q0,dT q0,dF q1,dF q1,dF q1,dF q1,.f,.f,.f,.f,.f,.f,.f,.f,.f,.f,.f,.f,.f,.f,.f,.f] [cV (N)]
 | false =>
  rw [show (rightM m)=false from by simp only [rightM,q0];try rfl]
  exact vm_pure kr Tryz.func69 rfl [vMt m] nle [] [dF q0,dF q0,dF q0,dF q0,.f,.f,.f,.f,.f,.f,.f,.f,.f,.f,.f,.f,.f,.f,.f,.f,.f,.f,.f,.f] [cV (N)]

noncomputable def gvbN:Nat:=Tryz.f38.ntmps
noncomputable def gvbC:Code:=Tryz.f38.body.getD .skip
noncomputable def gvb0:Code:=cB 0 gvbC
theorem gnValid_any (l:List Mt) (base:Option Addr) (c:Nat) (w:World) (hR:RdS w base (encM l)) (hn:l.length≤1000000) (hm:∀ m,m ∈ l→m.nm.length≤1000000):Calls Tryz.prog 38 #[.slice base l.length c] w (RetV (.bool (validT l)) w):=by
 refine vm_start [.slice base l.length c] (fn:=Tryz.f38) (c:=gvbC) kr kr nle ?_
 intro a hS
 have hS:St gvbN [(0,(.slice base l.length c,0))] a:=hS
 refine wp_cut 0 kr ?_
 refine vm_piece (E0:=[(0,(.slice base l.length c,0))]) kr [] gvbN (cPre 0 gvbC) kr hS [] [] (VEx.n) [(0,(.slice base l.length c,0)),(3,(.int .i64 (((0:Nat):Int)),0))] [] (hQ:=?_)
 intro a1 w1 hS1 hK1 hM1
 refine wp_for 0 kr kr (fun n a' w'=>∃ j,l.length - j=n∧j≤l.length∧okFrom none l=okFrom (prevN l j) (l.drop j)∧St gvbN [(0,(.slice base l.length c,0)),(3,(.int .i64 (j:Int),0))] a'∧Chg [] w w') (l.length - 0) ⟨0,rfl,by omega,rfl,hS1,hM1⟩ ?_
 clear hS1 hM1 hS hK1
 rintro n a2 w2 ⟨j,rfl,hj,hok,hS2,hM2⟩
 refine wpL_one ?_
 rcases Nat.lt_or_ge j l.length with hjl | hjl
 ·have h1:decide ((j:Int)<((l.length:Nat):Int))=true:=decide_eq_true (by omega)
  obtain ⟨b,o,rfl,hA⟩:=hR.at j hjl
  have hAj:=hA j hjl
  have hN:=fun w=>gnRight_any l[j] w (hm _ (List.getElem_mem hjl))
  have v1:IntKind.i64.wrap ((j:Int)+1)=((j+1:Nat):Int):=by rw [wr64 (by omega) (by omega)];omega
  rw [okFrom_drop j hjl] at hok
  have hp:=prevN_succ j hjl
  cases j with
  | zero =>
   generalize l[0]=m at *
   simp only [prevN,Bool.and_true] at hok
   cases q0:(rightM m) with
   | true =>
    refine vm_piece (E0:=[(0,(.slice (some ⟨b,o,none⟩) l.length c,0)),(3,(.int .i64 (((0:Nat):Int)),0))]) kr [(4,2),(4,3),(3,1)] gvbN [cI (cI gvb0)] kr hS2 [(.p _ true h1),dF (nT q0),dF (nT q0),dF (nT q0),.f,.f,.f,.f,.f,.f,.f,.f,.f,.f,.f,.f,dF (nT q0),.f,dF (nT q0),.f] [lV (Instr.indexAt 48 (.slice (some ⟨b,o,none⟩) (l.length) (c)) (.int .i64 (((0:Nat):Int)))) (.pointer (some ⟨b,o+0 * 4,none⟩)) (fun w hC=>ixM 0 w (by omega) (by omega) (by omega)),lV (Instr.loadAt 23 (.pointer (some ⟨b,o+0 * 4,none⟩))) (vMt m) (fun w hC=>ldM (hAj.chg (hM2.trans hC))),cV (hN),lE .i64 (((((0:Nat):Int)):Int)+((1):Int)) (((0+1:Nat):Int)) (v1)] (VEx.n) [(0,(.slice (some ⟨b,o,none⟩) l.length c,0)),(3,(.int .i64 (((0+1:Nat):Int)),0))] [] (hQ:=?_)
    intro a3 w3 hS3 hK3 hM3
    exact ⟨l.length - (0+1),by omega,0+1,rfl,by omega,by rw [hok,hp];simp [q0],hS3,hM2.trans hM3⟩
   | false =>
    refine vm_piece (E0:=[(0,(.slice (some ⟨b,o,none⟩) l.length c,0)),(3,(.int .i64 (((0:Nat):Int)),0))]) kr [(4,2),(4,3)] gvbN [cI (cI gvb0)] kr hS2 [(.p _ true h1),dT (nF q0),dT (nF q0),dT (nF q0),.u,.u,.u,.u,.u,.u,.u,.u,.u,.u,.u,.u,dT (nF q0),dT (nF q0),.t] [lV (Instr.indexAt 48 (.slice (some ⟨b,o,none⟩) (l.length) (c)) (.int .i64 (((0:Nat):Int)))) (.pointer (some ⟨b,o+0 * 4,none⟩)) (fun w hC=>ixM 0 w (by omega) (by omega) (by omega)),lV (Instr.loadAt 23 (.pointer (some ⟨b,o+0 * 4,none⟩))) (vMt m) (fun w hC=>ldM (hAj.chg (hM2.trans hC))),cV (hN)] (VEx.r) [(2,(.bool false,0))] [] (hQ:=?_)
    intro a3 w3 hS3 hK3 hM3
    exact ret_r (vm_out (fn:=Tryz.f38) hS3 (.bool false) (fun g=>by kernel_rfl) ⟨by rw [show validT l=false from by unfold validT;rw [hok];simp [q0]],(hM2.trans hM3).bl0⟩)
  | succ k =>
   have hAk:=hA k (by omega)
   have hpk:prevN l (k+1)=some l[k].nm:=prevN_succ k (by omega)
   rw [hpk] at hok
   generalize l[k+1]=m at *
   generalize l[k]=p at *
   simp only at hok
   have v2:IntKind.i64.wrap (((k+1:Nat):Int) - 1)=(k:Int):=by rw [wr64 (by omega) (by omega)];omega
   have h0:decide ((0:Int)<((k+1:Nat):Int))=true:=decide_eq_true (by omega)
   cases q0:(rightM m) with
   | true =>
    cases q1:(sLt (p.nm) (m.nm)) with
    | true =>
     refine vm_piece (E0:=[(0,(.slice (some ⟨b,o,none⟩) l.length c,0)),(3,(.int .i64 (((k+1:Nat):Int)),0))]) kr [(4,2),(4,3),(4,12),(4,13),(4,15),(4,18),(4,20),(3,1)] gvbN [cI (cI gvb0)] kr hS2 [(.p _ true h1),dF (nT q0),dF (nT q0),dF (nT q0),(.p _ true h0),(.p _ true h0),(.p _ true h0),(.p _ true h0),(.p _ true h0),(.p _ true h0),(.p _ true h0),(.p _ true h0),(.p _ true h0),(.p _ true h0),(.p _ true h0),(.p _ true h0),dF (nT q0),(.p _ true h0),dF (nT q0),dF (nT q1)] [lV (Instr.indexAt 48 (.slice (some ⟨b,o,none⟩) (l.length) (c)) (.int .i64 (((k+1:Nat):Int)))) (.pointer (some ⟨b,o+(k+1) * 4,none⟩)) (fun w hC=>ixM (k+1) w (by omega) (by omega) (by omega)),lV (Instr.loadAt 23 (.pointer (some ⟨b,o+(k+1) * 4,none⟩))) (vMt m) (fun w hC=>ldM (hAj.chg (hM2.trans hC))),cV (hN),lE .i64 (((((k+1:Nat):Int)):Int) - ((1):Int)) ((k:Int)) (v2),lV (Instr.indexAt 48 (.slice (some ⟨b,o,none⟩) (l.length) (c)) (.int .i64 ((k:Int)))) (.pointer (some ⟨b,o+k * 4,none⟩)) (fun w hC=>ixM k w (by omega) (by omega) (by omega)),lV (Instr.loadAt 9 (.pointer (some ⟨b,o+k * 4+0,none⟩))) (.string ⟨(p.nm).toArray⟩) (fun w hC=>ldN (hAk.chg (hM2.trans hC))),lV (Instr.indexAt 48 (.slice (some ⟨b,o,none⟩) (l.length) (c)) (.int .i64 (((k+1:Nat):Int)))) (.pointer (some ⟨b,o+(k+1) * 4,none⟩)) (fun w hC=>ixM (k+1) w (by omega) (by omega) (by omega)),lV (Instr.loadAt 9 (.pointer (some ⟨b,o+(k+1) * 4+0,none⟩))) (.string ⟨(m.nm).toArray⟩) (fun w hC=>ldN (hAj.chg (hM2.trans hC))),lE .i64 (((((k+1:Nat):Int)):Int)+((1):Int)) (((k+1+1:Nat):Int)) (v1)] (VEx.n) [(0,(.slice (some ⟨b,o,none⟩) l.length c,0)),(3,(.int .i64 (((k+1+1:Nat):Int)),0))] [] (hQ:=?_)
     intro a3 w3 hS3 hK3 hM3
     exact ⟨l.length - (k+1+1),by omega,k+1+1,rfl,by omega,by rw [hok,hp];simp [q0,q1],hS3,hM2.trans hM3⟩
    | false =>
     refine vm_piece (E0:=[(0,(.slice (some ⟨b,o,none⟩) l.length c,0)),(3,(.int .i64 (((k+1:Nat):Int)),0))]) kr [(4,2),(4,3),(4,12),(4,13),(4,15),(4,18),(4,20)] gvbN [cI (cI gvb0)] kr hS2 [(.p _ true h1),dF (nT q0),dF (nT q0),dF (nT q0),(.p _ true h0),(.p _ true h0),(.p _ true h0),(.p _ true h0),(.p _ true h0),(.p _ true h0),(.p _ true h0),(.p _ true h0),(.p _ true h0),(.p _ true h0),(.p _ true h0),(.p _ true h0),dF (nT q0),(.p _ true h0),dF (nT q0),dT (nF q1)] [lV (Instr.indexAt 48 (.slice (some ⟨b,o,none⟩) (l.length) (c)) (.int .i64 (((k+1:Nat):Int)))) (.pointer (some ⟨b,o+(k+1) * 4,none⟩)) (fun w hC=>ixM (k+1) w (by omega) (by omega) (by omega)),lV (Instr.loadAt 23 (.pointer (some ⟨b,o+(k+1) * 4,none⟩))) (vMt m) (fun w hC=>ldM (hAj.chg (hM2.trans hC))),cV (hN),lE .i64 (((((k+1:Nat):Int)):Int) - ((1):Int)) ((k:Int)) (v2),lV (Instr.indexAt 48 (.slice (some ⟨b,o,none⟩) (l.length) (c)) (.int .i64 ((k:Int)))) (.pointer (some ⟨b,o+k * 4,none⟩)) (fun w hC=>ixM k w (by omega) (by omega) (by omega)),lV (Instr.loadAt 9 (.pointer (some ⟨b,o+k * 4+0,none⟩))) (.string ⟨(p.nm).toArray⟩) (fun w hC=>ldN (hAk.chg (hM2.trans hC))),lV (Instr.indexAt 48 (.slice (some ⟨b,o,none⟩) (l.length) (c)) (.int .i64 (((k+1:Nat):Int)))) (.pointer (some ⟨b,o+(k+1) * 4,none⟩)) (fun w hC=>ixM (k+1) w (by omega) (by omega) (by omega)),lV (Instr.loadAt 9 (.pointer (some ⟨b,o+(k+1) * 4+0,none⟩))) (.string ⟨(m.nm).toArray⟩) (fun w hC=>ldN (hAj.chg (hM2.trans hC)))] (VEx.r) [(2,(.bool false,0))] [] (hQ:=?_)
     intro a3 w3 hS3 hK3 hM3
     exact ret_r (vm_out (fn:=Tryz.f38) hS3 (.bool false) (fun g=>by kernel_rfl) ⟨by rw [show validT l=false from by unfold validT;rw [hok];simp [q0,q1]],(hM2.trans hM3).bl0⟩)
   | false =>
    refine vm_piece (E0:=[(0,(.slice (some ⟨b,o,none⟩) l.length c,0)),(3,(.int .i64 (((k+1:Nat):Int)),0))]) kr [(4,2),(4,3)] gvbN [cI (cI gvb0)] kr hS2 [(.p _ true h1),dT (nF q0),dT (nF q0),dT (nF q0),.u,.u,.u,.u,.u,.u,.u,.u,.u,.u,.u,.u,dT (nF q0),dT (nF q0),.t] [lV (Instr.indexAt 48 (.slice (some ⟨b,o,none⟩) (l.length) (c)) (.int .i64 (((k+1:Nat):Int)))) (.pointer (some ⟨b,o+(k+1) * 4,none⟩)) (fun w hC=>ixM (k+1) w (by omega) (by omega) (by omega)),lV (Instr.loadAt 23 (.pointer (some ⟨b,o+(k+1) * 4,none⟩))) (vMt m) (fun w hC=>ldM (hAj.chg (hM2.trans hC))),cV (hN)] (VEx.r) [(2,(.bool false,0))] [] (hQ:=?_)
    intro a3 w3 hS3 hK3 hM3
    exact ret_r (vm_out (fn:=Tryz.f38) hS3 (.bool false) (fun g=>by kernel_rfl) ⟨by rw [show validT l=false from by unfold validT;rw [hok];simp [q0]],(hM2.trans hM3).bl0⟩)
 ·have h1:decide ((j:Int)<((l.length:Nat):Int))=false:=decide_eq_false (by omega)
  obtain rfl:j=l.length:=by omega
  rw [List.drop_length] at hok
  refine vm_piece (E0:=[(0,(.slice base l.length c,0)),(3,(.int .i64 (((l.length:Nat):Int)),0))]) kr [] gvbN [cI (cI gvb0)] kr hS2 [(.p _ false h1)] [] (VEx.x 0) [(0,(.slice base l.length c,0)),(3,(.int .i64 (((l.length:Nat):Int)),0))] [] (hQ:=?_)
  intro a3 w3 hS3 hK3 hM3
  refine exit_n (then_n ?_)
  refine vm_piece (E0:=[(0,(.slice base l.length c,0)),(3,(.int .i64 (((l.length:Nat):Int)),0))]) kr [] gvbN (cPost 0 gvbC) kr hS3 [] [] (VEx.r) [(2,(.bool (decide (((l.length:Nat):Int)≤(100:Int))),0))] [] (hQ:=?_)
  intro a4 w4 hS4 hK4 hM4
  exact vm_out (fn:=Tryz.f38) hS4 (.bool (decide (((l.length:Nat):Int)≤(100:Int)))) (fun g=>by kernel_rfl) ⟨by rw [show validT l=decide (((l.length:Nat):Int)≤(100:Int)) from by unfold validT;rw [hok];exact (dec_nat l.length 100).symm ▸ rfl],((hM2.trans hM3).trans hM4).bl0⟩
def findT (l:List Mt) (s:List UInt8):Option Mt:=l.find? fun m=>m.nm == s
def findV:Option Mt→Value
 | some m=>.tuple #[vMt m,.bool true]
 | none=>.tuple #[vMt zM,.bool false]
noncomputable def gfN:Nat:=Tryz.f34.ntmps
noncomputable def gfC:Code:=Tryz.f34.body.getD .skip
noncomputable def gf0:Code:=cB 0 gfC
theorem find_drop {l:List Mt} {s:List UInt8} {j:Nat} (h:j<l.length):findT (l.drop j) s=if l[j].nm == s then some l[j] else findT (l.drop (j+1)) s:=by
 unfold findT
 rw [List.drop_eq_getElem_cons h,List.find?_cons]
 cases l[j].nm == s <;> rfl
theorem gnFind_any (l:List Mt) (s:List UInt8) (base:Option Addr) (c:Nat) (w:World) (hR:RdS w base (encM l)) (hn:l.length≤1000000):Calls Tryz.prog 34 #[.slice base l.length c,.string ⟨s.toArray⟩] w (RetV (findV (findT l s)) w):=by
 refine vm_start [.slice base l.length c,.string ⟨s.toArray⟩] (fn:=Tryz.f34) (c:=gfC) kr kr nle ?_
 intro a hS
 have hS:St gfN [(0,(.slice base l.length c,0)),(1,(.string ⟨s.toArray⟩,0))] a:=hS
 refine wp_cut 0 kr ?_
 refine vm_fragA (X:=⟨w,[]⟩) kr [] gfN (cPre 0 gfC) (ne_nil kr) (fun r=>[(0,(.slice base l.length c,0)),(1,(.string ⟨(s).toArray⟩,0))]) (fun r=>[]) 0 (fun _=>(0,0)) (hS) (memOk0 w _) (fun r hr=>⟨rfl,rfl⟩) (keysLt_all kr) [] [] (VEx.n) (fun r=>[(0,(.slice base l.length c,0)),(1,(.string ⟨(s).toArray⟩,0)),(4,(.pointer (some ⟨(r 0).1,0,none⟩),1)),(6,(.int .i64 (((0:Nat):Int)),0))]) [] (fun r=>[(0,(23,zMc))]) (fun r g=>by kernel_rfl) (fun r g=>by kernel_rfl) ?_
 intro r a1 w1 hr hS1 hK1 hM1
 have hh:=hM1.has 0 _ rfl
 have hb1:=hM1.below.bl0
 have hbw:=own_nil hh.2
 have hH:=hh.1
 change Hc w1 (r 0).1 _ _ at hH
 change w.heap.size≤(r 0).1 at hbw
 generalize hrb:(r 0).1=b4 at *
 have hS1:St gfN [(0,(.slice base l.length c,0)),(1,(.string ⟨s.toArray⟩,0)),(4,(.pointer (some ⟨b4,0,none⟩),0)),(6,(.int .i64 ((0:Nat):Int),0))] a1:=hS1.re rfl
 clear hM1 hh hr hS hK1
 refine wp_for 0 kr kr (fun n a' w'=>∃ j,l.length - j=n∧j≤l.length∧findT l s=findT (l.drop j) s∧St gfN [(0,(.slice base l.length c,0)),(1,(.string ⟨s.toArray⟩,0)),(4,(.pointer (some ⟨b4,0,none⟩),0)),(6,(.int .i64 (j:Int),0))] a'∧Hc w' b4 23 zMc∧Below w.heap.size w w') (l.length - 0) ⟨0,rfl,by omega,rfl,hS1,hH,hb1⟩ ?_
 clear hS1 hH
 rintro n a2 w2 ⟨j,rfl,hj,hf,hS2,hH2,hB2⟩
 refine wpL_one ?_
 have hsz2:=hB2.size
 have hw3:∀ w',Chg [b4] w2 w'→Below w.heap.size w w':=fun w' hC=>hB2.trans (hC.below hB2.size (fun y hy=>by rw [List.mem_singleton] at hy;omega))
 rcases Nat.lt_or_ge j l.length with hjl | hjl
 ·have h1:decide ((j:Int)<((l.length:Nat):Int))=true:=decide_eq_true (by omega)
  have hR2:=hR.bl hB2
  obtain ⟨b,o,rfl,hA⟩:=hR2.at j hjl
  have hbb:b<w.heap.size:=by
   rcases hR with h | ⟨b',o',e,h⟩
   ·have:=encM_len l;rw [h] at this;simp at this;omega
   ·cases e
    have hl0:(encM l)[0]?=some ((encM l)[0]'(by rw [encM_len];omega)):=List.getElem?_eq_getElem _
    have:=lt_of_cell (h 0 _ hl0)
    exact this
  have hAj:=hA j hjl
  have hAC:∀ w',Chg [b4] w2 w'→MAt w' b (o+j * 4) l[j]:=fun w' hC=>⟨hC.cell (by simp;omega) hAj.c0,hC.cell (by simp;omega) hAj.c1,hC.cell (by simp;omega) hAj.c2,hC.cell (by simp;omega) hAj.c3⟩
  have v1:IntKind.i64.wrap ((j:Int)+1)=((j+1:Nat):Int):=by rw [wr64 (by omega) (by omega)];omega
  rw [find_drop hjl,← str_beq] at hf
  generalize l[j]=m at *
  cases q0:(((ByteArray.mk (m.nm).toArray).toList == (ByteArray.mk (s).toArray).toList)) with
  | true =>
   refine vk (X:=⟨w2,[b4]⟩) [(4,2),(4,4),(5,2),(5,3)] gfN [cI (cI gf0)] (fun r=>[(0,(.slice (some ⟨b,o,none⟩) l.length c,0)),(1,(.string ⟨(s).toArray⟩,0)),(4,(.pointer (some ⟨r 0,0,none⟩),1)),(6,(.int .i64 ((j:Int)),0))]) (fun r=>[(0,(23,zMc))]) 1 (fun _=>b4) ((hS2.re (l':=[(0,(.slice (some ⟨b,o,none⟩) l.length c,0)),(1,(.string ⟨s.toArray⟩,0)),(4,(.pointer (some ⟨b4,0,none⟩),1)),(6,(.int .i64 (j:Int),0))]) rfl)) (memOk1 hH2) [(.p _ true h1),dT q0] [lV (Instr.indexAt 48 (.slice (some ⟨b,o,none⟩) (l.length) (c)) (.int .i64 ((j:Int)))) (.pointer (some ⟨b,o+j * 4,none⟩)) (fun w hC=>ixM j w (by omega) (by omega) (by omega)),lV (Instr.loadAt 9 (.pointer (some ⟨b,o+j * 4+0,none⟩))) (.string ⟨(m.nm).toArray⟩) (fun w hC=>ldN (hAC w hC)),lV (Instr.indexAt 48 (.slice (some ⟨b,o,none⟩) (l.length) (c)) (.int .i64 ((j:Int)))) (.pointer (some ⟨b,o+j * 4,none⟩)) (fun w hC=>ixM j w (by omega) (by omega) (by omega)),lV (Instr.loadAt 23 (.pointer (some ⟨b,o+j * 4,none⟩))) (vMt m) (fun w hC=>ldM (hAC w hC))] (VEx.r) (fun r=>[(4,(.pointer (some ⟨r 0,0,none⟩),1)),(5,(.bool true,0))]) [] (fun r=>[(0,(23,(cellsM m).toArray))]) ?_
   intro a3 w3 hS3 hK3 hM3
   exact ret_r (vm_ret (fn:=Tryz.f34) hS3 hM3 (.tuple #[vMt m,.bool true]) (fun g=>by kernel_rfl) ⟨by rw [hf,q0];rfl,hw3 w3 hM3.below⟩)
  | false =>
   refine vk (X:=⟨w2,[b4]⟩) [(4,2),(4,4),(3,1)] gfN [cI (cI gf0)] (fun r=>[(0,(.slice (some ⟨b,o,none⟩) l.length c,0)),(1,(.string ⟨(s).toArray⟩,0)),(4,(.pointer (some ⟨r 0,0,none⟩),1)),(6,(.int .i64 ((j:Int)),0))]) (fun r=>[(0,(23,zMc))]) 1 (fun _=>b4) ((hS2.re (l':=[(0,(.slice (some ⟨b,o,none⟩) l.length c,0)),(1,(.string ⟨s.toArray⟩,0)),(4,(.pointer (some ⟨b4,0,none⟩),1)),(6,(.int .i64 (j:Int),0))]) rfl)) (memOk1 hH2) [(.p _ true h1),dF q0] [lV (Instr.indexAt 48 (.slice (some ⟨b,o,none⟩) (l.length) (c)) (.int .i64 ((j:Int)))) (.pointer (some ⟨b,o+j * 4,none⟩)) (fun w hC=>ixM j w (by omega) (by omega) (by omega)),lV (Instr.loadAt 9 (.pointer (some ⟨b,o+j * 4+0,none⟩))) (.string ⟨(m.nm).toArray⟩) (fun w hC=>ldN (hAC w hC)),lE .i64 ((((j:Int)):Int)+((1):Int)) (((j+1:Nat):Int)) (v1)] (VEx.n) (fun r=>[(0,(.slice (some ⟨b,o,none⟩) l.length c,0)),(1,(.string ⟨(s).toArray⟩,0)),(4,(.pointer (some ⟨r 0,0,none⟩),1)),(6,(.int .i64 (((j+1:Nat):Int)),0))]) [] (fun r=>[(0,(23,zMc))]) ?_
   intro a3 w3 hS3 hK3 hM3
   exact ⟨l.length - (j+1),by omega,j+1,rfl,by omega,by rw [hf,q0];rfl,hS3.re rfl,(hM3.has 0 _ rfl).1,hw3 w3 hM3.below⟩
 ·have h1:decide ((j:Int)<((l.length:Nat):Int))=false:=decide_eq_false (by omega)
  obtain rfl:j=l.length:=by omega
  rw [List.drop_length] at hf
  refine vk (X:=⟨w2,[b4]⟩) [] gfN [cI (cI gf0)] (fun r=>[(0,(.slice base l.length c,0)),(1,(.string ⟨(s).toArray⟩,0)),(4,(.pointer (some ⟨r 0,0,none⟩),1)),(6,(.int .i64 (((l.length:Nat):Int)),0))]) (fun r=>[(0,(23,zMc))]) 1 (fun _=>b4) ((hS2.re (l':=[(0,(.slice base l.length c,0)),(1,(.string ⟨s.toArray⟩,0)),(4,(.pointer (some ⟨b4,0,none⟩),1)),(6,(.int .i64 ((l.length:Nat):Int),0))]) rfl)) (memOk1 hH2) [(.p _ false h1)] [] (VEx.x 0) (fun r=>[(0,(.slice base l.length c,0)),(1,(.string ⟨(s).toArray⟩,0)),(4,(.pointer (some ⟨r 0,0,none⟩),1)),(6,(.int .i64 (((l.length:Nat):Int)),0))]) [] (fun r=>[(0,(23,zMc))]) ?_
  intro a3 w3 hS3 hK3 hM3
  refine exit_n (then_n ?_)
  refine vk (X:=⟨w2,[b4]⟩) [] gfN (cPost 0 gfC) (fun r=>[(0,(.slice base l.length c,0)),(1,(.string ⟨(s).toArray⟩,0)),(4,(.pointer (some ⟨r 0,0,none⟩),1)),(6,(.int .i64 (((l.length:Nat):Int)),0))]) (fun r=>[(0,(23,zMc))]) 100 (fun _=>b4) (hS3) (hM3) [] [] (VEx.r) (fun r=>[(4,(.pointer (some ⟨r 0,0,none⟩),1)),(5,(.bool false,0))]) [] (fun r=>[(0,(23,zMc))]) ?_
  intro a4 w4 hS4 hK4 hM4
  exact vm_ret (fn:=Tryz.f34) hS4 hM4 (.tuple #[vMt zM,.bool false]) (fun g=>by kernel_rfl) ⟨by rw [hf];rfl,hw3 w4 hM4.below⟩

theorem sLt_eq (a b:List UInt8):sLt a b=Op.bytesLess a b:=by
 unfold sLt
 rw [ByteArray.toList_eq,ByteArray.toList_eq]
theorem u8_lt {a b:UInt8}:a<b↔a.toNat<b.toNat:=UInt8.lt_iff_toNat_lt
theorem u8_ext {a b:UInt8} (h:a.toNat=b.toNat):a=b:=UInt8.toNat_inj.1 h
theorem bL_cons (c d:UInt8) (a b:List UInt8):Op.bytesLess (c :: a) (d :: b)=(decide (c<d) || (c == d && Op.bytesLess a b)):=rfl
theorem bL_irr:∀ a:List UInt8,Op.bytesLess a a=false
 | []=>rfl
 | c :: a=>by
  rw [bL_cons,bL_irr a,decide_eq_false (by rw [u8_lt];omega)];simp
theorem bL_total:∀ a b:List UInt8,Op.bytesLess a b=false→Op.bytesLess b a=false→a=b
 | [],[],_,_=>rfl
 | [],_ :: _,h,_=>by cases h
 | _ :: _,[],_,h=>by cases h
 | c :: a,d :: b,h1,h2=>by
  rw [bL_cons] at h1 h2
  simp only [Bool.or_eq_false_iff,decide_eq_false_iff_not,u8_lt] at h1 h2
  have e:c=d:=u8_ext (by omega)
  subst e
  have g1:=h1.2
  have g2:=h2.2
  simp only [beq_self_eq_true,Bool.true_and] at g1 g2
  rw [bL_total a b g1 g2]
theorem bL_trans:∀ a b c:List UInt8,Op.bytesLess a b=true→Op.bytesLess b c=true→Op.bytesLess a c=true
 | [],[],_,h,_=>by cases h
 | _ :: _,[],_,h,_=>by cases h
 | _,_ :: _,[],_,h=>by cases h
 | [],_ :: _,_ :: _,_,_=>rfl
 | x :: a,y :: b,z :: c,h1,h2=>by
  rw [bL_cons] at h1 h2 ⊢
  simp only [Bool.or_eq_true,decide_eq_true_eq,Bool.and_eq_true,beq_iff_eq,u8_lt] at h1 h2 ⊢
  rcases h1 with h1 | ⟨rfl,h1⟩
  ·rcases h2 with h2 | ⟨rfl,h2⟩
   ·left;omega
   ·left;exact h1
  ·rcases h2 with h2 | ⟨rfl,h2⟩
   ·left;exact h2
   ·right;exact ⟨rfl,bL_trans a b c h1 h2⟩
theorem sLt_irr (a:List UInt8):sLt a a=false:=by rw [sLt_eq];exact bL_irr a
theorem sLt_trans {a b c:List UInt8} (h:sLt a b=true) (k:sLt b c=true):sLt a c=true:=by rw [sLt_eq] at *;exact bL_trans a b c h k
theorem sLt_asym {a b:List UInt8} (h:sLt a b=true):sLt b a=false:=by
 cases k:sLt b a with
 | false=>rfl
 | true=>have:=sLt_trans h k;rw [sLt_irr] at this;cases this
theorem sLt_total {a b:List UInt8} (h:sLt a b=false) (k:sLt b a=false):a=b:=by rw [sLt_eq] at *;exact bL_total a b h k
theorem sLt_ne {a b:List UInt8} (h:sLt a b=true):a≠b:=by
 rintro rfl
 rw [sLt_irr] at h;cases h
theorem sLt_gt {a b:List UInt8} (h:sLt a b=false) (k:a≠b):sLt b a=true:=by
 cases h2:sLt b a with
 | true=>rfl
 | false=>exact absurd (sLt_total h h2) k
def insT (m:Mt):List Mt→List Mt
 | []=>[m]
 | x :: r=>if sLt x.nm m.nm=true then x :: insT m r else if x.nm=m.nm then m :: r else m :: x :: r
theorem insT_lt {m x:Mt} {r:List Mt} (h:sLt x.nm m.nm=true):insT m (x :: r)=x :: insT m r:=by rw [insT,if_pos h]
theorem insT_eq {m x:Mt} {r:List Mt} (h:x.nm=m.nm):insT m (x :: r)=m :: r:=by rw [insT,if_neg (by rw [h,sLt_irr];decide),if_pos h]
theorem insT_gt {m x:Mt} {r:List Mt} (h:sLt m.nm x.nm=true):insT m (x :: r)=m :: x :: r:=by rw [insT,if_neg (by rw [sLt_asym h];decide),if_neg (fun e=>sLt_ne h e.symm)]
def posT (s:List UInt8) (l:List Mt):Nat:=(l.takeWhile fun x=>sLt x.nm s).length
theorem posT_le (s:List UInt8) (l:List Mt):posT s l≤l.length:=tw_len _ _
theorem posT_lt {s:List UInt8} {l:List Mt} {i:Nat} (h:i<l.length) (hi:i<posT s l):sLt l[i].nm s=true:=tw_at (fun x:Mt=>sLt x.nm s) l i h hi
theorem ins_has {m:Mt}:∀ {l:List Mt} (h:posT m.nm l<l.length),(l[posT m.nm l]'h).nm=m.nm→insT m l=l.set (posT m.nm l) m
 | x :: r,h,e=>by
  cases hx:sLt x.nm m.nm with
  | true =>
   have hp:posT m.nm (x :: r)=posT m.nm r+1:=by unfold posT;rw [List.takeWhile_cons,if_pos hx];rfl
   rw [insT_lt hx]
   simp only [hp,List.getElem_cons_succ] at e
   rw [hp,List.set_cons_succ,ins_has (by rw [hp] at h;simpa using h) e]
  | false =>
   have hp:posT m.nm (x :: r)=0:=by unfold posT;rw [List.takeWhile_cons,if_neg (by rw [hx];decide)];rfl
   simp only [hp,List.getElem_cons_zero] at e
   rw [insT_eq e,hp];rfl
theorem ins_not {m:Mt}:∀ {l:List Mt},(∀ h:posT m.nm l<l.length,(l[posT m.nm l]'h).nm≠m.nm)→insT m l=l.take (posT m.nm l)++m :: l.drop (posT m.nm l)
 | [],_=>rfl
 | x :: r,e=>by
  cases hx:sLt x.nm m.nm with
  | true =>
   have hp:posT m.nm (x :: r)=posT m.nm r+1:=by unfold posT;rw [List.takeWhile_cons,if_pos hx];rfl
   rw [insT_lt hx,hp,ins_not (l:=r) (fun h k=>by
    have:=e (by rw [hp];simpa using h)
    simp only [hp,List.getElem_cons_succ] at this
    exact this k)]
   rfl
  | false =>
   have hp:posT m.nm (x :: r)=0:=by unfold posT;rw [List.takeWhile_cons,if_neg (by rw [hx];decide)];rfl
   have:=e (by rw [hp];simp)
   simp only [hp,List.getElem_cons_zero] at this
   rw [insT_gt (sLt_gt hx this),hp];rfl
theorem ok_cons {p:Option (List UInt8)} {x:Mt} {r:List Mt} (h:okFrom p (x :: r)=true):rightM x=true∧(∀ q,p=some q→sLt q x.nm=true)∧okFrom (some x.nm) r=true:=by
 unfold okFrom at h
 simp only [Bool.and_eq_true] at h
 refine ⟨h.1.1,?_,h.2⟩
 rintro q rfl
 exact h.1.2
theorem ok_mk {p:Option (List UInt8)} {x:Mt} {r:List Mt} (h1:rightM x=true) (h2:∀ q,p=some q→sLt q x.nm=true) (h3:okFrom (some x.nm) r=true):okFrom p (x :: r)=true:=by
 unfold okFrom
 cases p with
 | none=>simp [h1,h3]
 | some q=>simp [h1,h3,h2 q rfl]
theorem ok_above {x:List UInt8}:∀ {l:List Mt},okFrom (some x) l=true→∀ y,y ∈ l→sLt x y.nm=true
 | [],_,y,hy=>by cases hy
 | z :: r,h,y,hy=>by
  obtain ⟨h1,h2,h3⟩:=ok_cons h
  rcases List.mem_cons.1 hy with rfl | hy
  ·exact h2 x rfl
  ·exact sLt_trans (h2 x rfl) (ok_above h3 y hy)
theorem posT_ge {s:List UInt8}:∀ {l:List Mt} {p:Option (List UInt8)} {i:Nat} (h:i<l.length),okFrom p l=true→posT s l≤i→sLt l[i].nm s=false
 | x :: r,p,i,h,ho,hi=>by
  obtain ⟨h1,h2,h3⟩:=ok_cons ho
  cases hx:sLt x.nm s with
  | true =>
   have hp:posT s (x :: r)=posT s r+1:=by unfold posT;rw [List.takeWhile_cons,if_pos hx];rfl
   cases i with
   | zero=>omega
   | succ i=>exact posT_ge (l:=r) (by simpa using h) h3 (by omega)
  | false =>
   cases i with
   | zero=>exact hx
   | succ i =>
    have hm:=ok_above h3 (r[i]'(by simpa using h)) (List.getElem_mem _)
    rw [List.getElem_cons_succ]
    cases hc:sLt (r[i]'(by simpa using h)).nm s with
    | false=>rfl
    | true=>rw [sLt_trans hm hc] at hx;cases hx
def insR (m:Mt):Bool→List Mt→List Mt
 | d,[]=>if d then [] else [m]
 | d,x :: r=>(if (!d && !sLt x.nm m.nm)=true then [m] else [])++((if x.nm=m.nm then [] else [x])++insR m (d || !sLt x.nm m.nm) r)
theorem insR_done {m:Mt}:∀ {l:List Mt},(∀ y,y ∈ l→sLt m.nm y.nm=true)→insR m true l=l
 | [],_=>rfl
 | x :: r,h=>by
  have hx:=h x (by simp)
  have hn:¬ x.nm=m.nm:=fun e=>sLt_ne hx e.symm
  rw [insR,if_neg hn,Bool.true_or,insR_done (l:=r) (fun y hy=>h y (by simp [hy]))]
  rfl
theorem insR_ins {m:Mt}:∀ {l:List Mt} {p:Option (List UInt8)},okFrom p l=true→insR m false l=insT m l
 | [],_,_=>rfl
 | x :: r,p,ho=>by
  obtain ⟨h1,h2,h3⟩:=ok_cons ho
  have ha:=ok_above h3
  cases hx:sLt x.nm m.nm with
  | true =>
   rw [insT_lt hx,insR,hx,if_neg (sLt_ne hx),← insR_ins h3]
   rfl
  | false =>
   by_cases e:x.nm=m.nm
   ·rw [insT_eq e,insR,hx,if_pos e]
    simp only [Bool.not_false,Bool.and_self,if_true,Bool.or_true]
    rw [insR_done (fun y hy=>by rw [← e];exact ha y hy)]
    rfl
   ·have hg:=sLt_gt hx e
    rw [insT_gt hg,insR,hx,if_neg e]
    simp only [Bool.not_false,Bool.and_self,if_true,Bool.or_true]
    rw [insR_done (fun y hy=>sLt_trans hg (ha y hy))]
    rfl
def putT (l:List Mt) (m:Mt):List Mt × Int:=if (validT l && rightM m)=true then (if (insT m l).length≤100 then (insT m l,0) else ([],3)) else ([],1)
theorem ins_ok {m:Mt} (hm:rightM m=true):∀ {l:List Mt} {p:Option (List UInt8)},okFrom p l=true→(∀ q,p=some q→sLt q m.nm=true)→okFrom p (insT m l)=true
 | [],p,_,hp=>ok_mk hm hp rfl
 | x :: r,p,ho,hp=>by
  obtain ⟨h1,h2,h3⟩:=ok_cons ho
  cases hx:sLt x.nm m.nm with
  | true=>rw [insT_lt hx];exact ok_mk h1 h2 (ins_ok hm h3 (fun q hq=>by cases hq;exact hx))
  | false =>
   by_cases e:x.nm=m.nm
   ·rw [insT_eq e];exact ok_mk hm hp (by rw [← e];exact h3)
   ·have hg:=sLt_gt hx e
    rw [insT_gt hg]
    exact ok_mk hm hp (ok_mk h1 (fun q hq=>by cases hq;exact hg) h3)
theorem put_ok {l A:List Mt} {m:Mt} (h:putT l m=(A,0)):validT l=true∧rightM m=true∧A=insT m l∧A.length≤100:=by
 unfold putT at h
 split at h
 ·rename_i hv
  rw [Bool.and_eq_true] at hv
  split at h
  ·rename_i hl
   obtain ⟨rfl,-⟩:=Prod.mk.injEq .. ▸ h
   exact ⟨hv.1,hv.2,rfl,hl⟩
  ·cases h
 ·cases h
theorem put_valid {l A:List Mt} {m:Mt} (h:putT l m=(A,0)):validT A=true:=by
 obtain ⟨h1,h2,rfl,h4⟩:=put_ok h
 unfold validT at h1 ⊢
 rw [Bool.and_eq_true] at h1 ⊢
 exact ⟨ins_ok h2 h1.1 (fun q hq=>by cases hq),decide_eq_true h4⟩
theorem find_cons (x:Mt) (r:List Mt) (s:List UInt8):findT (x :: r) s=if x.nm=s then some x else findT r s:=by
 unfold findT
 rw [List.find?_cons]
 by_cases e:x.nm=s
 ·rw [if_pos e,show (x.nm == s)=true by simpa using e]
 ·rw [if_neg e,show (x.nm == s)=false by simpa using e]
theorem find_ins (m:Mt):∀ l:List Mt,findT (insT m l) m.nm=some m
 | []=>by rw [insT,find_cons,if_pos rfl]
 | x :: r=>by
  cases hx:sLt x.nm m.nm with
  | true=>rw [insT_lt hx,find_cons,if_neg (sLt_ne hx),find_ins m r]
  | false =>
   by_cases e:x.nm=m.nm
   ·rw [insT_eq e,find_cons,if_pos rfl]
   ·rw [insT_gt (sLt_gt hx e),find_cons,if_pos rfl]
theorem find_other {m:Mt} {s:List UInt8} (h:s≠m.nm):∀ l:List Mt,findT (insT m l) s=findT l s
 | []=>by rw [insT,find_cons,if_neg (fun e=>h e.symm)]
 | x :: r=>by
  cases hx:sLt x.nm m.nm with
  | true=>rw [insT_lt hx,find_cons,find_cons,find_other h r]
  | false =>
   by_cases e:x.nm=m.nm
   ·rw [insT_eq e,find_cons,find_cons,if_neg (fun e=>h e.symm),if_neg (fun e2=>h (e2.symm.trans e))]
   ·rw [insT_gt (sLt_gt hx e),find_cons,if_neg (fun e=>h e.symm)]
theorem find_own:∀ {l:List Mt} {p:Option (List UInt8)} (i:Nat) (h:i<l.length),okFrom p l=true→findT l l[i].nm=some l[i]
 | x :: r,p,0,_,_=>by rw [List.getElem_cons_zero,find_cons,if_pos rfl]
 | x :: r,p,i+1,h,ho=>by
  obtain ⟨h1,h2,h3⟩:=ok_cons ho
  have hm:=ok_above h3 (r[i]'(by simpa using h)) (List.getElem_mem _)
  rw [List.getElem_cons_succ,find_cons,if_neg (sLt_ne hm),find_own i (by simpa using h) h3]
theorem ins_comm {m k:Mt} (h:sLt m.nm k.nm=true):∀ l:List Mt,insT k (insT m l)=insT m (insT k l)
 | []=>by
  show insT k [m]=insT m [k]
  rw [insT_lt h,insT_gt h];rfl
 | x :: r=>by
  cases hx:sLt x.nm m.nm with
  | true=>rw [insT_lt hx,insT_lt (sLt_trans hx h),insT_lt (sLt_trans hx h),insT_lt hx,ins_comm h r]
  | false =>
   by_cases e:x.nm=m.nm
   ·have hk:sLt x.nm k.nm=true:=by rw [e];exact h
    rw [insT_eq e,insT_lt h,insT_lt hk,insT_eq e]
   ·have hg:=sLt_gt hx e
    rw [insT_gt hg,insT_lt h]
    cases hk:sLt x.nm k.nm with
    | true=>rw [insT_lt hk,insT_gt hg]
    | false =>
     by_cases e2:x.nm=k.nm
     ·rw [insT_eq e2,insT_gt h]
     ·have hg2:=sLt_gt hk e2
      rw [insT_gt hg2,insT_gt h]
theorem ins_comm' {m k:Mt} (h:m.nm≠k.nm) (l:List Mt):insT k (insT m l)=insT m (insT k l):=by
 cases hx:sLt m.nm k.nm with
 | true=>exact ins_comm hx l
 | false=>exact (ins_comm (sLt_gt hx h) l).symm

theorem gmFind1_any (m:Mt) (s:List UInt8) (bn:Nat) (w:World) (hs:w.cell? ⟨bn,0,none⟩=some (.string ⟨s.toArray⟩)):Calls Tryz.prog 78 #[vMt m,.pointer (some ⟨bn,0,none⟩)] w (RetV (.bool (m.nm == s)) w):=by
 rw [← str_beq]
 exact vm_pure kr Tryz.func78 rfl [vMt m,.pointer (some ⟨bn,0,none⟩)] nle [(1,2)] [] [lV (Instr.loadAt 9 (.pointer (some ⟨bn,0,none⟩))) (.string ⟨(s).toArray⟩) (fun w hC=>ldS (hC.cell0 hs))]
def fxT (s:List UInt8) (l:List Mt):Nat:=(l.takeWhile fun m=>!(m.nm == s)).length
def ixT (s:List UInt8) (l:List Mt):Int:=if fxT s l<l.length then (fxT s l:Int) else -1
theorem fxT_le (s:List UInt8) (l:List Mt):fxT s l≤l.length:=tw_len _ _
theorem find_fx (s:List UInt8):∀ l:List Mt,findT l s=l[fxT s l]?
 | []=>rfl
 | m :: l=>by
  unfold fxT
  rw [List.takeWhile_cons,find_cons]
  by_cases h:m.nm=s
  ·rw [if_pos h,show (!(m.nm == s))=false by simp [h],if_neg (by decide)];rfl
  ·rw [if_neg h,show (!(m.nm == s))=true by simpa using h,if_pos rfl,find_fx s l];rfl
noncomputable def ifN:Nat:=Tryz.f77.ntmps
noncomputable def ifC:Code:=Tryz.f77.body.getD .skip
noncomputable def if0:Code:=cB 0 ifC
theorem slIndexFuncM_any (l:List Mt) (s:List UInt8) (base:Option Addr) (c bn:Nat) (w:World) (hR:RdS w base (encM l)) (hn:l.length≤1000000) (hs:w.cell? ⟨bn,0,none⟩=some (.string ⟨s.toArray⟩)) :
  Calls Tryz.prog 77 #[.slice base l.length c,.func (.func 78) #[] #[.pointer (some ⟨bn,0,none⟩)]] w (RetV (.int .i64 (ixT s l)) w):=by
 refine vm_start [.slice base l.length c,.func (.func 78) #[] #[.pointer (some ⟨bn,0,none⟩)]] (fn:=Tryz.f77) (c:=ifC) kr kr nle ?_
 intro a hS
 have hS:St ifN [(0,(.slice base l.length c,0)),(1,(.func (.func 78) #[] #[.pointer (some ⟨bn,0,none⟩)],0))] a:=hS
 have hbn:=lt_of_cell hs
 refine wp_cut 0 kr ?_
 refine vm_piece (E0:=[(0,(.slice base l.length c,0)),(1,(.func (.func 78) #[] #[.pointer (some ⟨bn,0,none⟩)],0))]) kr [] ifN (cPre 0 ifC) kr hS [] [] (VEx.n) [(0,(.slice base l.length c,0)),(1,(.func (.func 78) #[] #[.pointer (some ⟨bn,0,none⟩)],0)),(7,(.int .i64 (((l.length:Nat):Int)),0)),(8,(.int .i64 (((0:Nat):Int)),0))] [] (hQ:=?_)
 intro a1 w1 hS1 hK1 hM1
 refine wp_for 0 kr kr (fun n a' w'=>∃ j,l.length - j=n∧j≤fxT s l∧St ifN [(0,(.slice base l.length c,0)),(1,(.func (.func 78) #[] #[.pointer (some ⟨bn,0,none⟩)],0)),(7,(.int .i64 ((l.length:Nat):Int),0)),(8,(.int .i64 (j:Int),0))] a'∧Below w.heap.size w w') (l.length - 0) ⟨0,rfl,Nat.zero_le _,hS1,hM1.bl0⟩ ?_
 clear hS1 hM1 hS hK1
 have hfl:=fxT_le s l
 rintro n a2 w2 ⟨j,rfl,hj,hS2,hB2⟩
 refine wpL_one ?_
 have hs2:=below_cell hB2 hs hbn
 rcases Nat.lt_or_ge j l.length with hjl | hjl
 ·have h1:decide ((j:Int)<((l.length:Nat):Int))=true:=decide_eq_true (by omega)
  obtain ⟨b,o,rfl,hA⟩:=(hR.bl hB2).at j hjl
  have hAj:=hA j hjl
  have v1:IntKind.i64.wrap ((j:Int)+1)=((j+1:Nat):Int):=by rw [wr64 (by omega) (by omega)];omega
  have hC1:∀ w',Chg [] w2 w'→Calls Tryz.prog 78 #[vMt l[j],.pointer (some ⟨bn,0,none⟩)] w' (RetV (.bool (l[j].nm == s)) w'):=fun w' hC=>gmFind1_any l[j] s bn w' (hC.cell0 hs2)
  have ht:j<fxT s l→(l[j].nm == s)=false:=fun h=>by
   have:=tw_at (fun m:Mt=>!(m.nm == s)) l j hjl h
   simpa using this
  have he:j=fxT s l→(l[j].nm == s)=true:=fun h=>by
   have:=tw_end (fun m:Mt=>!(m.nm == s)) l (by unfold fxT at h;omega)
   unfold fxT at h
   simp only [← h] at this
   simpa using this
  generalize l[j]=m at *
  cases hq:m.nm == s with
  | false =>
   rw [hq] at hC1
   have hlt:j<fxT s l:=by
    rcases Nat.lt_or_ge j (fxT s l) with h | h
    ·exact h
    ·rw [he (by omega)] at hq;cases hq
   refine vm_piece (E0:=[(0,(.slice (some ⟨b,o,none⟩) l.length c,0)),(1,(.func (.func 78) #[] #[.pointer (some ⟨bn,0,none⟩)],0)),(7,(.int .i64 (((l.length:Nat):Int)),0)),(8,(.int .i64 ((j:Int)),0))]) kr [(4,3),(4,4),(6,0)] ifN [cI (cI if0)] kr hS2 [(.p _ true h1),.f] [lV (Instr.indexAt 48 (.slice (some ⟨b,o,none⟩) (l.length) (c)) (.int .i64 ((j:Int)))) (.pointer (some ⟨b,o+j * 4,none⟩)) (fun w hC=>ixM j w (by omega) (by omega) (by omega)),lV (Instr.loadAt 23 (.pointer (some ⟨b,o+j * 4,none⟩))) (vMt m) (fun w hC=>ldM (hAj.chg hC)),cW hC1,lE .i64 ((((j:Int)):Int)+((1):Int)) (((j+1:Nat):Int)) (v1)] (VEx.n) [(0,(.slice (some ⟨b,o,none⟩) l.length c,0)),(1,(.func (.func 78) #[] #[.pointer (some ⟨bn,0,none⟩)],0)),(7,(.int .i64 (((l.length:Nat):Int)),0)),(8,(.int .i64 (((j+1:Nat):Int)),0))] [] (hQ:=?_)
   intro a3 w3 hS3 hK3 hM3
   exact ⟨l.length - (j+1),by omega,j+1,rfl,by omega,hS3,hB2.trans (hM3.bl0.mono hB2.size)⟩
  | true =>
   rw [hq] at hC1
   have hlt:¬ j<fxT s l:=fun h=>by rw [ht h] at hq;cases hq
   obtain rfl:j=fxT s l:=by omega
   have hix:ixT s l=((fxT s l:Nat):Int):=by unfold ixT;rw [if_pos hjl]
   rw [hix]
   generalize fxT s l=j at *
   refine vm_piece (E0:=[(0,(.slice (some ⟨b,o,none⟩) l.length c,0)),(1,(.func (.func 78) #[] #[.pointer (some ⟨bn,0,none⟩)],0)),(7,(.int .i64 (((l.length:Nat):Int)),0)),(8,(.int .i64 ((j:Int)),0))]) kr [(4,3),(4,4)] ifN [cI (cI if0)] kr hS2 [(.p _ true h1),.t] [lV (Instr.indexAt 48 (.slice (some ⟨b,o,none⟩) (l.length) (c)) (.int .i64 ((j:Int)))) (.pointer (some ⟨b,o+j * 4,none⟩)) (fun w hC=>ixM j w (by omega) (by omega) (by omega)),lV (Instr.loadAt 23 (.pointer (some ⟨b,o+j * 4,none⟩))) (vMt m) (fun w hC=>ldM (hAj.chg hC)),cW hC1] (VEx.r) [(4,(.int .i64 ((j:Int)),0))] [] (hQ:=?_)
   intro a3 w3 hS3 hK3 hM3
   exact ret_r (vm_out (fn:=Tryz.f77) hS3 (.int .i64 (j:Int)) (fun g=>by kernel_rfl) ⟨rfl,hB2.trans (hM3.bl0.mono hB2.size)⟩)
 ·have h1:decide ((j:Int)<((l.length:Nat):Int))=false:=decide_eq_false (by omega)
  obtain rfl:j=l.length:=by omega
  have hix:ixT s l = -1:=by unfold ixT;rw [if_neg (by omega)]
  rw [hix]
  refine vm_piece (E0:=[(0,(.slice base l.length c,0)),(1,(.func (.func 78) #[] #[.pointer (some ⟨bn,0,none⟩)],0)),(7,(.int .i64 (((l.length:Nat):Int)),0)),(8,(.int .i64 (((l.length:Nat):Int)),0))]) kr [] ifN [cI (cI if0)] kr hS2 [(.p _ false h1)] [] (VEx.x 0) [(0,(.slice base l.length c,0)),(1,(.func (.func 78) #[] #[.pointer (some ⟨bn,0,none⟩)],0)),(7,(.int .i64 (((l.length:Nat):Int)),0)),(8,(.int .i64 (((l.length:Nat):Int)),0))] [] (hQ:=?_)
  intro a3 w3 hS3 hK3 hM3
  refine exit_n (then_n ?_)
  refine vm_piece (E0:=[(0,(.slice base l.length c,0)),(1,(.func (.func 78) #[] #[.pointer (some ⟨bn,0,none⟩)],0)),(7,(.int .i64 (((l.length:Nat):Int)),0)),(8,(.int .i64 (((l.length:Nat):Int)),0))]) kr [] ifN (cPost 0 ifC) kr hS3 [] [] (VEx.r) [(4,(.int .i64 (-1),0))] [] (hQ:=?_)
  intro a4 w4 hS4 hK4 hM4
  exact vm_out (fn:=Tryz.f77) hS4 (.int .i64 (-1)) (fun g=>by kernel_rfl) ⟨rfl,hB2.trans ((hM3.trans hM4).bl0.mono hB2.size)⟩
theorem gmFind_any (l:List Mt) (s:List UInt8) (base:Option Addr) (c:Nat) (w:World) (hR:RdS w base (encM l)) (hn:l.length≤1000000):Calls Tryz.prog 33 #[.slice base l.length c,.string ⟨s.toArray⟩] w (RetV (findV (findT l s)) w):=by
 have hF:∀ b w',Chg ([]:List Nat) w w'→Hc w' b 9 #[.string ⟨s.toArray⟩]→Calls Tryz.prog 77 #[.slice base l.length c,.func (.func 78) #[] #[.pointer (some ⟨b,0,none⟩)]] w' (RetV (.int .i64 (ixT s l)) w'):=fun b w' hC hB=>slIndexFuncM_any l s base c b w' (hR.chg hC) hn (hB.cells rfl)
 rw [find_fx]
 by_cases h:fxT s l<l.length
 ·have hix:ixT s l=((fxT s l:Nat):Int):=by unfold ixT;rw [if_pos h]
  rw [hix] at hF
  rw [List.getElem?_eq_getElem h]
  obtain ⟨b,o,rfl,hA⟩:=hR.at _ h
  have hAj:=hA _ h
  have h1:decide (((fxT s l:Nat):Int)<(0:Int))=false:=decide_eq_false (by omega)
  generalize l[fxT s l]=m at *
  generalize fxT s l=j at *
  exact vm_pure kr Tryz.func33 rfl [.slice (some ⟨b,o,none⟩) l.length c,.string ⟨s.toArray⟩] nle [(4,2),(4,3)] [(.p _ false h1)] [cM 0 9 #[.string ⟨s.toArray⟩] hF,lV (Instr.indexAt 48 (.slice (some ⟨b,o,none⟩) (l.length) (c)) (.int .i64 ((j:Int)))) (.pointer (some ⟨b,o+j * 4,none⟩)) (fun w hC=>ixM j w (by omega) (by omega) (by omega)),lV (Instr.loadAt 23 (.pointer (some ⟨b,o+j * 4,none⟩))) (vMt m) (fun w hC=>ldM (hAj.chg hC))]
 ·have hix:ixT s l = -1:=by unfold ixT;rw [if_neg h]
  rw [hix] at hF
  rw [List.getElem?_eq_none (by omega)]
  exact vm_pure kr Tryz.func33 rfl [.slice base l.length c,.string ⟨s.toArray⟩] nle [] [.t] [cM 0 9 #[.string ⟨s.toArray⟩] hF]
theorem cmp_bl:∀ a b:List UInt8,Lib.compareBytes a b=if Op.bytesLess a b=true then -1 else if a=b then 0 else 1
 | [],[]=>rfl
 | [],_ :: _=>rfl
 | _ :: _,[]=>rfl
 | c :: a,d :: b=>by
  unfold Lib.compareBytes
  rw [bL_cons]
  by_cases h:c<d
  ·rw [if_pos h,decide_eq_true h];rfl
  ·rw [if_neg h,decide_eq_false h]
   by_cases h2:d<c
   ·rw [if_pos h2,if_neg,if_neg]
    ·rintro e
     cases e
     rw [u8_lt] at h2;omega
    ·have:c≠d:=by rintro rfl;rw [u8_lt] at h2;omega
     simp [this]
   ·have e:c=d:=u8_ext (by rw [u8_lt] at h h2;omega)
    subst e
    rw [if_neg h2,cmp_bl a b]
    simp
theorem cmp_lt (a b:List UInt8):decide (Lib.compareBytes a b<(0:Int))=sLt a b:=by
 rw [cmp_bl,sLt_eq]
 cases Op.bytesLess a b with
 | true=>rfl
 | false =>
  rw [if_neg (by decide)]
  split <;> rfl
theorem cmp_eq (a b:List UInt8):(Lib.compareBytes a b == (0:Int))=(a == b):=by
 rw [cmp_bl,← sLt_eq]
 cases h:sLt a b with
 | true =>
  have:=sLt_ne h
  rw [if_pos rfl,show (a == b)=false by simpa using this];rfl
 | false =>
  rw [if_neg (by decide)]
  by_cases e:a=b
  ·rw [if_pos e,e];simp
  ·rw [if_neg e,show (a == b)=false by simpa using e];rfl
theorem gmPut1_any (m:Mt) (s:List UInt8) (w:World):Calls Tryz.prog 81 #[vMt m,.string ⟨s.toArray⟩] w (RetV (.int .i64 (Lib.compareBytes m.nm s)) w):=by
 have hC:∀ w,Calls Tryz.prog 82 #[.string ⟨m.nm.toArray⟩,.string ⟨s.toArray⟩] w (RetV (.int .i64 (Lib.compareBytes m.nm s)) w):=fun w=>(Tryz.strings_Compare ⟨m.nm.toArray⟩ ⟨s.toArray⟩ w).mono (by
  rintro e w' ⟨h1,rfl⟩
  exact ⟨h1,Below.refl _ _⟩)
 generalize Lib.compareBytes m.nm s=q at *
 exact vm_pure kr Tryz.func81 rfl [vMt m,.string ⟨s.toArray⟩] nle [] [] [cV (hC)]

theorem SlG.own {t:TypeId} {z:Array Value} {w0 w:World} {sv:Value} {n:Nat} {xs:List Value} (h:SlG t z w0 w sv n xs):SlO t z w0 w sv n xs:=by
 rcases h with h | ⟨b,m,h0,h1,h2,h3⟩
 ·exact .inl h
 ·exact .inr ⟨b,m,h1,h2,h3⟩
theorem SlO.rds {t:TypeId} {z:Array Value} {w0 w:World} {sv:Value} {n:Nat} {xs:List Value} (h:SlO t z w0 w sv n xs):∃ base c,sv = .slice base n c∧RdS w base xs:=by
 rcases h with ⟨rfl,rfl,rfl⟩ | ⟨b,m,rfl,-,h3⟩
 ·exact ⟨none,0,rfl,.inl rfl⟩
 ·exact ⟨_,_,rfl,.inr ⟨b,0,rfl,fun j v hv=>by rw [Nat.zero_add];exact h3.cell (by rw [List.getElem?_append_left (List.getElem?_eq_some_iff.1 hv).1];exact hv)⟩⟩
theorem encM_one:∀ l:List Mt,((encM l).all fun u=>u.oneCell')=true
 | []=>rfl
 | m :: l=>by rw [encM,List.all_append,encM_one l];rfl
theorem encM_nil {l:List Mt} (h:encM l = []):l = []:=by
 have:=encM_len l
 rw [h] at this
 exact List.eq_nil_of_length_eq_zero (by simp at this;omega)
theorem slClone_nil (c:Nat) (w:World):Calls Tryz.prog 79 #[.slice none 0 c] w (RetV (.slice none 0 0) w):=by
 exact vm_pure kr Tryz.func79 rfl [.slice none 0 c] nle [] [(.p _ true rfl)] []
theorem slClone_some (l:List Mt) (ad:Addr) (c:Nat) (w:World) (hR:RdS w (some ad) (encM l)) (hn:l.length≤1000000):Calls Tryz.prog 79 #[.slice (some ad) l.length c] w (fun e w'=>∃ n m,w.heap.size≤n∧e = .returned (.slice (some ⟨n,0,none⟩) l.length (l.length+m))∧Hc w' n 23 (encM l++zc zMc m).toArray∧Below w.heap.size w w'):=by
 refine vm_start [.slice (some ad) l.length c] (fn:=Tryz.f79) (c:=Tryz.f79.body.getD .skip) kr kr nle ?_
 intro a hS
 have hS:St Tryz.f79.ntmps [(0,(.slice (some ad) l.length c,0))] a:=hS
 refine wpL_one ?_
 cases l with
 | nil =>
  have hA:∀ b w',Chg ([]:List Nat) w w'→Hc w' b 23 #[]→(Builtin.append_ #[48,48] 48 #[.slice (some ⟨b,0,none⟩) 0 0,.slice (some ad) 0 c]).run Tryz.prog w' = .ok (.slice (some ⟨b,0,none⟩) 0 0) w':=fun b w' _ _=>by
   obtain ⟨i,hi,hz,hk,hby⟩:=slT_M.info
   exact run_append_nothing w' _ _ _ _ i slT_M.u hi (some ⟨b,0,none⟩) 0 0 (Nat.le_refl _) (.slice (some ad) 0 c) (Src.ofSlice w' slT_M.u ad 0 c [] (by simp) (fun j u h=>by simp at h) (fun u h=>by cases h))
  refine vm_fragA (X:=⟨w,[]⟩) kr [(3,2)] Tryz.f79.ntmps [Tryz.f79.body.getD .skip] (ne_nil kr) (fun r=>[(0,(.slice (some ad) 0 c,0))]) (fun r=>[]) 0 (fun _=>(0,0)) (hS) (memOk0 w _) (fun r hr=>⟨rfl,rfl⟩) (keysLt_all kr) [(.p _ false rfl)] [lB 3 23 #[] (fun b=>Builtin.append_ #[48,48] 48 #[.slice (some ⟨b,0,none⟩) 0 0,.slice (some ad) 0 c]) (fun b=>.slice (some ⟨b,0,none⟩) 0 0) 4 hA] (VEx.r) (fun r=>[(2,(.slice (some ⟨(r 3).1,0,none⟩) 0 0,4))]) [] (fun r=>[(3,(23,#[]))]) (fun r g=>by kernel_rfl) (fun r g=>by kernel_rfl) ?_
  intro r a1 w1 hr hS1 hK1 hM1
  have hh:=hM1.has 3 _ rfl
  exact vm_ret (fn:=Tryz.f79) hS1 hM1 _ (fun g=>by kernel_rfl) ⟨(r 3).1,0,own_nil hh.2,rfl,by rw [zc_zero,List.append_nil];exact hh.1,hM1.below.bl0⟩
 | cons m l =>
  obtain ⟨b,o,e,hA⟩:=hR.at 0 (by simp)
  cases e
  have hcl:∀ j v,(encM (m :: l))[j]?=some v→w.cell? ⟨b,o+j,none⟩=some v:=by
   rcases hR with h | ⟨b',o',e,h⟩
   ·cases encM_nil h
   ·cases e;exact h
  have hs:∀ w',Chg ([]:List Nat) w w'→Src Tryz.prog 4 48 (.slice (some ⟨b,o,none⟩) (m :: l).length c) (m :: l).length (encM (m :: l)) w':=fun w' hC=>src_at slT_M b o _ c (encM (m :: l)) (encM_len _) (encM_one _) (fun j v hv=>hC.cell0 (hcl j v hv))
  have hpos:0<(m :: l).length:=by simp
  have hs2:=encM_len (m :: l)
  generalize m :: l=l at *
  refine vm_fragA (X:=⟨w,[]⟩) kr [(3,2)] Tryz.f79.ntmps [Tryz.f79.body.getD .skip] (ne_nil kr) (fun r=>[(0,(.slice (some ⟨b,o,none⟩) l.length c,0))]) (fun r=>[]) 0 (fun _=>(0,0)) (hS) (memOk0 w _) (fun r hr=>⟨rfl,rfl⟩) (keysLt_all kr) [(.p _ false rfl)] [lAC slT_M 3 0 0 l.length (.slice (some ⟨b,o,none⟩) l.length c) [] [] (encM l) hs rfl (by omega) (by omega) (by omega)] (VEx.r) (fun r=>[(2,(.slice (some ⟨(r 5).1,0,none⟩) (0+l.length) (0+l.length+(r 5).2),6))]) [] (fun r=>[(5,(23,([]++encM l++zc zMc (r 5).2).toArray))]) (fun r g=>by kernel_rfl) (fun r g=>by kernel_rfl) ?_
  intro r a1 w1 hr hS1 hK1 hM1
  have hh:=hM1.has 5 _ rfl
  exact vm_ret (fn:=Tryz.f79) hS1 hM1 (.slice (some ⟨(r 5).1,0,none⟩) (0+l.length) (0+l.length+(r 5).2)) (fun g=>by kernel_rfl) ⟨(r 5).1,(r 5).2,own_nil hh.2,by rw [Nat.zero_add],hh.1,hM1.below.bl0⟩
theorem bs_u (k:Nat) (hk:k<18446744073709551616) (w:World):(convert 3 124 (.int .i64 (k:Int))).run Tryz.prog w = .ok (.int .u64 (k:Int)) w:=by
 have:IntKind.u64.wrap (k:Int)=k:=by
  show (k:Int) % 18446744073709551616=k
  omega
 go_simp
 try rw [this]
theorem bs_i (k:Nat) (hk:k≤2000000) (w:World):(convert 124 3 (.int .u64 (k:Int))).run Tryz.prog w = .ok (.int .i64 (k:Int)) w:=by
 have:IntKind.i64.wrap (k:Int)=k:=wr64 (by omega) (by omega)
 go_simp
 try rw [this]
theorem bs_h (k:Nat) (w:World):(Op.shift .shr .u64 (k:Int) .u64 1).run Tryz.prog w = .ok (.int .u64 ((k / 2:Nat):Int)) w:=by
 have:(k:Int).fdiv (2 ^ (1:Nat))=((k / 2:Nat):Int):=by
  rw [Int.fdiv_eq_ediv_of_nonneg _ (by decide)];rfl
 unfold Op.shift
 go_simp
 exact Int.fdiv_eq_ediv_of_nonneg _ (by decide)
noncomputable def bsN:Nat:=Tryz.f80.ntmps
noncomputable def bsC:Code:=Tryz.f80.body.getD .skip
noncomputable def bs0:Code:=cB 0 bsC
def hasT (s:List UInt8) (l:List Mt):Bool:=match l[posT s l]? with | some m=>m.nm == s | none=>false
theorem slBinM_any (l:List Mt) (s:List UInt8) (base:Option Addr) (c:Nat) (w:World) (hR:RdS w base (encM l)) (hn:l.length≤1000000) (hok:okFrom none l=true) :
  Calls Tryz.prog 80 #[.slice base l.length c,.string ⟨s.toArray⟩,.func (.func 81) #[] #[]] w (RetV (.tuple #[.int .i64 (posT s l:Int),.bool (hasT s l)]) w):=by
 refine vm_start [.slice base l.length c,.string ⟨s.toArray⟩,.func (.func 81) #[] #[]] (fn:=Tryz.f80) (c:=bsC) kr kr nle ?_
 intro a hS
 have hS:St bsN [(0,(.slice base l.length c,0)),(1,(.string ⟨s.toArray⟩,0)),(2,(.func (.func 81) #[] #[],0))] a:=hS
 have hpl:=posT_le s l
 refine wp_cut 0 kr ?_
 refine vm_piece (E0:=[(0,(.slice base l.length c,0)),(1,(.string ⟨(s).toArray⟩,0)),(2,(.func (.func 81) #[] #[],0))]) kr [] bsN (cPre 0 bsC) kr hS [] [] (VEx.n) [(0,(.slice base l.length c,0)),(1,(.string ⟨(s).toArray⟩,0)),(2,(.func (.func 81) #[] #[],0)),(8,(.int .i64 (((l.length:Nat):Int)),0)),(9,(.int .i64 (((0:Nat):Int)),0)),(10,(.int .i64 (((l.length:Nat):Int)),0))] [] (hQ:=?_)
 intro a1 w1 hS1 hK1 hM1
 refine wp_for 0 kr kr (fun n a' w'=>∃ i j,j - i=n∧i≤posT s l∧posT s l≤j∧j≤l.length∧St bsN [(0,(.slice base l.length c,0)),(1,(.string ⟨s.toArray⟩,0)),(2,(.func (.func 81) #[] #[],0)),(8,(.int .i64 ((l.length:Nat):Int),0)),(9,(.int .i64 (i:Int),0)),(10,(.int .i64 (j:Int),0))] a'∧Below w.heap.size w w') (l.length - 0) ⟨0,l.length,rfl,Nat.zero_le _,hpl,Nat.le_refl _,hS1,hM1.bl0⟩ ?_
 clear hS1 hM1 hS hK1
 rintro n a2 w2 ⟨i,j,rfl,hi,hj,hjl,hS2,hB2⟩
 refine wpL_one ?_
 rcases Nat.lt_or_ge i j with hij | hij
 ·have h1:decide ((i:Int)<(j:Int))=true:=decide_eq_true (by omega)
  obtain ⟨h,hh⟩:∃ h,h=(i+j) / 2:=⟨_,rfl⟩
  have hhj:h<j:=by omega
  have hhi:i≤h:=by omega
  have hhl:h<l.length:=by omega
  obtain ⟨b,o,rfl,hA⟩:=(hR.bl hB2).at h hhl
  have hAj:=hA h hhl
  have v1:IntKind.i64.wrap ((i:Int)+(j:Int))=((i+j:Nat):Int):=by rw [wr64 (by omega) (by omega)];omega
  have v2:IntKind.i64.wrap ((h:Int)+1)=((h+1:Nat):Int):=by rw [wr64 (by omega) (by omega)];omega
  have v3:=bs_h (i+j)
  rw [← hh] at v3
  have hC1:∀ w',Chg [] w2 w'→Calls Tryz.prog 81 #[vMt l[h],.string ⟨s.toArray⟩] w' (RetV (.int .i64 (Lib.compareBytes l[h].nm s)) w'):=fun w' hC=>gmPut1_any l[h] s w'
  have hq:=cmp_lt l[h].nm s
  have ht:h<posT s l→sLt l[h].nm s=true:=fun k=>posT_lt hhl k
  have hg:posT s l≤h→sLt l[h].nm s=false:=fun k=>posT_ge hhl hok k
  generalize hz:Lib.compareBytes l[h].nm s=z at *
  generalize l[h]=m at *
  cases hx:sLt m.nm s with
  | true =>
   rw [hx] at hq
   have hlt:h<posT s l:=by
    rcases Nat.lt_or_ge h (posT s l) with k | k
    ·exact k
    ·rw [hg k] at hx;cases hx
   refine vm_piece (E0:=[(0,(.slice (some ⟨b,o,none⟩) l.length c,0)),(1,(.string ⟨(s).toArray⟩,0)),(2,(.func (.func 81) #[] #[],0)),(8,(.int .i64 (((l.length:Nat):Int)),0)),(9,(.int .i64 ((i:Int)),0)),(10,(.int .i64 ((j:Int)),0))]) kr [(4,2),(4,3),(4,4),(4,5),(5,3),(5,4),(6,1)] bsN [cI (cI bs0)] kr hS2 [(.p _ true h1),(.p _ true hq)] [lE .i64 ((((i:Int)):Int)+(((j:Int)):Int)) (((i+j:Nat):Int)) (v1),lV (convert 3 124 (.int .i64 ((i+j:Nat):Int))) (.int .u64 ((i+j:Nat):Int)) (fun w hC=>bs_u (i+j) (by omega) w),lV (Op.shift .shr .u64 ((i+j:Nat):Int) .u64 1) (.int .u64 (h:Int)) (fun w hC=>v3 w),lV (convert 124 3 (.int .u64 (h:Int))) (.int .i64 (h:Int)) (fun w hC=>bs_i h (by omega) w),lV (Instr.indexAt 48 (.slice (some ⟨b,o,none⟩) (l.length) (c)) (.int .i64 ((h:Int)))) (.pointer (some ⟨b,o+h * 4,none⟩)) (fun w hC=>ixM h w (by omega) (by omega) (by omega)),lV (Instr.loadAt 23 (.pointer (some ⟨b,o+h * 4,none⟩))) (vMt m) (fun w hC=>ldM (hAj.chg hC)),cW hC1,lE .i64 ((((h:Int)):Int)+((1):Int)) (((h+1:Nat):Int)) (v2)] (VEx.n) [(0,(.slice (some ⟨b,o,none⟩) l.length c,0)),(1,(.string ⟨(s).toArray⟩,0)),(2,(.func (.func 81) #[] #[],0)),(8,(.int .i64 (((l.length:Nat):Int)),0)),(9,(.int .i64 (((h+1:Nat):Int)),0)),(10,(.int .i64 ((j:Int)),0))] [] (hQ:=?_)
   intro a3 w3 hS3 hK3 hM3
   exact ⟨j - (h+1),by omega,h+1,j,rfl,by omega,hj,hjl,hS3,hB2.trans (hM3.bl0.mono hB2.size)⟩
  | false =>
   rw [hx] at hq
   have hlt:posT s l≤h:=by
    rcases Nat.lt_or_ge h (posT s l) with k | k
    ·rw [ht k] at hx;cases hx
    ·exact k
   refine vm_piece (E0:=[(0,(.slice (some ⟨b,o,none⟩) l.length c,0)),(1,(.string ⟨(s).toArray⟩,0)),(2,(.func (.func 81) #[] #[],0)),(8,(.int .i64 (((l.length:Nat):Int)),0)),(9,(.int .i64 ((i:Int)),0)),(10,(.int .i64 ((j:Int)),0))]) kr [(4,2),(4,3),(4,4),(4,5),(5,3),(5,4)] bsN [cI (cI bs0)] kr hS2 [(.p _ true h1),(.p _ false hq)] [lE .i64 ((((i:Int)):Int)+(((j:Int)):Int)) (((i+j:Nat):Int)) (v1),lV (convert 3 124 (.int .i64 ((i+j:Nat):Int))) (.int .u64 ((i+j:Nat):Int)) (fun w hC=>bs_u (i+j) (by omega) w),lV (Op.shift .shr .u64 ((i+j:Nat):Int) .u64 1) (.int .u64 (h:Int)) (fun w hC=>v3 w),lV (convert 124 3 (.int .u64 (h:Int))) (.int .i64 (h:Int)) (fun w hC=>bs_i h (by omega) w),lV (Instr.indexAt 48 (.slice (some ⟨b,o,none⟩) (l.length) (c)) (.int .i64 ((h:Int)))) (.pointer (some ⟨b,o+h * 4,none⟩)) (fun w hC=>ixM h w (by omega) (by omega) (by omega)),lV (Instr.loadAt 23 (.pointer (some ⟨b,o+h * 4,none⟩))) (vMt m) (fun w hC=>ldM (hAj.chg hC)),cW hC1] (VEx.n) [(0,(.slice (some ⟨b,o,none⟩) l.length c,0)),(1,(.string ⟨(s).toArray⟩,0)),(2,(.func (.func 81) #[] #[],0)),(8,(.int .i64 (((l.length:Nat):Int)),0)),(9,(.int .i64 ((i:Int)),0)),(10,(.int .i64 ((h:Int)),0))] [] (hQ:=?_)
   intro a3 w3 hS3 hK3 hM3
   exact ⟨h - i,by omega,i,h,rfl,by omega,hlt,by omega,hS3,hB2.trans (hM3.bl0.mono hB2.size)⟩
 ·have h1:decide ((i:Int)<(j:Int))=false:=decide_eq_false (by omega)
  obtain rfl:i=posT s l:=by omega
  obtain rfl:j=posT s l:=by omega
  refine vm_piece (E0:=[(0,(.slice base l.length c,0)),(1,(.string ⟨(s).toArray⟩,0)),(2,(.func (.func 81) #[] #[],0)),(8,(.int .i64 (((l.length:Nat):Int)),0)),(9,(.int .i64 ((posT s l:Int)),0)),(10,(.int .i64 ((posT s l:Int)),0))]) kr [] bsN [cI (cI bs0)] kr hS2 [(.p _ false h1)] [] (VEx.x 0) [(0,(.slice base l.length c,0)),(1,(.string ⟨(s).toArray⟩,0)),(2,(.func (.func 81) #[] #[],0)),(8,(.int .i64 (((l.length:Nat):Int)),0)),(9,(.int .i64 ((posT s l:Int)),0)),(10,(.int .i64 ((posT s l:Int)),0))] [] (hQ:=?_)
  intro a3 w3 hS3 hK3 hM3
  refine exit_n (then_n ?_)
  have hB3:Below w.heap.size w w3:=hB2.trans (hM3.bl0.mono hB2.size)
  by_cases hp:posT s l<l.length
  ·have h2:decide (((posT s l:Nat):Int)<((l.length:Nat):Int))=true:=decide_eq_true (by omega)
   obtain ⟨b,o,rfl,hA⟩:=(hR.bl hB3).at _ hp
   have hAj:=hA _ hp
   have hC1:∀ w',Chg [] w3 w'→Calls Tryz.prog 81 #[vMt l[posT s l],.string ⟨s.toArray⟩] w' (RetV (.int .i64 (Lib.compareBytes l[posT s l].nm s)) w'):=fun w' hC=>gmPut1_any l[posT s l] s w'
   have hq:=cmp_eq l[posT s l].nm s
   have hh:hasT s l=(Lib.compareBytes l[posT s l].nm s == (0:Int)):=by unfold hasT;rw [List.getElem?_eq_getElem hp,hq]
   rw [hh]
   clear hq hh
   generalize Lib.compareBytes l[posT s l].nm s=z at *
   generalize l[posT s l]=m at *
   generalize posT s l=k at *
   refine vm_piece (E0:=[(0,(.slice (some ⟨b,o,none⟩) l.length c,0)),(1,(.string ⟨(s).toArray⟩,0)),(2,(.func (.func 81) #[] #[],0)),(8,(.int .i64 (((l.length:Nat):Int)),0)),(9,(.int .i64 ((k:Int)),0)),(10,(.int .i64 ((k:Int)),0))]) kr [(8,8),(8,9)] bsN (cPost 0 bsC) kr hS3 [(.p _ true h2),(.p _ true h2),(.p _ true h2),(.p _ true h2),(.p _ true h2),(.p _ true h2),(.p _ true h2),(.p _ true h2),(.p _ true h2)] [lV (Instr.indexAt 48 (.slice (some ⟨b,o,none⟩) (l.length) (c)) (.int .i64 ((k:Int)))) (.pointer (some ⟨b,o+k * 4,none⟩)) (fun w hC=>ixM k w (by omega) (by omega) (by omega)),lV (Instr.loadAt 23 (.pointer (some ⟨b,o+k * 4,none⟩))) (vMt m) (fun w hC=>ldM (hAj.chg hC)),cW hC1] (VEx.r) [(6,(.int .i64 ((k:Int)),0)),(7,(.bool (z == (0:Int)),0))] [] (hQ:=?_)
   intro a4 w4 hS4 hK4 hM4
   exact vm_out (fn:=Tryz.f80) hS4 (.tuple #[.int .i64 (k:Int),.bool (z == (0:Int))]) (fun g=>by kernel_rfl) ⟨rfl,hB3.trans (hM4.bl0.mono hB3.size)⟩
  ·have h2:decide (((posT s l:Nat):Int)<((l.length:Nat):Int))=false:=decide_eq_false (by omega)
   have hh:hasT s l=false:=by unfold hasT;rw [List.getElem?_eq_none (by omega)]
   rw [hh]
   generalize posT s l=k at *
   refine vm_piece (E0:=[(0,(.slice base l.length c,0)),(1,(.string ⟨(s).toArray⟩,0)),(2,(.func (.func 81) #[] #[],0)),(8,(.int .i64 (((l.length:Nat):Int)),0)),(9,(.int .i64 ((k:Int)),0)),(10,(.int .i64 ((k:Int)),0))]) kr [] bsN (cPost 0 bsC) kr hS3 [(.p _ false h2),(.p _ false h2),(.p _ false h2),(.p _ false h2),(.p _ false h2),(.p _ false h2),(.p _ false h2),(.p _ false h2),(.p _ false h2)] [] (VEx.r) [(6,(.int .i64 ((k:Int)),0)),(7,(.bool false,0))] [] (hQ:=?_)
   intro a4 w4 hS4 hK4 hM4
   exact vm_out (fn:=Tryz.f80) hS4 (.tuple #[.int .i64 (k:Int),.bool false]) (fun g=>by kernel_rfl) ⟨rfl,hB3.trans (hM4.bl0.mono hB3.size)⟩

noncomputable def inN:Nat:=Tryz.f83.ntmps
noncomputable def inC:Code:=Tryz.f83.body.getD .skip
noncomputable def inL:List Code:=flat inC
noncomputable def inK:Code:=inL.getD 9 .skip
noncomputable def inB:List Code:=flat (cT inK)
theorem cellsM_one (m:Mt):((cellsM m).all fun u=>u.oneCell')=true:=rfl
theorem encM_mid (A:List Mt) (x:Mt) (B:List Mt):encM (A++x :: B)=encM A++(cellsM x++encM B):=by rw [encM_app];rfl
theorem slT_int:Tryz.prog.underlying 3=some (.int .i64):=by kernel_rfl
theorem ins_nil (m:Mt) (d:Nat) (w0 w:World) (h0:w0.heap.size≤w.heap.size) (hd0:w0.heap.size≤d) (hd:Hc w d 23 (cellsM m).toArray) :
  Calls Tryz.prog 83 #[.slice none 0 0,.int .i64 0,.slice (some ⟨d,0,none⟩) 1 1] w (fun e w'=>∃ sv,e = .returned sv∧SlO 23 zMc w0 w' sv (1) (encM ([m]))∧Below w0.heap.size w w'):=by
 refine vm_start [.slice none 0 0,.int .i64 (0),.slice (some ⟨d,0,none⟩) 1 1] (fn:=Tryz.f83) (c:=inC) kr kr nle ?_
 intro a hS
 have hS:St inN [(0,(.slice none 0 0,0)),(1,(.int .i64 0,0)),(2,(.slice (some ⟨d,0,none⟩) 1 1,1))] a:=hS.re rfl
 refine wpL_one ?_
 refine vm_fragA (X:=⟨w,[d]⟩) kr [(7,2)] inN [inC] (ne_nil kr) (fun r=>[(0,(.slice none 0 0,0)),(1,(.int .i64 (0),0)),(2,(.slice (some ⟨(r 0).1,0,none⟩) 1 1,1))]) (fun r=>[(0,(23,(cellsM m).toArray))]) 1 (fun _=>(d,0)) (hS) (memOk1 hd) (fun r hr=>⟨by simp only [hr 0 (by omega)],rfl⟩) (keysLt_all kr) [.f,.t] [lAN slT_M 0 none 0 0 [] (cellsM m) (fun w _=>.inl rfl) rfl (fun _=>rfl) rfl rfl (Nat.le_refl 0) (by omega)] (VEx.r) (fun r=>[(6,(.slice (some ⟨(r 18).1,0,none⟩) (0+1) (0+1+(r 18).2),19))]) [] (fun r=>[(18,(23,([]++cellsM m++zc zMc (r 18).2).toArray))]) (fun r g=>by kernel_rfl) (fun r g=>by kernel_rfl) ?_
 intro r a1 w1 hr hS1 hK1 hM1
 have hh:=hM1.has 18 _ rfl
 have hbel:=hM1.below.below h0 (fun x hx=>by rw [List.mem_singleton] at hx;omega)
 exact vm_ret (fn:=Tryz.f83) hS1 hM1 (.slice (some ⟨(r 18).1,0,none⟩) (0+1) (0+1+(r 18).2)) (fun g=>by kernel_rfl) ⟨_,rfl,.inr ⟨(r 18).1,(r 18).2,rfl,hh.2.elim (fun h=>Nat.le_trans h0 h) (fun h=>by rw [List.mem_singleton] at h;rw [show (r 18).1=d from h];exact hd0),hh.1⟩,hbel⟩
theorem ins_full (m:Mt) (b d n:Nat) (w0 w:World) (h0:w0.heap.size≤w.heap.size) (hb0:w0.heap.size≤b) (hd0:w0.heap.size≤d) (hbd:b≠d) (hn:n≤100000) (hd:Hc w d 23 (cellsM m).toArray) (L:List Mt) (s:Nat) (hL:L.length=n) (hb:Hc w b 23 (encM L++zc zMc 0).toArray) :
  Calls Tryz.prog 83 #[.slice (some ⟨b,0,none⟩) n (n+0),.int .i64 (n:Int),.slice (some ⟨d,0,none⟩) 1 1] w (fun e w'=>∃ sv,e = .returned sv∧SlO 23 zMc w0 w' sv (n+1) (encM (L ++ [m]))∧Below w0.heap.size w w'):=by
 refine vm_start [.slice (some ⟨b,0,none⟩) n (n+0),.int .i64 (n:Int),.slice (some ⟨d,0,none⟩) 1 1] (fn:=Tryz.f83) (c:=inC) kr kr nle ?_
 intro a hS
 have hS:St inN [(0,(.slice (some ⟨b,0,none⟩) n (n+0),1)),(1,(.int .i64 (n:Int),0)),(2,(.slice (some ⟨d,0,none⟩) 1 1,2))] a:=hS.re rfl
 have hel:=encM_len L
 have h22:((n:Int) == ((n:Nat):Int))=true:=beq_self_eq_true _
 refine wpL_one ?_
 refine vm_fragA (X:=⟨w,[b,d]⟩) kr [(1,2),(7,2)] inN [inC] (ne_nil kr) (fun r=>[(0,(.slice (some ⟨(r 0).1,0,none⟩) (n) (n+0),1)),(1,(.int .i64 ((n:Int)),0)),(2,(.slice (some ⟨(r 1).1,0,none⟩) 1 1,2))]) (fun r=>[(0,(23,(encM L++zc zMc 0).toArray)),(1,(23,(cellsM m).toArray))]) 2 (r2 b d) (hS) (memOk2 hb hd hbd) (fun r hr=>⟨by simp only [hr 0 (by omega),hr 1 (by omega)],rfl⟩) (keysLt_all kr) [.f,(.p _ true h22)] [lB 0 23 (encM L++zc zMc 0).toArray (fun b=>Instr.sliceAt 48 (.slice (some ⟨b,0,none⟩) (n) (n+0)) (some (.int .i64 ((n:Int)))) none none) (fun b=>.slice (some ⟨b,if n+0=n then 0 else 0+(n) * 4,none⟩) (n - (n)) (n+0 - (n))) 1 (fun b w hC hB=>slc_run slT_M b 0 (n) (n+0) (n) (n) _ _ w (.inl rfl) (.inr ⟨rfl,rfl⟩) (by omega) (by omega)),lAF slT_M 0 1 n (n+0) (encM L) (zc zMc 0) (cellsM m) (by omega) rfl rfl (by omega) (by omega)] (VEx.r) (fun r=>[(6,(.slice (some ⟨(r 19).1,0,none⟩) (n+1) (n+1+(r 19).2),20))]) [] (fun r=>[(19,(23,(encM L++cellsM m++zc zMc (r 19).2).toArray))]) (fun r g=>by kernel_rfl) (fun r g=>by kernel_rfl) ?_
 intro r a1 w1 hr hS1 hK1 hM1
 have hr0:(r 0).1=b:=congrArg Prod.fst (hr 0 (by omega))
 have hh:=hM1.has 19 _ rfl
 have hbel:=hM1.below.below h0 (fun x hx=>by rcases List.mem_cons.1 hx with rfl | hx <;> simp_all)
 exact vm_ret (fn:=Tryz.f83) hS1 hM1 (.slice (some ⟨(r 19).1,0,none⟩) (n+1) (n+1+(r 19).2)) (fun g=>by kernel_rfl) ⟨_,rfl,.inr ⟨(r 19).1,(r 19).2,rfl,hh.2.elim (fun h=>Nat.le_trans h0 h) (fun h=>(List.mem_cons.1 (show (r 19).1 ∈ [b,d] from h)).elim (fun e=>by rw [e];exact hb0) (fun e=>by rw [List.mem_singleton.1 e];exact hd0)),by rw [encM_app];exact hh.1⟩,hbel⟩
theorem ins_room (m:Mt) (b d n:Nat) (w0 w:World) (h0:w0.heap.size≤w.heap.size) (hb0:w0.heap.size≤b) (hd0:w0.heap.size≤d) (hbd:b≠d) (hn:n≤100000) (hd:Hc w d 23 (cellsM m).toArray) (L:List Mt) (s:Nat) (hL:L.length=n) (hb:Hc w b 23 (encM L++zMc.toList++zc zMc s).toArray) :
  Calls Tryz.prog 83 #[.slice (some ⟨b,0,none⟩) n (n+(s+1)),.int .i64 (n:Int),.slice (some ⟨d,0,none⟩) 1 1] w (fun e w'=>∃ sv,e = .returned sv∧SlO 23 zMc w0 w' sv (n+1) (encM (L ++ [m]))∧Below w0.heap.size w w'):=by
 refine vm_start [.slice (some ⟨b,0,none⟩) n (n+(s+1)),.int .i64 (n:Int),.slice (some ⟨d,0,none⟩) 1 1] (fn:=Tryz.f83) (c:=inC) kr kr nle ?_
 intro a hS
 have hS:St inN [(0,(.slice (some ⟨b,0,none⟩) n (n+(s+1)),1)),(1,(.int .i64 (n:Int),0)),(2,(.slice (some ⟨d,0,none⟩) 1 1,2))] a:=hS.re rfl
 have hel:=encM_len L
 have h22:((n:Int) == ((n:Nat):Int))=true:=beq_self_eq_true _
 refine wpL_one ?_
 refine vm_fragA (X:=⟨w,[b,d]⟩) kr [(1,2),(7,2)] inN [inC] (ne_nil kr) (fun r=>[(0,(.slice (some ⟨(r 0).1,0,none⟩) (n) (n+(s+1)),1)),(1,(.int .i64 ((n:Int)),0)),(2,(.slice (some ⟨(r 1).1,0,none⟩) 1 1,2))]) (fun r=>[(0,(23,(encM L++zMc.toList++zc zMc s).toArray)),(1,(23,(cellsM m).toArray))]) 2 (r2 b d) (hS) (memOk2 hb hd hbd) (fun r hr=>⟨by simp only [hr 0 (by omega),hr 1 (by omega)],rfl⟩) (keysLt_all kr) [.f,(.p _ true h22)] [lB 0 23 (encM L++zMc.toList++zc zMc s).toArray (fun b=>Instr.sliceAt 48 (.slice (some ⟨b,0,none⟩) (n) (n+(s+1))) (some (.int .i64 ((n:Int)))) none none) (fun b=>.slice (some ⟨b,if n+(s+1)=n then 0 else 0+(n) * 4,none⟩) (n - (n)) (n+(s+1) - (n))) 1 (fun b w hC hB=>slc_run slT_M b 0 (n) (n+(s+1)) (n) (n) _ _ w (.inl rfl) (.inr ⟨rfl,rfl⟩) (by omega) (by omega)),lAR slT_M 0 1 n (n+(s+1)) (encM L) zMc.toList (zc zMc s) (cellsM m) (by omega) rfl rfl rfl (by omega)] (VEx.r) (fun r=>[(6,(.slice (some ⟨(r 0).1,0,none⟩) (n+1) (n+(s+1)),1))]) [] (fun r=>[(0,(23,(encM L++cellsM m++zc zMc s).toArray))]) (fun r g=>by kernel_rfl) (fun r g=>by kernel_rfl) ?_
 intro r a1 w1 hr hS1 hK1 hM1
 have hr0:(r 0).1=b:=congrArg Prod.fst (hr 0 (by omega))
 have hh:=hM1.has 0 _ rfl
 have hbel:=hM1.below.below h0 (fun x hx=>by rcases List.mem_cons.1 hx with rfl | hx <;> simp_all)
 exact vm_ret (fn:=Tryz.f83) hS1 hM1 (.slice (some ⟨(r 0).1,0,none⟩) (n+1) (n+(s+1))) (fun g=>by kernel_rfl) ⟨_,rfl,.inr ⟨(r 0).1,s,by rw [show n+1+s=n+(s+1) by omega],by rw [hr0];exact hb0,by rw [encM_app];exact hh.1⟩,hbel⟩
theorem ins_place (m:Mt) (b d n:Nat) (w0 w:World) (h0:w0.heap.size≤w.heap.size) (hb0:w0.heap.size≤b) (hd0:w0.heap.size≤d) (hbd:b≠d) (hn:n≤100000) (hd:Hc w d 23 (cellsM m).toArray) (A B:List Mt) (x:Mt) (q s:Nat) (hq:A.length=q) (hL:n=q+1+B.length) (hb:Hc w b 23 (encM A++cellsM x++encM B++zMc.toList++zc zMc s).toArray) :
  Calls Tryz.prog 83 #[.slice (some ⟨b,0,none⟩) n (n+(s+1)),.int .i64 (q:Int),.slice (some ⟨d,0,none⟩) 1 1] w (fun e w'=>∃ sv,e = .returned sv∧SlO 23 zMc w0 w' sv (n+1) (encM (A++m :: x :: B))∧Below w0.heap.size w w'):=by
 refine vm_start [.slice (some ⟨b,0,none⟩) n (n+(s+1)),.int .i64 (q:Int),.slice (some ⟨d,0,none⟩) 1 1] (fn:=Tryz.f83) (c:=inC) kr kr nle ?_
 intro a hS
 have hS:St inN [(0,(.slice (some ⟨b,0,none⟩) n (n+(s+1)),1)),(1,(.int .i64 (q:Int),0)),(2,(.slice (some ⟨d,0,none⟩) 1 1,2))] a:=hS.re rfl
 have lA:=encM_len A
 have lBB:=encM_len B
 rw [hq] at lA
 have hz0:((encM A++cellsM x++encM B++zMc.toList++zc zMc s).toArray).size=n * 4+4+s * 4:=by
  have:(zc zMc s).length=s * 4:=zc_len zMc s
  simp only [List.size_toArray,List.length_append,lA,lBB,this]
  show q * 4+4+B.length * 4+4+s * 4=_
  omega
 have gm1:∀ j v,(cellsM x++encM B)[j]?=some v→(encM A++cellsM x++(encM B++zMc.toList)++zc zMc s)[0+q * 4+j]?=some v:=fun j v hj=>by
  have e:encM A++cellsM x++(encM B++zMc.toList)++zc zMc s=encM A++((cellsM x++encM B)++(zMc.toList++zc zMc s)):=by simp
  rw [e,show 0+q * 4=(encM A).length by omega]
  exact get_mid hj
 have v1:IntKind.i64.wrap ((n:Int)+1)=((n+1:Nat):Int):=by rw [wr64 (by omega) (by omega)];omega
 have v2:IntKind.i64.wrap ((q:Int)+1)=((q+1:Nat):Int):=by rw [wr64 (by omega) (by omega)];omega
 have h22:((q:Int) == ((n:Nat):Int))=false:=by rw [beq_eq_false_iff_ne];omega
 have h31:decide (((n+(s+1):Nat):Int)<((n+1:Nat):Int))=false:=decide_eq_false (by omega)
 refine wpL_one ?_
 refine vm_fragA (X:=⟨w,[b,d]⟩) kr [(1,2),(8,2),(13,3),(13,4),(14,4),(14,5),(14,6),(15,3),(15,4),(15,7),(15,8),(16,2),(16,4)] inN [inC] (ne_nil kr) (fun r=>[(0,(.slice (some ⟨(r 0).1,0,none⟩) (n) (n+(s+1)),1)),(1,(.int .i64 ((q:Int)),0)),(2,(.slice (some ⟨(r 1).1,0,none⟩) 1 1,2))]) (fun r=>[(0,(23,(encM A++cellsM x++encM B++zMc.toList++zc zMc s).toArray)),(1,(23,(cellsM m).toArray))]) 2 (r2 b d) (hS) (memOk2 hb hd hbd) (fun r hr=>⟨by simp only [hr 0 (by omega),hr 1 (by omega)],rfl⟩) (keysLt_all kr) [.f,(.p _ false h22),(.p _ false h31),.t] [lB 0 23 (encM A++cellsM x++encM B++zMc.toList++zc zMc s).toArray (fun b=>Instr.sliceAt 48 (.slice (some ⟨b,0,none⟩) (n) (n+(s+1))) (some (.int .i64 ((q:Int)))) none none) (fun b=>.slice (some ⟨b,if n+(s+1)=q then 0 else 0+(q) * 4,none⟩) (n - (q)) (n+(s+1) - (q))) 1 (fun b w hC hB=>slc_run slT_M b 0 (n) (n+(s+1)) (q) (n) _ _ w (.inl rfl) (.inr ⟨rfl,rfl⟩) (by omega) (by omega)),lE .i64 (((((n:Nat):Int)):Int)+((1):Int)) (((n+1:Nat):Int)) (v1),lE .i64 (((((n:Nat):Int)):Int)+((1):Int)) (((n+1:Nat):Int)) (v1),lB 0 23 (encM A++cellsM x++encM B++zMc.toList++zc zMc s).toArray (fun b=>Instr.sliceAt 48 (.slice (some ⟨b,0,none⟩) (n) (n+(s+1))) none (some (.int .i64 (((n+1:Nat):Int)))) none) (fun b=>.slice (some ⟨b,0,none⟩) (n+1) (n+(s+1))) 1 (fun b w hC hB=>slc_to slT_M b (0) (n) (n+(s+1)) (n+1) _ w (.inl rfl) (by omega)),lE .i64 ((((q:Int)):Int)+((1):Int)) (((q+1:Nat):Int)) (v2),lB 0 23 (encM A++cellsM x++encM B++zMc.toList++zc zMc s).toArray (fun b=>Instr.sliceAt 48 (.slice (some ⟨b,0,none⟩) (n+1) (n+(s+1))) (some (.int .i64 (((q+1:Nat):Int)))) none none) (fun b=>.slice (some ⟨b,0+(q+1) * 4,none⟩) (n+1 - (q+1)) (n+(s+1) - (q+1))) 1 (fun b w hC hB=>slc_lt slT_M b (0) (n+1) (n+(s+1)) (q+1) (n+1) _ _ w (.inl rfl) (.inr ⟨rfl,rfl⟩) (by omega) (by omega) (by omega)),lOv slT_M Tryz.func141 kr kr kr (tR:=4) kr 0 1 (0+(q+1) * 4) 1 1 (n+1 - (q+1)) (n+(s+1) - (q+1)) (encM A++cellsM x++encM B++zMc.toList++zc zMc s).toArray (cellsM m).toArray (by rw [hz0];simp [cellsM];omega) (by rw [hz0];omega),lE .i64 ((((q:Int)):Int)+((1):Int)) (((q+1:Nat):Int)) (v2),lB 0 23 (encM A++cellsM x++encM B++zMc.toList++zc zMc s).toArray (fun b=>Instr.sliceAt 48 (.slice (some ⟨b,0,none⟩) (n+1) (n+(s+1))) (some (.int .i64 (((q+1:Nat):Int)))) none none) (fun b=>.slice (some ⟨b,0+(q+1) * 4,none⟩) (n+1 - (q+1)) (n+(s+1) - (q+1))) 1 (fun b w hC hB=>slc_lt slT_M b (0) (n+1) (n+(s+1)) (q+1) (n+1) _ _ w (.inl rfl) (.inr ⟨rfl,rfl⟩) (by omega) (by omega) (by omega)),lB 0 23 (encM A++cellsM x++encM B++zMc.toList++zc zMc s).toArray (fun b=>Instr.sliceAt 48 (.slice (some ⟨b,0,none⟩) (n+1) (n+(s+1))) (some (.int .i64 ((q:Int)))) none none) (fun b=>.slice (some ⟨b,0+(q) * 4,none⟩) (n+1 - (q)) (n+(s+1) - (q))) 1 (fun b w hC hB=>slc_lt slT_M b (0) (n+1) (n+(s+1)) (q) (n+1) _ _ w (.inl rfl) (.inr ⟨rfl,rfl⟩) (by omega) (by omega) (by omega)),lCp slT_M 3 0 (0+(q+1) * 4) (n+1 - (q+1)) (n+(s+1) - (q+1)) (0+(q) * 4) (n+1 - (q)) (n+(s+1) - (q)) (n - q) (encM A++cellsM x++encM B++zMc.toList++zc zMc s).toArray (encM A++cellsM x++(cellsM x++encM B)++zc zMc s).toArray (encM A++cellsM x) (encM B++zMc.toList) (zc zMc s) (cellsM x++encM B) (by simp) rfl (by rw [List.length_append,lA];show _=_+4;omega) (by simp only [Nat.min_def];split <;> omega) (by rw [List.length_append,lBB];show 4+_=_;omega) (by rw [List.length_append,List.length_append,lBB];show _+4=4+_;omega) (by rw [List.all_append,encM_one B];rfl) (fun j v hj=>gm1 j v hj),lB 0 23 (encM A++cellsM x++(cellsM x++encM B)++zc zMc s).toArray (fun b=>Instr.sliceAt 48 (.slice (some ⟨b,0,none⟩) (n+1) (n+(s+1))) (some (.int .i64 ((q:Int)))) none none) (fun b=>.slice (some ⟨b,0+(q) * 4,none⟩) (n+1 - (q)) (n+(s+1) - (q))) 1 (fun b w hC hB=>slc_lt slT_M b (0) (n+1) (n+(s+1)) (q) (n+1) _ _ w (.inl rfl) (.inr ⟨rfl,rfl⟩) (by omega) (by omega) (by omega)),lCq slT_M 3 0 1 (0+(q) * 4) (n+1 - (q)) (n+(s+1) - (q)) 0 1 1 1 (encM A++cellsM x++(cellsM x++encM B)++zc zMc s).toArray (encM A++cellsM m++(cellsM x++encM B)++zc zMc s).toArray (cellsM m).toArray (encM A) (cellsM x) (cellsM x++encM B++zc zMc s) (cellsM m) (by simp) (by simp) (by rw [lA];omega) (by simp only [Nat.min_def];split <;> omega) rfl rfl rfl (fun j v hj=>by rw [Nat.zero_add];simpa using hj)] (VEx.r) (fun r=>[(6,(.slice (some ⟨(r 0).1,0,none⟩) (n+1) (n+(s+1)),1))]) [] (fun r=>[(0,(23,(encM A++cellsM m++(cellsM x++encM B)++zc zMc s).toArray))]) (fun r g=>by kernel_rfl) (fun r g=>by kernel_rfl) ?_
 intro r a1 w1 hr hS1 hK1 hM1
 have hr0:(r 0).1=b:=congrArg Prod.fst (hr 0 (by omega))
 have hh:=hM1.has 0 _ rfl
 have hbel:=hM1.below.below h0 (fun x hx=>by rcases List.mem_cons.1 hx with rfl | hx <;> simp_all)
 exact vm_ret (fn:=Tryz.f83) hS1 hM1 (.slice (some ⟨(r 0).1,0,none⟩) (n+1) (n+(s+1))) (fun g=>by kernel_rfl) ⟨_,rfl,.inr ⟨(r 0).1,s,by rw [show n+1+s=n+(s+1) by omega],by rw [hr0];exact hb0,by rw [encM_mid,← List.append_assoc];exact hh.1⟩,hbel⟩
theorem ins_grow (m:Mt) (b d n:Nat) (w0 w:World) (h0:w0.heap.size≤w.heap.size) (hb0:w0.heap.size≤b) (hd0:w0.heap.size≤d) (hbd:b≠d) (hn:n≤100000) (hd:Hc w d 23 (cellsM m).toArray) (A B:List Mt) (x:Mt) (q:Nat) (hq:A.length=q) (hL:n=q+1+B.length) (hb:Hc w b 23 (encM A++(cellsM x++encM B++zc zMc 0)).toArray) :
  Calls Tryz.prog 83 #[.slice (some ⟨b,0,none⟩) n (n+0),.int .i64 (q:Int),.slice (some ⟨d,0,none⟩) 1 1] w (fun e w'=>∃ sv,e = .returned sv∧SlO 23 zMc w0 w' sv (n+1) (encM (A++m :: x :: B))∧Below w0.heap.size w w'):=by
 refine vm_start [.slice (some ⟨b,0,none⟩) n (n+0),.int .i64 (q:Int),.slice (some ⟨d,0,none⟩) 1 1] (fn:=Tryz.f83) (c:=inC) kr kr nle ?_
 intro a hS
 have hS:St inN [(0,(.slice (some ⟨b,0,none⟩) n (n+0),1)),(1,(.int .i64 (q:Int),0)),(2,(.slice (some ⟨d,0,none⟩) 1 1,2))] a:=hS.re rfl
 have lA:=encM_len A
 have lBB:=encM_len B
 rw [hq] at lA
 have lZ:(zc zMc (n - q)).length=(n - q) * 4:=zc_len zMc (n - q)
 have gm2:∀ j v,(cellsM x++encM B)[j]?=some v→(encM A++(cellsM x++encM B++zc zMc 0)).toArray[0+q * 4+j]?=some v:=fun j v hj=>by
  rw [show 0+q * 4=(encM A).length by omega,List.getElem?_toArray]
  exact get_mid hj
 have v1:IntKind.i64.wrap ((n:Int)+1)=((n+1:Nat):Int):=by rw [wr64 (by omega) (by omega)];omega
 have v2:IntKind.i64.wrap ((q:Int)+1)=((q+1:Nat):Int):=by rw [wr64 (by omega) (by omega)];omega
 have v3:IntKind.i64.wrap (((n+1:Nat):Int) - (q:Int))=((n+1 - q:Nat):Int):=by rw [wr64 (by omega) (by omega)];omega
 have h22:((q:Int) == ((n:Nat):Int))=false:=by rw [beq_eq_false_iff_ne];omega
 have h31:decide (((n+0:Nat):Int)<((n+1:Nat):Int))=true:=decide_eq_true (by omega)
 refine wp_flat inC ?_
 refine wp_part 9 ?_
 refine vm_fragA (X:=⟨w,[b,d]⟩) kr [(1,2),(8,2)] inN ((flat inC).take 9) (ne_nil kr) (fun r=>[(0,(.slice (some ⟨(r 0).1,0,none⟩) (n) (n+0),1)),(1,(.int .i64 ((q:Int)),0)),(2,(.slice (some ⟨(r 1).1,0,none⟩) 1 1,2))]) (fun r=>[(0,(23,(encM A++(cellsM x++encM B++zc zMc 0)).toArray)),(1,(23,(cellsM m).toArray))]) 2 (r2 b d) (hS) (memOk2 hb hd hbd) (fun r hr=>⟨by simp only [hr 0 (by omega),hr 1 (by omega)],rfl⟩) (keysLt_all kr) [.f,(.p _ false h22)] [lB 0 23 (encM A++(cellsM x++encM B++zc zMc 0)).toArray (fun b=>Instr.sliceAt 48 (.slice (some ⟨b,0,none⟩) (n) (n+0)) (some (.int .i64 ((q:Int)))) none none) (fun b=>.slice (some ⟨b,if n+0=q then 0 else 0+(q) * 4,none⟩) (n - (q)) (n+0 - (q))) 1 (fun b w hC hB=>slc_run slT_M b 0 (n) (n+0) (q) (n) _ _ w (.inl rfl) (.inr ⟨rfl,rfl⟩) (by omega) (by omega)),lE .i64 (((((n:Nat):Int)):Int)+((1):Int)) (((n+1:Nat):Int)) (v1)] (VEx.n) (fun r=>[(0,(.slice (some ⟨(r 0).1,0,none⟩) (n) (n+0),1)),(1,(.int .i64 ((q:Int)),0)),(2,(.slice (some ⟨(r 1).1,0,none⟩) 1 1,2)),(7,(.int .i64 (1),0)),(8,(.int .i64 (((n:Nat):Int)),0)),(31,(.bool (decide (((n+0:Nat):Int)<((n+1:Nat):Int))),0))]) [] (fun r=>[(0,(23,(encM A++(cellsM x++encM B++zc zMc 0)).toArray)),(1,(23,(cellsM m).toArray))]) (fun r g=>by kernel_rfl) (fun r g=>by kernel_rfl) ?_
 intro r a1 w1 hr hS1 hK1 hM1
 refine then_n ?_
 have hr0:(r 0).1=b:=congrArg Prod.fst (hr 0 (by omega))
 have hr1:(r 1).1=d:=congrArg Prod.fst (hr 1 (by omega))
 have hb1:=(hM1.has 0 _ rfl).1
 have hd1:=(hM1.has 1 _ rfl).1
 have hbel1:=hM1.below.below h0 (fun x hx=>by rcases List.mem_cons.1 hx with rfl | hx <;> simp_all)
 change Hc w1 (r 0).1 _ _ at hb1
 change Hc w1 (r 1).1 _ _ at hd1
 rw [hr0] at hb1 hS1
 rw [hr1] at hd1 hS1
 rw [h31] at hS1
 clear hM1 hK1 hr hb hd
 show wpL Tryz.prog ((flat inC).drop 9) _ a1 w1
 rw [show (flat inC).drop 9=inK :: (flat inC).drop 10 from by kernel_rfl]
 refine wpL_if 31 true 0 kr hS1 (by simp) ?_
 show (cT inK).wp Tryz.prog _ a1 w1
 refine wp_flat (cT inK) ?_
 refine wp_part 1 ?_
 refine vm_fragA (X:=⟨w1,[b,d]⟩) kr [(9,2),(9,5),(9,7),(9,8)] inN ((flat (cT inK)).take 1) (ne_nil kr) (fun r=>[(0,(.slice (some ⟨(r 0).1,0,none⟩) (n) (n+0),1)),(1,(.int .i64 ((q:Int)),0)),(2,(.slice (some ⟨(r 1).1,0,none⟩) 1 1,2)),(7,(.int .i64 (1),0)),(8,(.int .i64 (((n:Nat):Int)),0)),(31,(.bool true,0))]) (fun r=>[(0,(23,(encM A++(cellsM x++encM B++zc zMc 0)).toArray)),(1,(23,(cellsM m).toArray))]) 2 (r2 b d) ((hS1.re (l':=[(0,(.slice (some ⟨b,0,none⟩) n (n+0),1)),(1,(.int .i64 (q:Int),0)),(2,(.slice (some ⟨d,0,none⟩) 1 1,2)),(7,(.int .i64 1,0)),(8,(.int .i64 ((n:Nat):Int),0)),(31,(.bool true,0))]) rfl)) (memOk2 hb1 hd1 hbd) (fun r hr=>⟨by simp only [hr 0 (by omega),hr 1 (by omega)],rfl⟩) (keysLt_all kr) [] [lB 0 23 (encM A++(cellsM x++encM B++zc zMc 0)).toArray (fun b=>Instr.sliceAt 48 (.slice (some ⟨b,0,none⟩) (n) (n+0)) none (some (.int .i64 ((q:Int)))) none) (fun b=>.slice (some ⟨b,0,none⟩) (q) (n+0)) 1 (fun b w hC hB=>slc_to slT_M b (0) (n) (n+0) (q) _ w (.inl rfl) (by omega)),lE .i64 (((((n:Nat):Int)):Int)+((1):Int)) (((n+1:Nat):Int)) (v1),lE .i64 (((((n+1:Nat):Int)):Int) - (((q:Int)):Int)) (((n+1 - q:Nat):Int)) (v3),lAZ slT_M slT_int rfl 0 q (n+0) (n+1 - q) (encM A) (cellsM x++encM B++zc zMc 0) (by omega) (by omega) (by omega) (by omega) (by omega) (by omega)] (VEx.n) (fun r=>[(0,(.slice (some ⟨(r 0).1,0,none⟩) (n) (n+0),1)),(1,(.int .i64 ((q:Int)),0)),(2,(.slice (some ⟨(r 1).1,0,none⟩) 1 1,2)),(7,(.int .i64 (1),0)),(8,(.int .i64 (((n:Nat):Int)),0)),(9,(.slice (some ⟨(r 10).1,0,none⟩) (q+(n+1 - q)) (q+(n+1 - q)+(r 10).2),11))]) [] (fun r=>[(0,(23,(encM A++(cellsM x++encM B++zc zMc 0)).toArray)),(1,(23,(cellsM m).toArray)),(10,(23,(encM A++zc zMc (n+1 - q)++zc zMc (r 10).2).toArray))]) (fun r g=>by kernel_rfl) (fun r g=>by kernel_rfl) ?_
 intro r a2 w2 hr hS2 hK2 hM2
 obtain ⟨b2,hb2⟩:∃ b2,b2=(r 10).1:=⟨_,rfl⟩
 obtain ⟨mm,hmm⟩:∃ mm,mm=(r 10).2:=⟨_,rfl⟩
 have hN2:=(hM2.has 10 _ rfl).1
 have hO2:=(hM2.has 10 _ rfl).2
 refine then_n ?_
 have hr0:(r 0).1=b:=congrArg Prod.fst (hr 0 (by omega))
 have hr1:(r 1).1=d:=congrArg Prod.fst (hr 1 (by omega))
 have hb3:=(hM2.has 0 _ rfl).1
 have hd3:=(hM2.has 1 _ rfl).1
 have hsz1:w0.heap.size≤w1.heap.size:=Nat.le_trans h0 hbel1.size
 have hb3:Hc w2 b 23 (encM A++(cellsM x++encM B++zc zMc 0)).toArray:=hr0 ▸ hb3
 have hd3:Hc w2 d 23 (cellsM m).toArray:=hr1 ▸ hd3
 have hN3:Hc w2 b2 23 (encM A++zc zMc (n+1 - q)++zc zMc mm).toArray:=by rw [hb2,hmm];exact hN2
 have n1:b2≠b:=fun e=>absurd (hM2.inj 10 0 _ _ rfl rfl (by show (r 10).1=(r 0).1;rw [hr0,← hb2,e])) (by decide)
 have n2:b2≠d:=fun e=>absurd (hM2.inj 10 1 _ _ rfl rfl (by show (r 10).1=(r 1).1;rw [hr1,← hb2,e])) (by decide)
 have hw2:w0.heap.size≤b2:=hO2.elim (fun h=>Nat.le_trans hsz1 (by rw [hb2];exact h)) (fun h=>(List.mem_cons.1 (show (r 10).1 ∈ [b,d] from h)).elim (fun e=>by rw [hb2,e];exact hb0) (fun e=>by rw [hb2,List.mem_singleton.1 e];exact hd0))
 have hbel2:=hbel1.trans ((hM2.below.below hsz1 (fun x hx=>by rcases List.mem_cons.1 hx with rfl | hx <;> simp_all)))
 have hsz2:=hbel2.size
 have hS3:St inN [(0,(.slice (some ⟨b,0,none⟩) n (n+0),2)),(1,(.int .i64 (q:Int),0)),(2,(.slice (some ⟨d,0,none⟩) 1 1,3)),(7,(.int .i64 1,0)),(8,(.int .i64 ((n:Nat):Int),0)),(9,(.slice (some ⟨b2,0,none⟩) (q+(n+1 - q)) (q+(n+1 - q)+mm),1))] a2:=by
  rw [hb2,hmm,← hr0,← hr1]
  exact hS2.re rfl
 clear hS2 hK2 hM2 hr hN2 hO2 hS1 hb1 hd1
 refine vm_fragA (X:=⟨w2,[b2,b,d]⟩) kr [(10,2),(10,4),(11,3),(11,4),(11,7),(11,8)] inN ((flat (cT inK)).drop 1) (ne_nil kr) (fun r=>[(0,(.slice (some ⟨(r 1).1,0,none⟩) (n) (n+0),2)),(1,(.int .i64 ((q:Int)),0)),(2,(.slice (some ⟨(r 2).1,0,none⟩) 1 1,3)),(7,(.int .i64 (1),0)),(8,(.int .i64 (((n:Nat):Int)),0)),(9,(.slice (some ⟨(r 0).1,0,none⟩) (q+(n+1 - q)) (q+(n+1 - q)+mm),1))]) (fun r=>[(0,(23,(encM A++zc zMc (n+1 - q)++zc zMc mm).toArray)),(1,(23,(encM A++(cellsM x++encM B++zc zMc 0)).toArray)),(2,(23,(cellsM m).toArray))]) 3 (r3 b2 b d) ((hS3.re rfl)) (memOk3 hN3 hb3 hd3 n1 n2 hbd) (fun r hr=>⟨by simp only [hr 0 (by omega),hr 1 (by omega),hr 2 (by omega)],rfl⟩) (keysLt_all kr) [] [lB 0 23 (encM A++zc zMc (n+1 - q)++zc zMc mm).toArray (fun b=>Instr.sliceAt 48 (.slice (some ⟨b,0,none⟩) (q+(n+1 - q)) (q+(n+1 - q)+mm)) (some (.int .i64 ((q:Int)))) none none) (fun b=>.slice (some ⟨b,0+(q) * 4,none⟩) (q+(n+1 - q) - (q)) (q+(n+1 - q)+mm - (q))) 1 (fun b w hC hB=>slc_lt slT_M b (0) (q+(n+1 - q)) (q+(n+1 - q)+mm) (q) (q+(n+1 - q)) _ _ w (.inl rfl) (.inr ⟨rfl,rfl⟩) (by omega) (by omega) (by omega)),lCq slT_M 3 0 2 (0+(q) * 4) (q+(n+1 - q) - (q)) (q+(n+1 - q)+mm - (q)) 0 1 1 1 (encM A++zc zMc (n+1 - q)++zc zMc mm).toArray (encM A++cellsM m++zc zMc (n - q)++zc zMc mm).toArray (cellsM m).toArray (encM A) zMc.toList (zc zMc (n - q)++zc zMc mm) (cellsM m) (by rw [show n+1 - q=(n - q)+1 by omega,zc_succ];simp) (by simp) (by rw [lA];omega) (by simp only [Nat.min_def];split <;> omega) rfl rfl rfl (fun j v hj=>by rw [Nat.zero_add];simpa using hj),lE .i64 ((((q:Int)):Int)+((1):Int)) (((q+1:Nat):Int)) (v2),lB 0 23 (encM A++cellsM m++zc zMc (n - q)++zc zMc mm).toArray (fun b=>Instr.sliceAt 48 (.slice (some ⟨b,0,none⟩) (q+(n+1 - q)) (q+(n+1 - q)+mm)) (some (.int .i64 (((q+1:Nat):Int)))) none none) (fun b=>.slice (some ⟨b,0+(q+1) * 4,none⟩) (q+(n+1 - q) - (q+1)) (q+(n+1 - q)+mm - (q+1))) 1 (fun b w hC hB=>slc_lt slT_M b (0) (q+(n+1 - q)) (q+(n+1 - q)+mm) (q+1) (q+(n+1 - q)) _ _ w (.inl rfl) (.inr ⟨rfl,rfl⟩) (by omega) (by omega) (by omega)),lB 1 23 (encM A++(cellsM x++encM B++zc zMc 0)).toArray (fun b=>Instr.sliceAt 48 (.slice (some ⟨b,0,none⟩) (n) (n+0)) (some (.int .i64 ((q:Int)))) none none) (fun b=>.slice (some ⟨b,0+(q) * 4,none⟩) (n - (q)) (n+0 - (q))) 2 (fun b w hC hB=>slc_lt slT_M b (0) (n) (n+0) (q) (n) _ _ w (.inl rfl) (.inr ⟨rfl,rfl⟩) (by omega) (by omega) (by omega)),lCq slT_M 3 0 1 (0+(q+1) * 4) (q+(n+1 - q) - (q+1)) (q+(n+1 - q)+mm - (q+1)) (0+(q) * 4) (n - (q)) (n+0 - (q)) (n - q) (encM A++cellsM m++zc zMc (n - q)++zc zMc mm).toArray (encM A++cellsM m++(cellsM x++encM B)++zc zMc mm).toArray (encM A++(cellsM x++encM B++zc zMc 0)).toArray (encM A++cellsM m) (zc zMc (n - q)) (zc zMc mm) (cellsM x++encM B) (by simp) rfl (by rw [List.length_append,lA];show _=_+4;omega) (by simp only [Nat.min_def];split <;> omega) (by rw [List.length_append,lBB];show 4+_=_;omega) (by rw [List.length_append,lBB,lZ];show _=4+_;omega) (by rw [List.all_append,encM_one B];rfl) (fun j v hj=>gm2 j v hj)] (VEx.r) (fun r=>[(6,(.slice (some ⟨(r 0).1,0,none⟩) (q+(n+1 - q)) (q+(n+1 - q)+mm),1))]) [] (fun r=>[(0,(23,(encM A++cellsM m++(cellsM x++encM B)++zc zMc mm).toArray))]) (fun r g=>by kernel_rfl) (fun r g=>by kernel_rfl) ?_
 intro r a3 w3 hr hS4 hK4 hM4
 have hr0:(r 0).1=b2:=congrArg Prod.fst (hr 0 (by omega))
 have hh:=hM4.has 0 _ rfl
 have hbel3:=hbel2.trans (hM4.below.below (Nat.le_trans h0 hsz2) (fun x hx=>(List.mem_cons.1 hx).elim (fun e=>by rw [e];exact hw2) (fun hx=>(List.mem_cons.1 hx).elim (fun e=>by rw [e];exact hb0) (fun e=>by rw [List.mem_singleton.1 e];exact hd0))))
 exact vm_ret (fn:=Tryz.f83) (post:=fun e w'=>∃ sv,e = .returned sv∧SlO 23 zMc w0 w' sv (n+1) (encM (A++m :: x :: B))∧Below w0.heap.size w w') hS4 hM4 (.slice (some ⟨(r 0).1,0,none⟩) (q+(n+1 - q)) (q+(n+1 - q)+mm)) (fun g=>by kernel_rfl) ⟨_,rfl,.inr ⟨(r 0).1,mm,by rw [show q+(n+1 - q)=n+1 by omega],by rw [hr0];exact hw2,by rw [encM_mid,← List.append_assoc];exact hh.1⟩,hbel3⟩

def RetPu (r:List Mt × Int) (w:World):Ending→World→Prop:=fun e w'=>∃ sv,e = .returned (.tuple #[sv,.int .i64 r.2])∧SlO 23 zMc w w' sv r.1.length (encM r.1)∧Below w.heap.size w w'
theorem slo_nil {t:TypeId} {z:Array Value} {w w':World}:SlO t z w w' (.slice none 0 0) 0 []:=.inl ⟨rfl,rfl,rfl⟩
theorem st_M {b:Nat} {w:World} (A B:List Mt) (x m:Mt) (sp:List Value) (h:Hc w b 23 (encM (A++x :: B)++sp).toArray) :
  ∃ w',(Instr.storeAt 23 (.pointer (some ⟨b,0+A.length * 4,none⟩)) (vMt m)).run Tryz.prog w = .ok () w'∧Hc w' b 23 (encM (A++m :: B)++sp).toArray∧Chg [b] w w':=by
 have e:∀ y:Mt,encM (A++y :: B)++sp=encM A++cellsM y++(encM B++sp):=fun y=>by rw [encM_mid];simp
 rw [e] at h
 rw [e]
 have hl:=encM_len A
 exact st_put slT_M b _ (vMt m) (encM A) (cellsM x) (encM B++sp) (cellsM m) h (by omega) rfl rfl rfl (cellsM_one m)
noncomputable def ptN:Nat:=Tryz.f35.ntmps
noncomputable def ptC:Code:=Tryz.f35.body.getD .skip
noncomputable def ptL:List Code:=flat ptC
noncomputable def pt10:List Oper:=rgL 10 ptC
noncomputable def ptF (r:List Mt × Int) (w0:World):Exit→Act→World→Prop:=bodyPost Tryz.prog Tryz.f35 (RetPu r w0)
section
variable {l:List Mt} {m:Mt} {base:Option Addr} {c p:Nat} {w w1:World} {sv:Value} {a1:Act}
theorem pt_has (hv:validT l=true) (hr:rightM m=true) (h:hasT m.nm l=true) (hO:SlO 23 zMc w w1 sv l.length (encM l)) (hp:Hc w1 p 23 (cellsM m).toArray) (hpw:w.heap.size≤p) (hn:l.length≤1000000) (hb:Below w.heap.size w w1) (hS:St ptN [(0,(.slice base l.length c,0)),(3,(.pointer (some ⟨p,0,none⟩),0)),(6,(sv,0))] a1) (hne:∀ b mm,sv = .slice (some ⟨b,0,none⟩) l.length (l.length+mm)→b≠p):wpL Tryz.prog (ptL.drop 4) (ptF (putT l m) w) a1 w1:=by
 have hk:posT m.nm l<l.length:=by
  unfold hasT at h
  rcases Nat.lt_or_ge (posT m.nm l) l.length with g | g
  ·exact g
  ·rw [List.getElem?_eq_none g] at h;cases h
 have hnm:(l[posT m.nm l]'hk).nm=m.nm:=by
  unfold hasT at h
  rw [List.getElem?_eq_getElem hk] at h
  simpa using h
 have hins:=ins_has hk hnm
 have hlen:l.length≤100:=by
  unfold validT at hv
  rw [Bool.and_eq_true,decide_eq_true_eq] at hv
  exact hv.2
 have hput:putT l m=(l.set (posT m.nm l) m,0):=by
  unfold putT
  rw [hv,hr,hins,if_pos (by rfl),if_pos (by rw [List.length_set];exact hlen)]
 rw [hput]
 obtain ⟨b,mm,rfl,hbw,hB⟩:∃ b mm,sv = .slice (some ⟨b,0,none⟩) l.length (l.length+mm)∧w.heap.size≤b∧Hc w1 b 23 (encM l++zc zMc mm).toArray:=by
  rcases hO with ⟨h0,-⟩ | h
  ·omega
  ·exact h
 have hbp:=hne b mm rfl
 have hok:okFrom none l=true:=by
  unfold validT at hv
  rw [Bool.and_eq_true] at hv
  exact hv.1
 have hBS:∀ b' w',Chg [p,b] w1 w'→Hc w' b' 23 (encM l++zc zMc mm).toArray→Calls Tryz.prog 80 #[.slice (some ⟨b',0,none⟩) l.length (l.length+mm),.string ⟨m.nm.toArray⟩,.func (.func 81) #[] #[]] w' (RetV (.tuple #[.int .i64 (posT m.nm l:Int),.bool true]) w'):=fun b' w' _ hB'=>by
  have:=slBinM_any l m.nm (some ⟨b',0,none⟩) (l.length+mm) w' (rds_hc hB') hn hok
  rwa [h] at this
 obtain ⟨A,B,x,hl,hA,hset⟩:∃ A B x,l=A++x :: B∧A.length=posT m.nm l∧l.set (posT m.nm l) m=A++m :: B:=by
  refine ⟨l.take (posT m.nm l),l.drop (posT m.nm l+1),l[posT m.nm l],?_,?_,?_⟩
  ·rw [← List.drop_eq_getElem_cons hk,List.take_append_drop]
  ·rw [List.length_take];omega
  ·rw [List.set_eq_take_append_cons_drop,if_pos hk]
 rw [hset]
 have hll:l.length=A.length+1+B.length:=by rw [hl];simp;omega
 have hml:(A++m :: B).length=l.length:=by rw [hll];simp;omega
 have hst:∀ b' w',Hc w' b' 23 (encM l++zc zMc mm).toArray→∃ w'',(Instr.storeAt 23 (.pointer (some ⟨b',0+posT m.nm l * 4,none⟩)) (vMt m)).run Tryz.prog w' = .ok () w''∧Hc w'' b' 23 (encM (A++m :: B)++zc zMc mm).toArray∧Chg [b'] w' w'':=fun b' w' hB'=>by
  rw [← hA]
  rw [hl] at hB'
  exact st_M A B x m _ hB'
 have hix:posT m.nm l<l.length:=hk
 generalize posT m.nm l=k at *
 clear hl hO hne hset hins hput
 refine vm_fragA (X:=⟨w1,[p,b]⟩) kr [(6,3),(6,4)] ptN (ptL.drop 4) (ne_nil kr) (fun r=>[(0,(.slice base l.length c,0)),(3,(.pointer (some ⟨(r 0).1,0,none⟩),1)),(6,(.slice (some ⟨(r 1).1,0,none⟩) (l.length) (l.length+mm),2))]) (fun r=>[(0,(23,(cellsM m).toArray)),(1,(23,(encM l++zc zMc mm).toArray))]) 2 (r2 p b) ((hS.re (l':=[(0,(.slice base l.length c,0)),(3,(.pointer (some ⟨p,0,none⟩),1)),(6,(.slice (some ⟨b,0,none⟩) l.length (l.length+mm),2))]) rfl)) (memOk2 hp hB (fun e=>hbp e.symm)) (fun r hr=>⟨by simp only [hr 0 (by omega),hr 1 (by omega)],rfl⟩) (keysLt_all kr) [.t] [cM 1 23 (encM l++zc zMc mm).toArray hBS,lB 1 23 (encM l++zc zMc mm).toArray (fun b=>Instr.indexAt 48 (.slice (some ⟨b,0,none⟩) (l.length) (l.length+mm)) (.int .i64 ((k:Int)))) (fun b=>.pointer (some ⟨b,0+k * 4,none⟩)) 2 (fun b w hC hB=>ixM k w (by omega) (by omega) (by omega)),lS 1 23 (encM l++zc zMc mm).toArray (encM (A++m :: B)++zc zMc mm).toArray (fun b=>Instr.storeAt 23 (.pointer (some ⟨b,0+k * 4,none⟩)) (vMt m)) (fun b w hC hB=>hst b w hB)] (VEx.r) (fun r=>[(4,(.slice (some ⟨(r 1).1,0,none⟩) (l.length) (l.length+mm),2)),(5,(.int .i64 (0),0))]) [] (fun r=>[(1,(23,(encM (A++m :: B)++zc zMc mm).toArray))]) (fun r g=>by kernel_rfl) (fun r g=>by kernel_rfl) ?_
 intro r a2 w2 hr hS2 hK2 hM2
 have hr1:(r 1).1=b:=congrArg Prod.fst (hr 1 (by omega))
 have hh:=(hM2.has 1 _ rfl).1
 have hbel:=hM2.below.below hb.size (fun x hx=>(List.mem_cons.1 hx).elim (fun e=>by rw [e];exact hpw) (fun e=>by rw [List.mem_singleton.1 e];exact hbw))
 exact vm_ret (fn:=Tryz.f35) hS2 hM2 (.tuple #[.slice (some ⟨(r 1).1,0,none⟩) l.length (l.length+mm),.int .i64 0]) (fun g=>by kernel_rfl) ⟨_,rfl,.inr ⟨(r 1).1,mm,by rw [hml],by rw [hr1];exact hbw,hh⟩,hb.trans hbel⟩
theorem has_pos (h:hasT m.nm l=false):∀ g:posT m.nm l<l.length,(l[posT m.nm l]'g).nm≠m.nm:=fun g e=>by
 unfold hasT at h
 rw [List.getElem?_eq_getElem g] at h
 simp only [e,beq_self_eq_true] at h
 cases h
theorem valid_len (hv:validT l=true):l.length≤100∧okFrom none l=true:=by
 unfold validT at hv
 rw [Bool.and_eq_true,decide_eq_true_eq] at hv
 exact ⟨hv.2,hv.1⟩
theorem ins_new_len (h:hasT m.nm l=false):(insT m l).length=l.length+1:=by
 rw [ins_not (has_pos h),List.length_append,List.length_cons,List.length_take,List.length_drop]
 have:=posT_le m.nm l
 omega
theorem mat_at {w:World} {p:Nat} {m:Mt} (hp:Hc w p 23 (cellsM m).toArray):MAt w p 0 m:=⟨hp.cell rfl,hp.cell rfl,hp.cell rfl,hp.cell rfl⟩
theorem pt_full (hv:validT l=true) (hr:rightM m=true) (h:hasT m.nm l=false) (h100:l.length=100) (hO:SlO 23 zMc w w1 sv l.length (encM l)) (hp:Hc w1 p 23 (cellsM m).toArray) (hb:Below w.heap.size w w1) (hS:St ptN [(0,(.slice base l.length c,0)),(3,(.pointer (some ⟨p,0,none⟩),0)),(6,(sv,0))] a1):wpL Tryz.prog (ptL.drop 4) (ptF (putT l m) w) a1 w1:=by
 obtain ⟨hlen,hok⟩:=valid_len hv
 have hput:putT l m=([],3):=by
  unfold putT
  rw [hv,hr,if_pos (by rfl),ins_new_len h,if_neg (by omega)]
 rw [hput]
 obtain ⟨base2,c2,rfl,hR2⟩:=hO.rds
 have hBS:∀ w',Chg [] w1 w'→Calls Tryz.prog 80 #[.slice base2 l.length c2,.string ⟨m.nm.toArray⟩,.func (.func 81) #[] #[]] w' (RetV (.tuple #[.int .i64 (posT m.nm l:Int),.bool false]) w'):=fun w' hC=>by
  have:=slBinM_any l m.nm base2 c2 w' (hR2.chg hC) (by omega) hok
  rwa [h] at this
 have hnm:w1.cell? ⟨p,0+0,none⟩=some (.string ⟨m.nm.toArray⟩):=hp.cell rfl
 have hq:(((l.length:Nat):Int) == (100:Int))=true:=by rw [h100];rfl
 generalize posT m.nm l=k at *
 refine vm_fragA (X:=⟨w1,[]⟩) kr [(4,2)] ptN (ptL.drop 4) (ne_nil kr) (fun r=>[(0,(.slice base l.length c,0)),(3,(.pointer (some ⟨p,0,none⟩),0)),(6,(.slice base2 l.length c2,0))]) (fun r=>[]) 0 (fun _=>(0,0)) (hS) (memOk0 w1 _) (fun r hr=>⟨rfl,rfl⟩) (keysLt_all kr) [.f,(.p _ true hq)] [lV (Instr.loadAt 9 (.pointer (some ⟨p,0+0,none⟩))) (.string ⟨(m.nm).toArray⟩) (fun w hC=>ldS (hC.cell0 hnm)),cW hBS] (VEx.r) (fun r=>[(4,(.slice none 0 0,0)),(5,(.int .i64 (3),0))]) [] (fun r=>[]) (fun r g=>by kernel_rfl) (fun r g=>by kernel_rfl) ?_
 intro r a2 w2 hr hS2 hK2 hM2
 exact vm_out (fn:=Tryz.f35) hS2 (.tuple #[.slice none 0 0,.int .i64 3]) (fun g=>by kernel_rfl) ⟨_,rfl,slo_nil,hb.trans (hM2.below.bl0.mono hb.size)⟩
theorem slo_chg {t:TypeId} {z:Array Value} {w0 w w':World} {sv:Value} {n:Nat} {xs:List Value} (h:SlO t z w0 w sv n xs) (hc:Chg [] w w'):SlO t z w0 w' sv n xs:=by
 rcases h with h | ⟨b,mm,h1,h2,h3⟩
 ·exact .inl h
 ·exact .inr ⟨b,mm,h1,h2,h3.chg hc (by simp)⟩
theorem ins_any {k d:Nat} (hk:k≤l.length) (hn:l.length≤1000) (h0:w.heap.size≤w1.heap.size) (hO:SlO 23 zMc w w1 sv l.length (encM l)) (hd0:w.heap.size≤d) (hd:Hc w1 d 23 (cellsM m).toArray) (hne:∀ b mm,sv = .slice (some ⟨b,0,none⟩) l.length (l.length+mm)→b≠d) :
  Calls Tryz.prog 83 #[sv,.int .i64 (k:Int),.slice (some ⟨d,0,none⟩) 1 1] w1 (fun e w'=>∃ sv,e = .returned sv∧SlO 23 zMc w w' sv (l.length+1) (encM (l.take k++m :: l.drop k))∧Below w.heap.size w1 w'):=by
 rcases hO with ⟨h1,h2,rfl⟩ | ⟨b,mm,rfl,hbw,hB⟩
 ·obtain rfl:=encM_nil h2
  obtain rfl:k=0:=by simpa using hk
  exact ins_nil m d w w1 h0 hd0 hd
 ·have hbd:=hne b mm rfl
  rcases Nat.lt_or_ge k l.length with hkl | hkl
  ·obtain ⟨A,B,x,e,hA,hB1,hB2⟩:∃ A B x,l=A++x :: B∧A.length=k∧l.take k=A∧l.drop k=x :: B:=by
    refine ⟨l.take k,l.drop (k+1),l[k],?_,?_,rfl,List.drop_eq_getElem_cons hkl⟩
    ·rw [← List.drop_eq_getElem_cons hkl,List.take_append_drop]
    ·rw [List.length_take];omega
   rw [hB1,hB2]
   have hL:l.length=k+1+B.length:=by rw [e];simp;omega
   rw [e,encM_mid] at hB
   have hBn:k+1+B.length≤1000:=by omega
   rw [hL] at *
   cases mm with
   | zero=>exact ins_grow m b d _ w w1 h0 hbw hd0 hbd (Nat.le_trans hBn (by decide)) hd A B x k hA rfl (by simpa using hB)
   | succ s=>exact ins_place m b d _ w w1 h0 hbw hd0 hbd (Nat.le_trans hBn (by decide)) hd A B x k s hA rfl (by rw [zc_succ] at hB;simpa using hB)
  ·obtain rfl:k=l.length:=by omega
   rw [List.take_length,List.drop_length]
   cases mm with
   | zero=>exact ins_full m b d _ w w1 h0 hbw hd0 hbd (by omega) hd l 0 rfl hB
   | succ s=>exact ins_room m b d _ w w1 h0 hbw hd0 hbd (by omega) hd l s rfl (by rw [zc_succ] at hB;rw [List.append_assoc];exact hB)
theorem pt_new (hv:validT l=true) (hr:rightM m=true) (h:hasT m.nm l=false) (h100:l.length≠100) (hO:SlO 23 zMc w w1 sv l.length (encM l)) (hp:Hc w1 p 23 (cellsM m).toArray) (hb:Below w.heap.size w w1) (hS:St ptN [(0,(.slice base l.length c,0)),(3,(.pointer (some ⟨p,0,none⟩),0)),(6,(sv,0))] a1):wpL Tryz.prog (ptL.drop 4) (ptF (putT l m) w) a1 w1:=by
 obtain ⟨hlen,hok⟩:=valid_len hv
 have hput:putT l m=(insT m l,0):=by
  unfold putT
  rw [hv,hr,if_pos (by rfl),ins_new_len h,if_pos (by omega)]
 rw [hput,ins_not (has_pos h)]
 have hIL:(l.take (posT m.nm l)++m :: l.drop (posT m.nm l)).length=l.length+1:=by rw [← ins_not (has_pos h),ins_new_len h]
 have hkl:=posT_le m.nm l
 obtain ⟨base2,c2,hsv,hR2⟩:=hO.rds
 have hBS:∀ w',Chg [] w1 w'→Calls Tryz.prog 80 #[.slice base2 l.length c2,.string ⟨m.nm.toArray⟩,.func (.func 81) #[] #[]] w' (RetV (.tuple #[.int .i64 (posT m.nm l:Int),.bool false]) w'):=fun w' hC=>by
  have:=slBinM_any l m.nm base2 c2 w' (hR2.chg hC) (by omega) hok
  rwa [h] at this
 have hnm:w1.cell? ⟨p,0+0,none⟩=some (.string ⟨m.nm.toArray⟩):=hp.cell rfl
 have hq:(((l.length:Nat):Int) == (100:Int))=false:=by rw [beq_eq_false_iff_ne];omega
 generalize posT m.nm l=k at *
 rw [hsv] at hS
 refine wp_part 5 ?_
 refine vm_fragA (X:=⟨w1,[]⟩) kr [(4,2)] ptN ((ptL.drop 4).take 5) (ne_nil kr) (fun r=>[(0,(.slice base l.length c,0)),(3,(.pointer (some ⟨p,0,none⟩),0)),(6,(.slice base2 l.length c2,0))]) (fun r=>[]) 0 (fun _=>(0,0)) (hS) (memOk0 w1 _) (fun r hr=>⟨rfl,rfl⟩) (keysLt_all kr) [.f,(.p _ false hq)] [lV (Instr.loadAt 9 (.pointer (some ⟨p,0+0,none⟩))) (.string ⟨(m.nm).toArray⟩) (fun w hC=>ldS (hC.cell0 hnm)),cW hBS] (VEx.n) (fun r=>[(0,(.slice base l.length c,0)),(3,(.pointer (some ⟨p,0,none⟩),0)),(6,(.slice base2 l.length c2,0)),(7,(.int .i64 ((k:Int)),0))]) [] (fun r=>[]) (fun r g=>by kernel_rfl) (fun r g=>by kernel_rfl) ?_
 intro r a2 w2 hr hS2 hK2 hM2
 have hc2:=hM2.below
 have hb2:=hb.trans (hc2.bl0.mono hb.size)
 have hO2:=slo_chg hO hc2
 have hA2:=(mat_at hp).chg hc2
 clear hM2 hr hO hb hBS hnm hK2 hS hp hR2 hc2
 refine then_n ?_
 show wpL Tryz.prog ((ptL.drop 4).drop 5) _ a2 w2
 rw [show (ptL.drop 4).drop 5 = [ptL.getD 9 .skip,.ret] from by kernel_rfl]
 show (ptL.getD 9 .skip).wp Tryz.prog _ a2 w2
 refine wp_rg 10 pt10 kr ?_
 refine ops_win pt10 kr 0 4 (by omega) nle ?_
 refine vm_opsA (X:=⟨w2,[]⟩) [(10,2)] ptN 10 (opsW pt10 0 4) (fun r=>[(0,(.slice base l.length c,0)),(3,(.pointer (some ⟨p,0,none⟩),0)),(6,(.slice base2 l.length c2,0)),(7,(.int .i64 ((k:Int)),0))]) (fun r=>[]) 0 (fun _=>(0,0)) (hS2) (memOk0 w2 _) (fun r hr=>⟨rfl,rfl⟩) (keysLt_all kr) [] [lV (Instr.loadAt 23 (.pointer (some ⟨p,0,none⟩))) (vMt m) (fun w hC=>ldM (hA2.chg hC))] (fun r=>[(35,(.slice base2 l.length c2,0)),(36,(.int .i64 ((k:Int)),0)),(38,(.slice (some ⟨(r 3).1,0,none⟩) 1 1,4))]) [] (fun r=>[(3,(23,(cellsM m).toArray))]) (fun r g=>by kernel_rfl) (fun r g=>by kernel_rfl) ?_
 intro r a3 w3 hr hS3 hK3 hM3
 refine then_n ?_
 obtain ⟨d,hd⟩:∃ d,d=(r 3).1:=⟨_,rfl⟩
 have hd3:=(hM3.has 3 _ rfl).1
 have hdo:=own_nil (hM3.has 3 _ rfl).2
 change Hc w3 (r 3).1 _ _ at hd3
 change w2.heap.size≤(r 3).1 at hdo
 rw [← hd] at hd3 hdo
 have hS3:St ptN [(35,(.slice base2 l.length c2,0)),(36,(.int .i64 (k:Int),0)),(38,(.slice (some ⟨d,0,none⟩) 1 1,0))] a3:=by rw [hd];exact hS3.re rfl
 have hc3:=hM3.below
 have hb3:=hb2.trans (hc3.bl0.mono hb2.size)
 have hO3:=slo_chg hO2 hc3
 have hne:∀ b mm,sv = .slice (some ⟨b,0,none⟩) l.length (l.length+mm)→b≠d:=fun b mm e=>by
  rcases hO2 with ⟨-,-,e2⟩ | ⟨b',mm',e2,-,hB'⟩
  ·rw [e] at e2;cases e2
  ·rw [e] at e2
   simp only [Value.slice.injEq,Option.some.injEq,Addr.mk.injEq] at e2
   have:=hB'.lt
   omega
 clear hM3 hr hK3 hS2
 have e35:=eval_St hS3 35 (.slice base2 l.length c2) 0 (by simp)
 have e36:=eval_St hS3 36 (.int .i64 (k:Int)) 0 (by simp)
 have e38:=eval_St hS3 38 (.slice (some ⟨d,0,none⟩) 1 1) 0 (by simp)
 refine ops_one pt10 kr 4 nle (f:=83) (args:=#[sv,.int .i64 (k:Int),.slice (some ⟨d,0,none⟩) 1 1]) (exec_call (xs:=#[.tmp 35,.tmp 36,.tmp 38]) kr rfl (by
  rw [hsv,← e35,← e36,← e38]
  simp)) kr kr (ins_any hkl (by omega) hb3.size hO3 (Nat.le_trans hb2.size hdo) hd3 hne) (by rintro e w' ⟨sv',rfl,-⟩;exact ⟨_,rfl⟩) ?_
 rintro v w4 ⟨sv',e,hO4,hb4⟩
 cases e
 rw [show (opAt pt10 4).dst=some 39 from by kernel_rfl]
 have hS4:=hS3.putR 39 v nle kr
 generalize a3.put (some 39) v=a4 at *
 have hb4:=hb3.trans hb4
 refine ops_win pt10 kr 5 pt10.length nle (Nat.le_refl _) ?_
 refine vm_opsA (X:=⟨w4,[]⟩) [] ptN 10 (opsW pt10 5 pt10.length) (fun r=>[(39,(v,0))]) (fun r=>[]) 0 (fun _=>(0,0)) ((hS4.sub (l':=[(39,(v,0))]) (by simp))) (memOk0 w4 _) (fun r hr=>⟨rfl,rfl⟩) (keysLt_all kr) [] [] (fun r=>[(4,(v,0)),(5,(.int .i64 (0),0))]) [] (fun r=>[]) (fun r g=>by kernel_rfl) (fun r g=>by kernel_rfl) ?_
 intro r a5 w5 hr hS5 hK5 hM5
 refine then_n (ops_fin pt10 (then_n (wpL_one (wp_ret ?_))))
 have hc5:=hM5.below
 exact vm_out (fn:=Tryz.f35) (post:=RetPu (l.take k++m :: l.drop k,0) w) hS5 (.tuple #[v,.int .i64 0]) (fun g=>by kernel_rfl) ⟨_,rfl,by rw [hIL];exact slo_chg hO4 hc5,hb4.trans (hc5.bl0.mono hb4.size)⟩
end
theorem gmPut_any (l:List Mt) (m:Mt) (base:Option Addr) (c:Nat) (w:World) (hR:RdS w base (encM l)) (hn:l.length≤1000) (hm:∀ m,m ∈ l→m.nm.length≤1000000) (hml:m.nm.length≤1000000):Calls Tryz.prog 35 #[.slice base l.length c,vMt m] w (RetPu (putT l m) w):=by
 refine vm_start [.slice base l.length c,vMt m] (fn:=Tryz.f35) (c:=ptC) kr kr nle ?_
 intro a hS
 have hS:St ptN [(0,(.slice base l.length c,0)),(1,(vMt m,0))] a:=hS
 have hV:∀ w',Chg [] w w'→Calls Tryz.prog 37 #[.slice base l.length c] w' (RetV (.bool (validT l)) w'):=fun w' hc=>gmValid_any l base c w' (hR.chg hc) (by omega) hm
 have hT:∀ w',Chg [] w w'→Calls Tryz.prog 43 #[vMt m] w' (RetV (.bool (rightM m)) w'):=fun w' hc=>gmmaterial_any m w' hml
 have hbad:(validT l && rightM m)=false→putT l m=([],1):=fun h=>by
  unfold putT
  rw [h,if_neg (by decide)]
 cases hv:validT l with
 | false =>
  rw [hv] at hV
  rw [hbad (by rw [hv];rfl)]
  refine wpL_one ?_
  refine vm_fragA (X:=⟨w,[]⟩) kr [] ptN [ptC] (ne_nil kr) (fun r=>[(0,(.slice base l.length c,0)),(1,(vMt m,0))]) (fun r=>[]) 0 (fun _=>(0,0)) (hS) (memOk0 w _) (fun r hr=>⟨rfl,rfl⟩) (keysLt_all kr) [.t,.t,.t,.t,.t] [cW hV] (VEx.r) (fun r=>[(4,(.slice none 0 0,0)),(5,(.int .i64 (1),0))]) [] (fun r=>[]) (fun r g=>by kernel_rfl) (fun r g=>by kernel_rfl) ?_
  intro r a1 w1 hr hS1 hK1 hM1
  exact vm_out (fn:=Tryz.f35) hS1 (.tuple #[.slice none 0 0,.int .i64 1]) (fun g=>by kernel_rfl) ⟨_,rfl,slo_nil,hM1.below.bl0⟩
 | true =>
 rw [hv] at hV
 cases hr:rightM m with
 | false =>
  rw [hr] at hT
  rw [hbad (by rw [hv,hr];rfl)]
  refine wpL_one ?_
  refine vm_fragA (X:=⟨w,[]⟩) kr [] ptN [ptC] (ne_nil kr) (fun r=>[(0,(.slice base l.length c,0)),(1,(vMt m,0))]) (fun r=>[]) 0 (fun _=>(0,0)) (hS) (memOk0 w _) (fun r hr=>⟨rfl,rfl⟩) (keysLt_all kr) [.f,.f,.f,.f,.t] [cW hV,cW hT] (VEx.r) (fun r=>[(4,(.slice none 0 0,0)),(5,(.int .i64 (1),0))]) [] (fun r=>[]) (fun r g=>by kernel_rfl) (fun r g=>by kernel_rfl) ?_
  intro r a1 w1 hr hS1 hK1 hM1
  exact vm_out (fn:=Tryz.f35) hS1 (.tuple #[.slice none 0 0,.int .i64 1]) (fun g=>by kernel_rfl) ⟨_,rfl,slo_nil,hM1.below.bl0⟩
 | true =>
 rw [hr] at hT
 have hlen:=(valid_len hv).1
 have tail:∀ (sv:Value) (p:Nat) (a1:Act) (w1:World),SlO 23 zMc w w1 sv l.length (encM l)→Hc w1 p 23 (cellsM m).toArray→w.heap.size≤p→Below w.heap.size w w1→St ptN [(0,(.slice base l.length c,0)),(3,(.pointer (some ⟨p,0,none⟩),0)),(6,(sv,0))] a1→(∀ b mm,sv = .slice (some ⟨b,0,none⟩) l.length (l.length+mm)→b≠p)→wpL Tryz.prog (ptL.drop 4) (ptF (putT l m) w) a1 w1:=fun sv p a1 w1 hO hp hpw hb hS1 hne=>by
  cases h:hasT m.nm l with
  | true=>exact pt_has hv hr h hO hp hpw (by omega) hb hS1 hne
  | false =>
   by_cases h100:l.length=100
   ·exact pt_full hv hr h h100 hO hp hb hS1
   ·exact pt_new hv hr h h100 hO hp hb hS1
 refine wp_flat ptC ?_
 refine wp_part 4 ?_
 cases base with
 | none =>
  obtain rfl:l = []:=by
   rcases hR with h | ⟨b,o,h,-⟩
   ·exact encM_nil h
   ·cases h
  have hC:∀ w',Chg [] w w'→Calls Tryz.prog 79 #[.slice none 0 c] w' (RetV (.slice none 0 0) w'):=fun w' _=>slClone_nil c w'
  refine vm_fragA (X:=⟨w,[]⟩) kr [] ptN (ptL.take 4) (ne_nil kr) (fun r=>[(0,(.slice none 0 c,0)),(1,(vMt m,0))]) (fun r=>[]) 0 (fun _=>(0,0)) (hS) (memOk0 w _) (fun r hr=>⟨rfl,rfl⟩) (keysLt_all kr) [.f,.f,.f,.f,.f] [cW hV,cW hT,cW hC] (VEx.n) (fun r=>[(0,(.slice none 0 c,0)),(3,(.pointer (some ⟨(r 0).1,0,none⟩),1)),(6,(.slice none 0 0,0))]) [] (fun r=>[(0,(23,(cellsM m).toArray))]) (fun r g=>by kernel_rfl) (fun r g=>by kernel_rfl) ?_
  intro r a1 w1 hrr hS1 hK1 hM1
  have hh:=hM1.has 0 _ rfl
  exact then_n (tail (.slice none 0 0) (r 0).1 a1 w1 slo_nil hh.1 (own_nil hh.2) hM1.below.bl0 (hS1.re rfl) (fun b mm e=>by cases e))
 | some ad =>
  have hC:∀ w',Chg [] w w'→Calls Tryz.prog 79 #[.slice (some ad) l.length c] w' (fun e w''=>∃ n m,w'.heap.size≤n∧e = .returned (.slice (some ⟨n,0,none⟩) l.length (l.length+m))∧Hc w'' n 23 (encM l++zc zMc m).toArray∧Below w'.heap.size w' w''):=fun w' hc=>slClone_some l ad c w' (hR.chg hc) (by omega)
  refine vm_fragA (X:=⟨w,[]⟩) kr [] ptN (ptL.take 4) (ne_nil kr) (fun r=>[(0,(.slice (some ad) l.length c,0)),(1,(vMt m,0))]) (fun r=>[]) 0 (fun _=>(0,0)) (hS) (memOk0 w _) (fun r hr=>⟨rfl,rfl⟩) (keysLt_all kr) [.f,.f,.f,.f,.f] [cW hV,cW hT,cS 23 (fun m=>(encM l++zc zMc m).toArray) (fun n m=>.slice (some ⟨n,0,none⟩) l.length (l.length+m)) hC] (VEx.n) (fun r=>[(0,(.slice (some ad) l.length c,0)),(3,(.pointer (some ⟨(r 0).1,0,none⟩),1)),(6,(.slice (some ⟨(r 12).1,0,none⟩) (l.length) (l.length+(r 12).2),13))]) [] (fun r=>[(0,(23,(cellsM m).toArray)),(12,(23,(encM l++zc zMc (r 12).2).toArray))]) (fun r g=>by kernel_rfl) (fun r g=>by kernel_rfl) ?_
  intro r a1 w1 hrr hS1 hK1 hM1
  have hh:=hM1.has 0 _ rfl
  have hh2:=hM1.has 12 _ rfl
  exact then_n (tail (.slice (some ⟨(r 12).1,0,none⟩) l.length (l.length+(r 12).2)) (r 0).1 a1 w1 (.inr ⟨(r 12).1,(r 12).2,rfl,own_nil hh2.2,hh2.1⟩) hh.1 (own_nil hh.2) hM1.below.bl0 (hS1.re rfl) (fun b mm e=>by
   simp only [Value.slice.injEq,Option.some.injEq,Addr.mk.injEq] at e
   exact fun e2=>absurd (hM1.inj 12 0 _ _ rfl rfl (by show (r 12).1=(r 0).1;rw [e.1.1,e2])) (by decide)))

noncomputable def gpN:Nat:=Tryz.f36.ntmps
noncomputable def gpC:Code:=Tryz.f36.body.getD .skip
noncomputable def gp0:Code:=cB 0 gpC
noncomputable def gpL:List Code:=flat (cI (cI gp0))
noncomputable def gpB:Code:=gpL.getD 2 .skip
noncomputable def gpI:List Code:=flat (cI gpB)
noncomputable def gp9:List Oper:=rgL 9 gpC
noncomputable def gp12:List Oper:=rgL 12 gpC
noncomputable def gp14:List Oper:=rgL 14 gpC
theorem zMc4:(Value.agg zMc).cells.size=4:=rfl
section
variable {l acc:List Mt} {m x:Mt} {bl o c p j:Nat} {dn:Bool} {w0 w:World} {sv:Value} {a:Act} {Q:Exit→Act→World→Prop}
theorem gp_snd (hsz:w0.heap.size≤w.heap.size) (hj:j<l.length) (hS:St gpN [(0,(.slice (some ⟨bl,o,none⟩) l.length c,0)),(3,(.pointer (some ⟨p,0,none⟩),0)),(6,(sv,0)),(7,(.bool dn,0)),(8,(.int .i64 (j:Int),0))] a) (hA:MAt w bl (o+j * 4) x) (hP:MAt w p 0 m) (hO:SlO 23 zMc w0 w sv acc.length (encM acc)) (hN:acc.length≤1000000)
  (K:∀ a' w' sv',St gpN [(0,(.slice (some ⟨bl,o,none⟩) l.length c,0)),(3,(.pointer (some ⟨p,0,none⟩),0)),(6,(sv',0)),(7,(.bool dn,0)),(8,(.int .i64 (j:Int),0))] a'→SlO 23 zMc w0 w' sv' (acc++if x.nm=m.nm then [] else [x]).length (encM (acc++if x.nm=m.nm then [] else [x]))→Chg (slB sv) w w'→(∀ y,y ∈ slB sv'→y ∈ slB sv∨w.heap.size≤y)→Q .normal a' w'):wpL Tryz.prog (gpI.drop 2) Q a w:=by
 have hP0:w.cell? ⟨p,0+0,none⟩=some (.string ⟨m.nm.toArray⟩):=hP.c0
 have hq:((ByteArray.mk x.nm.toArray).toList != (ByteArray.mk m.nm.toArray).toList) = !decide (x.nm=m.nm):=by rw [bne,str_beq];by_cases e:x.nm=m.nm <;> simp [e]
 refine wp_part 1 ?_
 refine vm_fragA (X:=⟨w,[]⟩) kr [(11,2),(11,4),(11,6)] gpN ((gpI.drop 2).take 1) (ne_nil kr) (fun r=>[(0,(.slice (some ⟨bl,o,none⟩) l.length c,0)),(3,(.pointer (some ⟨p,0,none⟩),0)),(6,(sv,0)),(7,(.bool dn,0)),(8,(.int .i64 ((j:Int)),0))]) (fun r=>[]) 0 (fun _=>(0,0)) (hS) (memOk0 w _) (fun r hr=>⟨rfl,rfl⟩) (keysLt_all kr) [] [lV (Instr.indexAt 48 (.slice (some ⟨bl,o,none⟩) (l.length) (c)) (.int .i64 ((j:Int)))) (.pointer (some ⟨bl,o+j * 4,none⟩)) (fun w hC=>ixM j w (by omega) (by omega) (by omega)),lV (Instr.loadAt 9 (.pointer (some ⟨bl,o+j * 4+0,none⟩))) (.string ⟨(x.nm).toArray⟩) (fun w hC=>ldN (hA.chg hC)),lV (Instr.loadAt 9 (.pointer (some ⟨p,0+0,none⟩))) (.string ⟨(m.nm).toArray⟩) (fun w hC=>ldS (hC.cell0 hP0))] (VEx.n) (fun r=>[(0,(.slice (some ⟨bl,o,none⟩) l.length c,0)),(3,(.pointer (some ⟨p,0,none⟩),0)),(6,(sv,0)),(7,(.bool dn,0)),(8,(.int .i64 ((j:Int)),0)),(46,(.bool ((ByteArray.mk x.nm.toArray).toList != (ByteArray.mk m.nm.toArray).toList),0))]) [] (fun r=>[]) (fun r g=>by kernel_rfl) (fun r g=>by kernel_rfl) ?_
 intro r a1 w1 hr hS1 hK1 hM1
 have hc1:Chg [] w w1:=hM1.below
 have hA1:=hA.chg hc1
 have hO1:=slo_chg hO hc1
 have hsz1:=hc1.size
 rw [hq] at hS1
 clear hM1 hr hK1 hq
 refine then_n ?_
 show wpL Tryz.prog ((gpI.drop 2).drop 1) _ a1 w1
 rw [show (gpI.drop 2).drop 1 = [gpI.getD 3 .skip] from by kernel_rfl]
 refine wpL_if 46 (!decide (x.nm=m.nm)) 0 kr hS1 (by simp) ?_
 by_cases e:x.nm=m.nm
 ·rw [decide_eq_true e]
  show (cF (gpI.getD 3 .skip)).wp Tryz.prog _ a1 w1
  rw [show cF (gpI.getD 3 .skip) = .skip from by kernel_rfl]
  refine wp_skip (then_n (wpL_nil ?_))
  refine K a1 w1 sv (hS1.sub (by simp)) ?_ (hc1.mono (fun y hy=>by cases hy)) (fun y hy=>.inl hy)
  rw [if_pos e,List.append_nil]
  exact hO1
 ·rw [decide_eq_false e]
  show (cT (gpI.getD 3 .skip)).wp Tryz.prog _ a1 w1
  refine wp_rg 12 gp12 kr ?_
  refine ops_win gp12 kr 0 6 (by omega) nle ?_
  refine vm_opsA (X:=⟨w1,[]⟩) [(12,3),(12,4)] gpN 12 (opsW gp12 0 6) (fun r=>[(0,(.slice (some ⟨bl,o,none⟩) l.length c,0)),(3,(.pointer (some ⟨p,0,none⟩),0)),(6,(sv,0)),(7,(.bool dn,0)),(8,(.int .i64 ((j:Int)),0))]) (fun r=>[]) 0 (fun _=>(0,0)) ((hS1.sub (l':=[(0,(.slice (some ⟨bl,o,none⟩) l.length c,0)),(3,(.pointer (some ⟨p,0,none⟩),0)),(6,(sv,0)),(7,(.bool dn,0)),(8,(.int .i64 (j:Int),0))]) (by simp))) (memOk0 w1 _) (fun r hr=>⟨rfl,rfl⟩) (keysLt_all kr) [] [lV (Instr.indexAt 48 (.slice (some ⟨bl,o,none⟩) (l.length) (c)) (.int .i64 ((j:Int)))) (.pointer (some ⟨bl,o+j * 4,none⟩)) (fun w hC=>ixM j w (by omega) (by omega) (by omega)),lV (Instr.loadAt 23 (.pointer (some ⟨bl,o+j * 4,none⟩))) (vMt x) (fun w hC=>ldM (hA1.chg hC))] (fun r=>[(0,(.slice (some ⟨bl,o,none⟩) l.length c,0)),(3,(.pointer (some ⟨p,0,none⟩),0)),(6,(sv,0)),(7,(.bool dn,0)),(8,(.int .i64 ((j:Int)),0)),(47,(sv,0)),(52,(.slice (some ⟨(r 5).1,0,none⟩) 1 1,6))]) [] (fun r=>[(5,(23,(cellsM x).toArray))]) (fun r g=>by kernel_rfl) (fun r g=>by kernel_rfl) ?_
  intro r a2 w2 hr hS2 hK2 hM2
  refine then_n ?_
  have hd2:=(hM2.has 5 _ rfl).1
  have hc2:Chg [] w1 w2:=hM2.below
  have hO2:=slo_chg hO1 hc2
  have hsz2:=hc2.size
  have e47:=eval_St hS2 47 sv 0 (by simp)
  have e52:=eval_St hS2 52 (.slice (some ⟨(r 5).1,0,none⟩) 1 1) 6 (by simp)
  refine ops_app slT_M zMc4 gp12 kr 6 nle 47 52 kr e47 e52 (by omega) hO2 (encM_len acc) rfl (cellsM_one x) hd2 hN ?_
  intro sv' w3 hO3 hc3 hy3
  rw [show (opAt gp12 6).dst=some 53 from by kernel_rfl]
  have hS3:=hS2.putR 53 sv' nle kr
  generalize a2.put (some 53) sv'=a3 at *
  refine ops_win gp12 kr 7 gp12.length nle (Nat.le_refl _) ?_
  refine vm_opsA (X:=⟨w3,[]⟩) [] gpN 12 (opsW gp12 7 gp12.length) (fun r=>[(0,(.slice (some ⟨bl,o,none⟩) l.length c,0)),(3,(.pointer (some ⟨p,0,none⟩),0)),(7,(.bool dn,0)),(8,(.int .i64 ((j:Int)),0)),(53,(sv',0))]) (fun r=>[]) 0 (fun _=>(0,0)) ((hS3.sub (l':=[(0,(.slice (some ⟨bl,o,none⟩) l.length c,0)),(3,(.pointer (some ⟨p,0,none⟩),0)),(7,(.bool dn,0)),(8,(.int .i64 (j:Int),0)),(53,(sv',0))]) (by simp))) (memOk0 w3 _) (fun r hr=>⟨rfl,rfl⟩) (keysLt_all kr) [] [] (fun r=>[(0,(.slice (some ⟨bl,o,none⟩) l.length c,0)),(3,(.pointer (some ⟨p,0,none⟩),0)),(7,(.bool dn,0)),(8,(.int .i64 ((j:Int)),0)),(6,(sv',0))]) [] (fun r=>[]) (fun r g=>by kernel_rfl) (fun r g=>by kernel_rfl) ?_
  intro r a4 w4 hr hS4 hK4 hM4
  refine then_n (ops_fin gp12 (then_n (wpL_nil ?_)))
  have hc4:Chg [] w3 w4:=hM4.below
  refine K a4 w4 sv' (hS4.sub (by simp)) ?_ ?_ ?_
  ·rw [if_neg e,encM_app,List.length_append]
   exact slo_chg hO3 hc4
  ·exact ((hc1.trans hc2).mono (fun y hy=>by cases hy)).trans (hc3.trans (hc4.mono (fun y hy=>by cases hy)))
  ·intro y hy
   exact (hy3 y hy).imp id (fun h=>by omega)
def adR (m x:Mt) (dn:Bool):List Mt:=if (!dn && !sLt x.nm m.nm)=true then [m] else []
theorem gp_fst (hsz:w0.heap.size≤w.heap.size) (hj:j<l.length) (hS:St gpN [(0,(.slice (some ⟨bl,o,none⟩) l.length c,0)),(3,(.pointer (some ⟨p,0,none⟩),0)),(6,(sv,0)),(7,(.bool dn,0)),(8,(.int .i64 (j:Int),0))] a) (hA:MAt w bl (o+j * 4) x) (hP:MAt w p 0 m) (hO:SlO 23 zMc w0 w sv acc.length (encM acc)) (hN:acc.length≤1000000)
  (K:∀ a' w' sv',St gpN [(0,(.slice (some ⟨bl,o,none⟩) l.length c,0)),(3,(.pointer (some ⟨p,0,none⟩),0)),(6,(sv',0)),(7,(.bool (dn || !sLt x.nm m.nm),0)),(8,(.int .i64 (j:Int),0))] a'→SlO 23 zMc w0 w' sv' (acc++adR m x dn).length (encM (acc++adR m x dn))→Chg (slB sv) w w'→(∀ y,y ∈ slB sv'→y ∈ slB sv∨w.heap.size≤y)→wpL Tryz.prog (gpI.drop 2) Q a' w'):wpL Tryz.prog gpI Q a w:=by
 have hP0:w.cell? ⟨p,0+0,none⟩=some (.string ⟨m.nm.toArray⟩):=hP.c0
 refine wp_part 1 ?_
 have hgo:∀ a1 w1,St gpN ((34,(.bool (!dn && !sLt x.nm m.nm),0)) :: [(0,(.slice (some ⟨bl,o,none⟩) l.length c,0)),(3,(.pointer (some ⟨p,0,none⟩),0)),(6,(sv,0)),(7,(.bool dn,0)),(8,(.int .i64 (j:Int),0))]) a1→Chg [] w w1→wpL Tryz.prog (gpI.drop 1) Q a1 w1:=by
  intro a1 w1 hS1 hc1
  have hO1:=slo_chg hO hc1
  have hsz1:=hc1.size
  have hP1:=hP.chg hc1
  rw [show gpI.drop 1=gpI.getD 1 .skip :: gpI.drop 2 from by kernel_rfl]
  refine wpL_if 34 (!dn && !sLt x.nm m.nm) 0 kr hS1 (by simp) ?_
  cases hb:(!dn && !sLt x.nm m.nm) with
  | false =>
   show (cF (gpI.getD 1 .skip)).wp Tryz.prog _ a1 w1
   rw [show cF (gpI.getD 1 .skip) = .skip from by kernel_rfl]
   have hd:(dn || !sLt x.nm m.nm)=dn:=by cases dn <;> cases hz:sLt x.nm m.nm <;> simp [hz] at hb ⊢
   have he:acc++adR m x dn=acc:=by unfold adR;rw [hb];simp
   refine wp_skip (then_n (K a1 w1 sv ?_ ?_ (hc1.mono (fun y hy=>by cases hy)) (fun y hy=>.inl hy)))
   ·rw [hd];exact hS1.sub (by simp)
   ·rw [he];exact hO1
  | true =>
   have hd:(dn || !sLt x.nm m.nm)=true:=by cases dn <;> cases hz:sLt x.nm m.nm <;> simp [hz] at hb ⊢
   have he:acc++adR m x dn=acc ++ [m]:=by unfold adR;rw [hb];simp
   show (cT (gpI.getD 1 .skip)).wp Tryz.prog _ a1 w1
   refine wp_flat _ ?_
   rw [show flat (cT (gpI.getD 1 .skip)) = [(flat (cT (gpI.getD 1 .skip))).getD 0 .skip,(flat (cT (gpI.getD 1 .skip))).getD 1 .skip] from by kernel_rfl]
   show ((flat (cT (gpI.getD 1 .skip))).getD 0 .skip).wp Tryz.prog _ a1 w1
   refine wp_rg 9 gp9 kr ?_
   refine ops_win gp9 kr 0 3 (by omega) nle ?_
   refine vm_opsA (X:=⟨w1,[]⟩) [(9,1)] gpN 9 (opsW gp9 0 3) (fun r=>[(0,(.slice (some ⟨bl,o,none⟩) l.length c,0)),(3,(.pointer (some ⟨p,0,none⟩),0)),(6,(sv,0)),(7,(.bool dn,0)),(8,(.int .i64 ((j:Int)),0))]) (fun r=>[]) 0 (fun _=>(0,0)) ((hS1.sub (l':=[(0,(.slice (some ⟨bl,o,none⟩) l.length c,0)),(3,(.pointer (some ⟨p,0,none⟩),0)),(6,(sv,0)),(7,(.bool dn,0)),(8,(.int .i64 (j:Int),0))]) (by simp))) (memOk0 w1 _) (fun r hr=>⟨rfl,rfl⟩) (keysLt_all kr) [] [lV (Instr.loadAt 23 (.pointer (some ⟨p,0,none⟩))) (vMt m) (fun w hC=>ldM (hP1.chg hC))] (fun r=>[(0,(.slice (some ⟨bl,o,none⟩) l.length c,0)),(3,(.pointer (some ⟨p,0,none⟩),0)),(6,(sv,0)),(7,(.bool dn,0)),(8,(.int .i64 ((j:Int)),0)),(35,(sv,0)),(37,(.slice (some ⟨(r 2).1,0,none⟩) 1 1,3))]) [] (fun r=>[(2,(23,(cellsM m).toArray))]) (fun r g=>by kernel_rfl) (fun r g=>by kernel_rfl) ?_
   intro r a2 w2 hr hS2 hK2 hM2
   refine then_n ?_
   have hd2:=(hM2.has 2 _ rfl).1
   have hc2:Chg [] w1 w2:=hM2.below
   have hO2:=slo_chg hO1 hc2
   have hsz2:=hc2.size
   have e35:=eval_St hS2 35 sv 0 (by simp)
   have e37:=eval_St hS2 37 (.slice (some ⟨(r 2).1,0,none⟩) 1 1) 3 (by simp)
   refine ops_app slT_M zMc4 gp9 kr 3 nle 35 37 kr e35 e37 (by omega) hO2 (encM_len acc) rfl (cellsM_one m) hd2 hN ?_
   intro sv' w3 hO3 hc3 hy3
   rw [show (opAt gp9 3).dst=some 38 from by kernel_rfl]
   have hS3:=hS2.putR 38 sv' nle kr
   generalize a2.put (some 38) sv'=a3 at *
   refine ops_win gp9 kr 4 gp9.length nle (Nat.le_refl _) ?_
   refine vm_opsA (X:=⟨w3,[]⟩) [] gpN 9 (opsW gp9 4 gp9.length) (fun r=>[(0,(.slice (some ⟨bl,o,none⟩) l.length c,0)),(3,(.pointer (some ⟨p,0,none⟩),0)),(8,(.int .i64 ((j:Int)),0)),(38,(sv',0))]) (fun r=>[]) 0 (fun _=>(0,0)) ((hS3.sub (l':=[(0,(.slice (some ⟨bl,o,none⟩) l.length c,0)),(3,(.pointer (some ⟨p,0,none⟩),0)),(8,(.int .i64 (j:Int),0)),(38,(sv',0))]) (by simp))) (memOk0 w3 _) (fun r hr=>⟨rfl,rfl⟩) (keysLt_all kr) [] [] (fun r=>[(0,(.slice (some ⟨bl,o,none⟩) l.length c,0)),(3,(.pointer (some ⟨p,0,none⟩),0)),(8,(.int .i64 ((j:Int)),0)),(6,(sv',0))]) [] (fun r=>[]) (fun r g=>by kernel_rfl) (fun r g=>by kernel_rfl) ?_
   intro r a4 w4 hr hS4 hK4 hM4
   have hc4:Chg [] w3 w4:=hM4.below
   refine then_n (ops_fin gp9 (then_n ?_))
   refine vm_fragA (X:=⟨w4,[]⟩) kr [] gpN [(flat (cT (gpI.getD 1 .skip))).getD 1 .skip] (ne_nil kr) (fun r=>[(0,(.slice (some ⟨bl,o,none⟩) l.length c,0)),(3,(.pointer (some ⟨p,0,none⟩),0)),(8,(.int .i64 ((j:Int)),0)),(6,(sv',0))]) (fun r=>[]) 0 (fun _=>(0,0)) (hS4) (memOk0 w4 _) (fun r hr=>⟨rfl,rfl⟩) (keysLt_all kr) [] [] (VEx.n) (fun r=>[(0,(.slice (some ⟨bl,o,none⟩) l.length c,0)),(3,(.pointer (some ⟨p,0,none⟩),0)),(8,(.int .i64 ((j:Int)),0)),(6,(sv',0)),(7,(.bool true,0))]) [] (fun r=>[]) (fun r g=>by kernel_rfl) (fun r g=>by kernel_rfl) ?_
   intro r a5 w5 hr hS5 hK5 hM5
   have hc5:Chg [] w4 w5:=hM5.below
   refine then_n (K a5 w5 sv' ?_ ?_ ?_ ?_)
   ·rw [hd];exact hS5.sub (by simp)
   ·rw [he,encM_app,List.length_append]
    exact slo_chg hO3 (hc4.trans hc5)
   ·exact ((hc1.trans hc2).mono (fun y hy=>by cases hy)).trans (hc3.trans ((hc4.trans hc5).mono (fun y hy=>by cases hy)))
   ·intro y hy
    exact (hy3 y hy).imp id (fun h=>by omega)
 cases dn with
 | true =>
  refine vm_fragA (X:=⟨w,[]⟩) kr [] gpN (gpI.take 1) (ne_nil kr) (fun r=>[(0,(.slice (some ⟨bl,o,none⟩) l.length c,0)),(3,(.pointer (some ⟨p,0,none⟩),0)),(6,(sv,0)),(7,(.bool true,0)),(8,(.int .i64 ((j:Int)),0))]) (fun r=>[]) 0 (fun _=>(0,0)) (hS) (memOk0 w _) (fun r hr=>⟨rfl,rfl⟩) (keysLt_all kr) [.f,.f,.f,.f,.f,.f,.f,.f,.f] [] (VEx.n) (fun r=>[(0,(.slice (some ⟨bl,o,none⟩) l.length c,0)),(3,(.pointer (some ⟨p,0,none⟩),0)),(6,(sv,0)),(7,(.bool true,0)),(8,(.int .i64 ((j:Int)),0)),(34,(.bool false,0))]) [] (fun r=>[]) (fun r g=>by kernel_rfl) (fun r g=>by kernel_rfl) ?_
  intro r a1 w1 hr hS1 hK1 hM1
  exact then_n (hgo a1 w1 (hS1.sub (by simp)) hM1.below)
 | false =>
  refine vm_fragA (X:=⟨w,[]⟩) kr [(8,5),(8,7),(8,9)] gpN (gpI.take 1) (ne_nil kr) (fun r=>[(0,(.slice (some ⟨bl,o,none⟩) l.length c,0)),(3,(.pointer (some ⟨p,0,none⟩),0)),(6,(sv,0)),(7,(.bool false,0)),(8,(.int .i64 ((j:Int)),0))]) (fun r=>[]) 0 (fun _=>(0,0)) (hS) (memOk0 w _) (fun r hr=>⟨rfl,rfl⟩) (keysLt_all kr) [.t,.t,.t,.t,.t,.t,.t,.t,.t] [lV (Instr.indexAt 48 (.slice (some ⟨bl,o,none⟩) (l.length) (c)) (.int .i64 ((j:Int)))) (.pointer (some ⟨bl,o+j * 4,none⟩)) (fun w hC=>ixM j w (by omega) (by omega) (by omega)),lV (Instr.loadAt 9 (.pointer (some ⟨bl,o+j * 4+0,none⟩))) (.string ⟨(x.nm).toArray⟩) (fun w hC=>ldN (hA.chg hC)),lV (Instr.loadAt 9 (.pointer (some ⟨p,0+0,none⟩))) (.string ⟨(m.nm).toArray⟩) (fun w hC=>ldS (hC.cell0 hP0))] (VEx.n) (fun r=>[(0,(.slice (some ⟨bl,o,none⟩) l.length c,0)),(3,(.pointer (some ⟨p,0,none⟩),0)),(6,(sv,0)),(7,(.bool false,0)),(8,(.int .i64 ((j:Int)),0)),(34,(.bool (!sLt x.nm m.nm),0))]) [] (fun r=>[]) (fun r g=>by kernel_rfl) (fun r g=>by kernel_rfl) ?_
  intro r a1 w1 hr hS1 hK1 hM1
  exact then_n (hgo a1 w1 (hS1.sub (by simp)) hM1.below)
end
theorem slB_ge {t:TypeId} {z:Array Value} {w0 w:World} {sv:Value} {n:Nat} {xs:List Value} (h:SlO t z w0 w sv n xs):∀ y,y ∈ slB sv→w0.heap.size≤y:=by
 rcases h with ⟨-,-,rfl⟩ | ⟨b,m,rfl,hb,-⟩
 ·intro y hy;cases hy
 ·intro y hy
  rw [List.mem_singleton.1 hy];exact hb
theorem MAt.chgL {w w':World} {L:List Nat} {b p:Nat} {m:Mt} (h:MAt w b p m) (hc:Chg L w w') (hn:b ∉ L):MAt w' b p m:=⟨hc.cell hn h.c0,hc.cell hn h.c1,hc.cell hn h.c2,hc.cell hn h.c3⟩
theorem Chg.belowL {L:List Nat} {w0 w w':World} (h:Chg L w w') (hs:w0.heap.size≤w.heap.size) (hl:∀ y,y ∈ L→w0.heap.size≤y):Below w0.heap.size w w':=h.below hs hl
theorem insR_cons (m x:Mt) (dn:Bool) (r:List Mt):insR m dn (x :: r)=adR m x dn++((if x.nm=m.nm then [] else [x])++insR m (dn || !sLt x.nm m.nm) r):=rfl
noncomputable def gpR:Code:=seqs (cPost 0 gpC)
noncomputable def gpT:List Code:=flat gpR
section
variable {l acc:List Mt} {m:Mt} {w0 w:World} {sv:Value} {a:Act}
theorem gp_fin (hv:validT l=true) (hr:rightM m=true) (he:insR m false l=acc) (hN:acc.length≤1000000) (hb:Below w0.heap.size w0 w) (hS:St gpN [(6,(sv,0))] a) (hO:SlO 23 zMc w0 w sv acc.length (encM acc)):wpL Tryz.prog (gpT.drop 2) (bodyPost Tryz.prog Tryz.f36 (RetPu (putT l m) w0)) a w:=by
 have hok:=(valid_len hv).2
 have hp:putT l m=if acc.length≤100 then (acc,0) else ([],3):=by
  unfold putT
  rw [hv,hr,if_pos (by rfl),← insR_ins hok,he]
 obtain ⟨base2,c2,hsv,-⟩:=hO.rds
 by_cases hl:acc.length≤100
 ·rw [hp,if_pos hl]
  have hq:decide ((100:Int)<((acc.length:Nat):Int))=false:=decide_eq_false (by omega)
  rw [hsv] at hS
  refine vm_fragA (X:=⟨w,[]⟩) kr [] gpN (gpT.drop 2) (ne_nil kr) (fun r=>[(6,(.slice base2 acc.length c2,0))]) (fun r=>[]) 0 (fun _=>(0,0)) (hS) (memOk0 w _) (fun r hr=>⟨rfl,rfl⟩) (keysLt_all kr) [(.p _ false hq)] [] (VEx.r) (fun r=>[(4,(.slice base2 acc.length c2,0)),(5,(.int .i64 (0),0))]) [] (fun r=>[]) (fun r g=>by kernel_rfl) (fun r g=>by kernel_rfl) ?_
  intro r a1 w1 hr hS1 hK1 hM1
  refine vm_out (fn:=Tryz.f36) hS1 (.tuple #[.slice base2 acc.length c2,.int .i64 0]) (fun g=>by kernel_rfl) ⟨_,rfl,?_,hb.trans (hM1.below.bl0.mono hb.size)⟩
  rw [← hsv]
  exact slo_chg hO hM1.below
 ·rw [hp,if_neg hl]
  have hq:decide ((100:Int)<((acc.length:Nat):Int))=true:=decide_eq_true (by omega)
  rw [hsv] at hS
  refine vm_fragA (X:=⟨w,[]⟩) kr [] gpN (gpT.drop 2) (ne_nil kr) (fun r=>[(6,(.slice base2 acc.length c2,0))]) (fun r=>[]) 0 (fun _=>(0,0)) (hS) (memOk0 w _) (fun r hr=>⟨rfl,rfl⟩) (keysLt_all kr) [(.p _ true hq)] [] (VEx.r) (fun r=>[(4,(.slice none 0 0,0)),(5,(.int .i64 (3),0))]) [] (fun r=>[]) (fun r g=>by kernel_rfl) (fun r g=>by kernel_rfl) ?_
  intro r a1 w1 hr hS1 hK1 hM1
  exact vm_out (fn:=Tryz.f36) hS1 (.tuple #[.slice none 0 0,.int .i64 3]) (fun g=>by kernel_rfl) ⟨_,rfl,slo_nil,hb.trans (hM1.below.bl0.mono hb.size)⟩
theorem gp_end {p:Nat} {dn:Bool} (hv:validT l=true) (hr:rightM m=true) (he:insR m false l=acc++insR m dn []) (hN:acc.length≤999999) (hb:Below w0.heap.size w0 w) (hP:MAt w p 0 m) (hS:St gpN [(3,(.pointer (some ⟨p,0,none⟩),0)),(6,(sv,0)),(7,(.bool dn,0))] a) (hO:SlO 23 zMc w0 w sv acc.length (encM acc)):wpL Tryz.prog gpT (bodyPost Tryz.prog Tryz.f36 (RetPu (putT l m) w0)) a w:=by
 cases dn with
 | true =>
  refine wp_part 2 ?_
  refine vm_fragA (X:=⟨w,[]⟩) kr [] gpN (gpT.take 2) (ne_nil kr) (fun r=>[(3,(.pointer (some ⟨p,0,none⟩),0)),(6,(sv,0)),(7,(.bool true,0))]) (fun r=>[]) 0 (fun _=>(0,0)) (hS) (memOk0 w _) (fun r hr=>⟨rfl,rfl⟩) (keysLt_all kr) [.f] [] (VEx.n) (fun r=>[(6,(sv,0))]) [] (fun r=>[]) (fun r g=>by kernel_rfl) (fun r g=>by kernel_rfl) ?_
  intro r a1 w1 hrr hS1 hK1 hM1
  exact then_n (gp_fin hv hr (by rw [he];show acc ++ []=acc;simp) (by omega) (hb.trans (hM1.below.bl0.mono hb.size)) hS1 (slo_chg hO hM1.below))
 | false =>
  refine wp_part 1 ?_
  refine vm_fragA (X:=⟨w,[]⟩) kr [] gpN (gpT.take 1) (ne_nil kr) (fun r=>[(3,(.pointer (some ⟨p,0,none⟩),0)),(6,(sv,0)),(7,(.bool false,0))]) (fun r=>[]) 0 (fun _=>(0,0)) (hS) (memOk0 w _) (fun r hr=>⟨rfl,rfl⟩) (keysLt_all kr) [] [] (VEx.n) (fun r=>[(3,(.pointer (some ⟨p,0,none⟩),0)),(6,(sv,0)),(7,(.bool false,0)),(55,(.bool true,0))]) [] (fun r=>[]) (fun r g=>by kernel_rfl) (fun r g=>by kernel_rfl) ?_
  intro r a1 w1 hrr hS1 hK1 hM1
  have hc1:Chg [] w w1:=hM1.below
  have hP1:=hP.chg hc1
  have hO1:=slo_chg hO hc1
  have hsz:=hb.size
  have hsz1:=hc1.size
  refine then_n ?_
  rw [show gpT.drop 1=gpT.getD 1 .skip :: gpT.drop 2 from by kernel_rfl]
  refine wpL_if 55 true 0 kr hS1 (by simp) ?_
  show (cT (gpT.getD 1 .skip)).wp Tryz.prog _ a1 w1
  refine wp_rg 14 gp14 kr ?_
  refine ops_win gp14 kr 0 3 (by omega) nle ?_
  refine vm_opsA (X:=⟨w1,[]⟩) [(14,1)] gpN 14 (opsW gp14 0 3) (fun r=>[(3,(.pointer (some ⟨p,0,none⟩),0)),(6,(sv,0))]) (fun r=>[]) 0 (fun _=>(0,0)) ((hS1.sub (l':=[(3,(.pointer (some ⟨p,0,none⟩),0)),(6,(sv,0))]) (by simp))) (memOk0 w1 _) (fun r hr=>⟨rfl,rfl⟩) (keysLt_all kr) [] [lV (Instr.loadAt 23 (.pointer (some ⟨p,0,none⟩))) (vMt m) (fun w hC=>ldM (hP1.chg hC))] (fun r=>[(3,(.pointer (some ⟨p,0,none⟩),0)),(6,(sv,0)),(56,(sv,0)),(58,(.slice (some ⟨(r 2).1,0,none⟩) 1 1,3))]) [] (fun r=>[(2,(23,(cellsM m).toArray))]) (fun r g=>by kernel_rfl) (fun r g=>by kernel_rfl) ?_
  intro r a2 w2 hr' hS2 hK2 hM2
  refine then_n ?_
  have hd2:=(hM2.has 2 _ rfl).1
  have hc2:Chg [] w1 w2:=hM2.below
  have hO2:=slo_chg hO1 hc2
  have hsz2:=hc2.size
  have e35:=eval_St hS2 56 sv 0 (by simp)
  have e37:=eval_St hS2 58 (.slice (some ⟨(r 2).1,0,none⟩) 1 1) 3 (by simp)
  refine ops_app slT_M zMc4 gp14 kr 3 nle 56 58 kr e35 e37 (by omega) hO2 (encM_len acc) rfl (cellsM_one m) hd2 (by omega) ?_
  intro sv' w3 hO3 hc3 hy3
  rw [show (opAt gp14 3).dst=some 59 from by kernel_rfl]
  have hS3:=hS2.putR 59 sv' nle kr
  generalize a2.put (some 59) sv'=a3 at *
  refine ops_win gp14 kr 4 gp14.length nle (Nat.le_refl _) ?_
  refine vm_opsA (X:=⟨w3,[]⟩) [] gpN 14 (opsW gp14 4 gp14.length) (fun r=>[(59,(sv',0))]) (fun r=>[]) 0 (fun _=>(0,0)) ((hS3.sub (l':=[(59,(sv',0))]) (by simp))) (memOk0 w3 _) (fun r hr=>⟨rfl,rfl⟩) (keysLt_all kr) [] [] (fun r=>[(6,(sv',0))]) [] (fun r=>[]) (fun r g=>by kernel_rfl) (fun r g=>by kernel_rfl) ?_
  intro r a4 w4 hr' hS4 hK4 hM4
  have hc4:Chg [] w3 w4:=hM4.below
  refine then_n (ops_fin gp14 (then_n ?_))
  have hb2:Below w0.heap.size w0 w2:=hb.trans ((hc1.trans hc2).bl0.mono hb.size)
  have hb3:=hb2.trans (hc3.belowL hb2.size (slB_ge hO2))
  refine gp_fin (acc:=acc ++ [m]) hv hr he (by simp;omega) (hb3.trans (hc4.bl0.mono hb3.size)) hS4 ?_
  rw [encM_app,List.length_append]
  exact slo_chg hO3 hc4
end
theorem gnPut_any (l:List Mt) (m:Mt) (base:Option Addr) (c:Nat) (w:World) (hR:RdS w base (encM l)) (hn:l.length≤1000) (hm:∀ m,m ∈ l→m.nm.length≤1000000) (hml:m.nm.length≤1000000):Calls Tryz.prog 36 #[.slice base l.length c,vMt m] w (RetPu (putT l m) w):=by
 refine vm_start [.slice base l.length c,vMt m] (fn:=Tryz.f36) (c:=gpC) kr kr nle ?_
 intro a hS
 have hS:St gpN [(0,(.slice base l.length c,0)),(1,(vMt m,0))] a:=hS
 have hV:∀ w',Chg [] w w'→Calls Tryz.prog 38 #[.slice base l.length c] w' (RetV (.bool (validT l)) w'):=fun w' hc=>gnValid_any l base c w' (hR.chg hc) (by omega) hm
 have hT:∀ w',Chg [] w w'→Calls Tryz.prog 69 #[vMt m] w' (RetV (.bool (rightM m)) w'):=fun w' hc=>gnRight_any m w' hml
 have hbad:(validT l && rightM m)=false→putT l m=([],1):=fun h=>by
  unfold putT
  rw [h,if_neg (by decide)]
 cases hv:validT l with
 | false =>
  rw [hv] at hV
  rw [hbad (by rw [hv];rfl)]
  refine wpL_one ?_
  refine vm_fragA (X:=⟨w,[]⟩) kr [] gpN [gpC] (ne_nil kr) (fun r=>[(0,(.slice base l.length c,0)),(1,(vMt m,0))]) (fun r=>[]) 0 (fun _=>(0,0)) (hS) (memOk0 w _) (fun r hr=>⟨rfl,rfl⟩) (keysLt_all kr) [.t,.t,.t,.t,.t] [cW hV] (VEx.r) (fun r=>[(4,(.slice none 0 0,0)),(5,(.int .i64 (1),0))]) [] (fun r=>[]) (fun r g=>by kernel_rfl) (fun r g=>by kernel_rfl) ?_
  intro r a1 w1 hr hS1 hK1 hM1
  exact vm_out (fn:=Tryz.f36) hS1 (.tuple #[.slice none 0 0,.int .i64 1]) (fun g=>by kernel_rfl) ⟨_,rfl,slo_nil,hM1.below.bl0⟩
 | true =>
 rw [hv] at hV
 cases hr:rightM m with
 | false =>
  rw [hr] at hT
  rw [hbad (by rw [hv,hr];rfl)]
  refine wpL_one ?_
  refine vm_fragA (X:=⟨w,[]⟩) kr [] gpN [gpC] (ne_nil kr) (fun r=>[(0,(.slice base l.length c,0)),(1,(vMt m,0))]) (fun r=>[]) 0 (fun _=>(0,0)) (hS) (memOk0 w _) (fun r hr=>⟨rfl,rfl⟩) (keysLt_all kr) [.f,.f,.f,.f,.t] [cW hV,cW hT] (VEx.r) (fun r=>[(4,(.slice none 0 0,0)),(5,(.int .i64 (1),0))]) [] (fun r=>[]) (fun r g=>by kernel_rfl) (fun r g=>by kernel_rfl) ?_
  intro r a1 w1 hr hS1 hK1 hM1
  exact vm_out (fn:=Tryz.f36) hS1 (.tuple #[.slice none 0 0,.int .i64 1]) (fun g=>by kernel_rfl) ⟨_,rfl,slo_nil,hM1.below.bl0⟩
 | true =>
 rw [hr] at hT
 refine wp_cut 0 kr ?_
 refine vm_fragA (X:=⟨w,[]⟩) kr [] gpN (cPre 0 gpC) (ne_nil kr) (fun r=>[(0,(.slice base l.length c,0)),(1,(vMt m,0))]) (fun r=>[]) 0 (fun _=>(0,0)) (hS) (memOk0 w _) (fun r hr=>⟨rfl,rfl⟩) (keysLt_all kr) [.f,.f,.f,.f,.f] [cW hV,cW hT] (VEx.n) (fun r=>[(0,(.slice base l.length c,0)),(3,(.pointer (some ⟨(r 0).1,0,none⟩),1)),(6,(.slice none 0 0,0)),(7,(.bool false,0)),(8,(.int .i64 (((0:Nat):Int)),0))]) [] (fun r=>[(0,(23,(cellsM m).toArray))]) (fun r g=>by kernel_rfl) (fun r g=>by kernel_rfl) ?_
 intro r a1 w1 hrr hS1 hK1 hM1
 have hh:=hM1.has 0 _ rfl
 obtain ⟨p,hp⟩:∃ p,p=(r 0).1:=⟨_,rfl⟩
 have hp1:Hc w1 p 23 (cellsM m).toArray:=by rw [hp];exact hh.1
 have hpw:w.heap.size≤p:=by rw [hp];exact own_nil hh.2
 have hb1:Below w.heap.size w w1:=hM1.below.bl0
 have hS1:St gpN [(0,(.slice base l.length c,0)),(3,(.pointer (some ⟨p,0,none⟩),0)),(6,(.slice none 0 0,0)),(7,(.bool false,0)),(8,(.int .i64 ((0:Nat):Int),0))] a1:=by rw [hp];exact hS1.re rfl
 clear hM1 hh hrr hS hK1 hV hT
 refine wp_for 0 kr kr (fun n a' w'=>∃ j acc sv dn,l.length - j=n∧j≤l.length∧insR m false l=acc++insR m dn (l.drop j)∧acc.length≤2 * j∧SlO 23 zMc w w' sv acc.length (encM acc)∧St gpN [(0,(.slice base l.length c,0)),(3,(.pointer (some ⟨p,0,none⟩),0)),(6,(sv,0)),(7,(.bool dn,0)),(8,(.int .i64 (j:Int),0))] a'∧MAt w' p 0 m∧p<w'.heap.size∧p ∉ slB sv∧Below w.heap.size w w') (l.length - 0) ⟨0,[],.slice none 0 0,false,rfl,Nat.zero_le _,rfl,Nat.le_refl _,slo_nil,hS1,mat_at hp1,hp1.lt,(fun h=>by cases h),hb1⟩ ?_
 clear hS1 hp1 hb1 hp
 rintro n a2 w2 ⟨j,acc,sv,dn,rfl,hj,hins,hacc,hO,hS2,hP,hpl,hps,hB2⟩
 have hsz2:=hB2.size
 rcases Nat.lt_or_ge j l.length with hjl | hjl
 ·have h2:decide ((j:Int)<((l.length:Nat):Int))=true:=decide_eq_true (by omega)
  obtain ⟨bl,o,rfl,hA⟩:=(hR.bl hB2).at j hjl
  have hbl:bl<w.heap.size:=by
   obtain ⟨bl',o',e,hA'⟩:=hR.at j hjl
   cases e
   exact lt_of_cell (hA' j hjl).c0
  have hAj:=hA j hjl
  rw [List.drop_eq_getElem_cons hjl,insR_cons] at hins
  have v1:IntKind.i64.wrap ((j:Int)+1)=((j+1:Nat):Int):=by rw [wr64 (by omega) (by omega)];omega
  generalize l[j]=x at *
  refine wp_flat _ ?_
  show wpL Tryz.prog gpL _ a2 w2
  refine wp_part 2 ?_
  refine vm_fragA (X:=⟨w2,[]⟩) kr [] gpN (gpL.take 2) (ne_nil kr) (fun r=>[(0,(.slice (some ⟨bl,o,none⟩) l.length c,0)),(3,(.pointer (some ⟨p,0,none⟩),0)),(6,(sv,0)),(7,(.bool dn,0)),(8,(.int .i64 ((j:Int)),0))]) (fun r=>[]) 0 (fun _=>(0,0)) (hS2) (memOk0 w2 _) (fun r hr=>⟨rfl,rfl⟩) (keysLt_all kr) [(.p _ true h2)] [] (VEx.n) (fun r=>[(0,(.slice (some ⟨bl,o,none⟩) l.length c,0)),(3,(.pointer (some ⟨p,0,none⟩),0)),(6,(sv,0)),(7,(.bool dn,0)),(8,(.int .i64 ((j:Int)),0))]) [] (fun r=>[]) (fun r g=>by kernel_rfl) (fun r g=>by kernel_rfl) ?_
  intro r a3 w3 hrr hS3 hK3 hM3
  have hc3:Chg [] w2 w3:=hM3.below
  have hB3:=hB2.trans (hc3.bl0.mono hB2.size)
  have hsz3:=hc3.size
  have hO3:=slo_chg hO hc3
  have hge:=slB_ge hO3
  refine then_n ?_
  rw [show gpL.drop 2=gpB :: gpL.drop 3 from by kernel_rfl]
  show gpB.wp Tryz.prog _ a3 w3
  refine wp_blk 1 kr ?_
  refine wp_flat _ ?_
  show wpL Tryz.prog gpI _ a3 w3
  refine gp_fst (Nat.le_trans hsz2 hsz3) hjl (hS3.re rfl) (hAj.chg hc3) (hP.chg hc3) hO3 (by omega) ?_
  intro a4 w4 sv4 hS4 hO4 hc4 hy4
  have hsz4:=hc4.size
  have hP4:=(hP.chg hc3).chgL hc4 hps
  have hps4:p ∉ slB sv4:=fun h=>(hy4 p h).elim hps (fun h=>by omega)
  have hB4:=hB3.trans (hc4.belowL hB3.size hge)
  have hle:(acc++adR m x dn).length≤acc.length+1:=by
   unfold adR
   split <;> simp
  refine gp_snd (by omega) hjl hS4 ((hAj.chg hc3).chgL hc4 (fun h=>by have:=hge bl h;omega)) hP4 hO4 (by omega) ?_
  intro a5 w5 sv5 hS5 hO5 hc5 hy5
  have hsz5:=hc5.size
  have hP5:=hP4.chgL hc5 hps4
  have hps5:p ∉ slB sv5:=fun h=>(hy5 p h).elim hps4 (fun h=>by omega)
  have hB5:=hB4.trans (hc5.belowL hB4.size (slB_ge hO4))
  refine inBlock_n (then_n ?_)
  refine vm_fragA (X:=⟨w5,[]⟩) kr [(7,1)] gpN (gpL.drop 3) (ne_nil kr) (fun r=>[(0,(.slice (some ⟨bl,o,none⟩) l.length c,0)),(3,(.pointer (some ⟨p,0,none⟩),0)),(6,(sv5,0)),(7,(.bool (dn || !sLt x.nm m.nm),0)),(8,(.int .i64 ((j:Int)),0))]) (fun r=>[]) 0 (fun _=>(0,0)) (hS5) (memOk0 w5 _) (fun r hr=>⟨rfl,rfl⟩) (keysLt_all kr) [] [lE .i64 ((((j:Int)):Int)+((1):Int)) (((j+1:Nat):Int)) (v1)] (VEx.n) (fun r=>[(0,(.slice (some ⟨bl,o,none⟩) l.length c,0)),(3,(.pointer (some ⟨p,0,none⟩),0)),(6,(sv5,0)),(7,(.bool (dn || !sLt x.nm m.nm),0)),(8,(.int .i64 (((j+1:Nat):Int)),0))]) [] (fun r=>[]) (fun r g=>by kernel_rfl) (fun r g=>by kernel_rfl) ?_
  intro r a6 w6 hrr hS6 hK6 hM6
  have hc6:Chg [] w5 w6:=hM6.below
  have hsz6:=hc6.size
  refine ⟨l.length - (j+1),by omega,j+1,(acc++adR m x dn)++(if x.nm=m.nm then [] else [x]),sv5,(dn || !sLt x.nm m.nm),rfl,by omega,by rw [hins];simp,?_,slo_chg hO5 hc6,hS6.re rfl,hP5.chg hc6,by omega,hps5,hB5.trans (hc6.bl0.mono hB5.size)⟩
  rw [List.length_append]
  have:(if x.nm=m.nm then [] else [x]).length≤1:=by split <;> simp
  omega
 ·have h2:decide ((j:Int)<((l.length:Nat):Int))=false:=decide_eq_false (by omega)
  obtain rfl:j=l.length:=by omega
  rw [List.drop_length] at hins
  refine wpL_one ?_
  refine vm_fragA (X:=⟨w2,[]⟩) kr [] gpN [cI (cI gp0)] (ne_nil kr) (fun r=>[(0,(.slice base l.length c,0)),(3,(.pointer (some ⟨p,0,none⟩),0)),(6,(sv,0)),(7,(.bool dn,0)),(8,(.int .i64 (((l.length:Nat):Int)),0))]) (fun r=>[]) 0 (fun _=>(0,0)) (hS2) (memOk0 w2 _) (fun r hr=>⟨rfl,rfl⟩) (keysLt_all kr) [(.p _ false h2)] [] (VEx.x 0) (fun r=>[(3,(.pointer (some ⟨p,0,none⟩),0)),(6,(sv,0)),(7,(.bool dn,0))]) [] (fun r=>[]) (fun r g=>by kernel_rfl) (fun r g=>by kernel_rfl) ?_
  intro r a3 w3 hrr hS3 hK3 hM3
  have hc3:Chg [] w2 w3:=hM3.below
  refine exit_n (then_n ?_)
  rw [show cPost 0 gpC = [gpR] by kernel_rfl]
  refine wpL_one (wp_flat gpR ?_)
  have hfin:=gp_end (a:=a3) hv hr hins (by omega) (hB2.trans (hc3.bl0.mono hB2.size)) (hP.chg hc3) (hS3.re rfl) (slo_chg hO hc3)
  exact wpL_mono _ hfin (fun e a w h=>by cases e <;> exact h)

theorem MAt.bl {w w':World} {b p:Nat} {m:Mt} (h:MAt w b p m) (hb:Below w.heap.size w w'):MAt w' b p m:=⟨below_cell hb h.c0 (lt_of_cell h.c0),below_cell hb h.c1 (lt_of_cell h.c1),below_cell hb h.c2 (lt_of_cell h.c2),below_cell hb h.c3 (lt_of_cell h.c3)⟩
def findP:Option Mt→Mt × Bool
 | some m=>(m,true)
 | none=>(zM,false)
theorem findV_P (o:Option Mt):findV o = .tuple #[vMt (findP o).1,.bool (findP o).2]:=by cases o <;> rfl
theorem put_len {l P:List Mt} {m:Mt} {e:Int} (h:putT l m=(P,e)):P.length≤100:=by
 unfold putT at h
 split at h
 ·split at h
  ·rename_i hl
   have:=congrArg Prod.fst h
   simp only at this
   rw [← this];exact hl
  ·have:=congrArg Prod.fst h
   simp only at this
   rw [← this];decide
 ·have:=congrArg Prod.fst h
  simp only at this
  rw [← this];decide
theorem ins_mem {m:Mt}:∀ {l:List Mt} {y:Mt},y ∈ insT m l→y=m∨y ∈ l
 | [],y,h=>.inl (List.mem_singleton.1 h)
 | x :: r,y,h=>by
  rw [insT] at h
  split at h
  ·rcases List.mem_cons.1 h with rfl | h
   ·exact .inr (by simp)
   ·exact (ins_mem h).imp id (fun h=>by simp [h])
  ·split at h
   ·rcases List.mem_cons.1 h with rfl | h
    ·exact .inl rfl
    ·exact .inr (by simp [h])
   ·rcases List.mem_cons.1 h with rfl | h
    ·exact .inl rfl
    ·exact .inr h
theorem put_mem {l P:List Mt} {m:Mt} {e:Int} (h:putT l m=(P,e)):∀ y,y ∈ P→y=m∨y ∈ l:=by
 unfold putT at h
 have h1:=congrArg Prod.fst h
 split at h1
 ·split at h1
  ·simp only at h1
   intro y hy
   rw [← h1] at hy
   exact ins_mem hy
  ·simp only at h1
   intro y hy
   rw [← h1] at hy
   cases hy
 ·simp only at h1
  intro y hy
  rw [← h1] at hy
  cases hy
theorem few_of' {l:List Mt} (h:fewM l=true):l.length≤110∧∀ m,m ∈ l→m.nm.length≤40:=by
 unfold fewM at h
 simp only [Bool.and_eq_true,decide_eq_true_eq,List.all_eq_true] at h
 exact ⟨h.2,h.1⟩
theorem St.re' {nt:Nat} {l l':Env} {a:Act} (h:St nt l a) (hs:∀ p,p ∈ l'→∃ g,(p.1,(p.2.1,g)) ∈ l):St nt l' a:=⟨h.defers,h.size,fun p hp=>by obtain ⟨g,hg⟩:=hs p hp;exact h.has (p.1,(p.2.1,g)) hg⟩
noncomputable def gtN:Nat:=Tryz.f8.ntmps
noncomputable def gtC:Code:=Tryz.f8.body.getD .skip
noncomputable def gtL:List Code:=flat gtC
noncomputable def gt7:List Oper:=rgL 7 gtC
noncomputable def gt8:List Oper:=rgL 8 gtC
theorem GT_all (l:List Mt) (m:Mt) (s:List UInt8) (base:Option Addr) (c:Nat) (w:World) (hG:GW w) (hR:RdS w base (encM l)) (hn:l.length≤9223372036854775807):Calls Tryz.prog 8 #[.slice base l.length c,vMt m,.string ⟨s.toArray⟩] w (RetV (.bool true) w):=by
 refine vm_start [.slice base l.length c,vMt m,.string ⟨s.toArray⟩] (fn:=Tryz.f8) (c:=gtC) kr kr nle ?_
 intro a hS
 have hS:St gtN [(0,(.slice base l.length c,0)),(1,(vMt m,0)),(2,(.string ⟨s.toArray⟩,0))] a:=hS
 have HAW:∀ w',Chg [] w w'→Calls Tryz.prog 10 #[] w' (RetV (.bool true) w'):=fun w' hc=>gaawake_any w' (hG.below hc.bl0)
 have HF:∀ w',Chg [] w w'→Calls Tryz.prog 18 #[.slice base l.length c] w' (RetV (.bool (fewM l)) w'):=fun w' hc=>gnFew_any l base c w' (hR.bl hc.bl0) hn
 cases hf:fewM l with
 | false =>
  rw [hf] at HF
  refine wpL_one ?_
  refine vm_fragA (X:=⟨w,[]⟩) kr [] gtN [gtC] (ne_nil kr) (fun r=>[(0,(.slice base l.length c,0)),(1,(vMt m,0)),(2,(.string ⟨(s).toArray⟩,0))]) (fun r=>[]) 0 (fun _=>(0,0)) (hS) (memOk0 w _) (fun r hr=>⟨rfl,rfl⟩) (keysLt_all kr) [.f,.t,.t,.t,.t,.t,.t,.t,.t,.t,.t] [cW HAW,cW HF] (VEx.r) (fun r=>[(6,(.bool true,0))]) [] (fun r=>[]) (fun r g=>by kernel_rfl) (fun r g=>by kernel_rfl) ?_
  intro r a1 w1 hr hS1 hK1 hM1
  exact vm_out (fn:=Tryz.f8) hS1 (.bool true) (fun g=>by kernel_rfl) ⟨rfl,hM1.below.bl0⟩
 | true =>
 rw [hf] at HF
 obtain ⟨hl1,hl2⟩:=few_of' hf
 have z1:((ByteArray.mk m.nm.toArray).size:Int)=(m.nm.length:Int):=by rw [str_size]
 have z2:((ByteArray.mk s.toArray).size:Int)=(s.length:Int):=by rw [str_size]
 cases g1:decide ((40:Int)<((ByteArray.mk m.nm.toArray).size:Int)) with
 | true =>
  refine wpL_one ?_
  refine vm_fragA (X:=⟨w,[]⟩) kr [] gtN [gtC] (ne_nil kr) (fun r=>[(0,(.slice base l.length c,0)),(1,(vMt m,0)),(2,(.string ⟨(s).toArray⟩,0))]) (fun r=>[]) 0 (fun _=>(0,0)) (hS) (memOk0 w _) (fun r hr=>⟨rfl,rfl⟩) (keysLt_all kr) [.f,.f,.f,.f,.f,.f,(.p _ true g1),(.p _ true g1),(.p _ true g1),(.p _ true g1),.t] [cW HAW,cW HF] (VEx.r) (fun r=>[(6,(.bool true,0))]) [] (fun r=>[]) (fun r g=>by kernel_rfl) (fun r g=>by kernel_rfl) ?_
  intro r a1 w1 hr hS1 hK1 hM1
  exact vm_out (fn:=Tryz.f8) hS1 (.bool true) (fun g=>by kernel_rfl) ⟨rfl,hM1.below.bl0⟩
 | false =>
 cases g2:decide ((40:Int)<((ByteArray.mk s.toArray).size:Int)) with
 | true =>
  refine wpL_one ?_
  refine vm_fragA (X:=⟨w,[]⟩) kr [] gtN [gtC] (ne_nil kr) (fun r=>[(0,(.slice base l.length c,0)),(1,(vMt m,0)),(2,(.string ⟨(s).toArray⟩,0))]) (fun r=>[]) 0 (fun _=>(0,0)) (hS) (memOk0 w _) (fun r hr=>⟨rfl,rfl⟩) (keysLt_all kr) [.f,.f,.f,.f,.f,.f,(.p _ false g1),(.p _ false g1),(.p _ false g1),(.p _ false g1),(.p _ true g2)] [cW HAW,cW HF] (VEx.r) (fun r=>[(6,(.bool true,0))]) [] (fun r=>[]) (fun r g=>by kernel_rfl) (fun r g=>by kernel_rfl) ?_
  intro r a1 w1 hr hS1 hK1 hM1
  exact vm_out (fn:=Tryz.f8) hS1 (.bool true) (fun g=>by kernel_rfl) ⟨rfl,hM1.below.bl0⟩
 | false =>
 have k1:=of_decide_eq_false g1
 have k2:=of_decide_eq_false g2
 have hml:m.nm.length≤1000000:=by omega
 have hl3:∀ m,m ∈ l→m.nm.length≤1000000:=fun m hm=>Nat.le_trans (hl2 m hm) (by decide)
 obtain ⟨x,bb,hfind⟩:∃ x bb,findV (findT l s) = .tuple #[vMt x,.bool bb]:=⟨_,_,findV_P _⟩
 have HD:∀ w',Chg [] w w'→Calls Tryz.prog 33 #[.slice base l.length c,.string ⟨s.toArray⟩] w' (RetV (.tuple #[vMt x,.bool bb]) w'):=fun w' hc=>hfind ▸ gmFind_any l s base c w' (hR.chg hc) (by omega)
 have HE:∀ w',Chg [] w w'→Calls Tryz.prog 34 #[.slice base l.length c,.string ⟨s.toArray⟩] w' (RetV (.tuple #[vMt x,.bool bb]) w'):=fun w' hc=>hfind ▸ gnFind_any l s base c w' (hR.chg hc) (by omega)
 refine wp_flat gtC ?_
 refine wp_part 7 ?_
 refine vm_fragA (X:=⟨w,[]⟩) kr [] gtN ((flat gtC).take 7) (ne_nil kr) (fun r=>[(0,(.slice base l.length c,0)),(1,(vMt m,0)),(2,(.string ⟨(s).toArray⟩,0))]) (fun r=>[]) 0 (fun _=>(0,0)) (hS) (memOk0 w _) (fun r hr=>⟨rfl,rfl⟩) (keysLt_all kr) [.f,.f,.f,.f,.f,.f,(.p _ false g1),(.p _ false g1),(.p _ false g1),(.p _ false g1),(.p _ false g2)] [cW HAW,cW HF,cW HD,cW HE] (VEx.n) (fun r=>[(0,(.slice base l.length c,0)),(8,(.bool bb,0)),(10,(.bool bb,0)),(4,(.pointer (some ⟨(r 0).1,0,none⟩),1)),(7,(.pointer (some ⟨(r 24).1,0,none⟩),25)),(9,(.pointer (some ⟨(r 33).1,0,none⟩),34))]) [] (fun r=>[(0,(23,(cellsM m).toArray)),(24,(23,(cellsM x).toArray)),(33,(23,(cellsM x).toArray))]) (fun r g=>by kernel_rfl) (fun r g=>by kernel_rfl) ?_
 intro r a1 w1 hr hS1 hK1 hM1
 obtain ⟨p4,hp4⟩:∃ p,p=(r 0).1:=⟨_,rfl⟩
 have hPp4:MAt w1 p4 0 m:=by rw [hp4];exact mat_at (hM1.has 0 _ rfl).1
 obtain ⟨p7,hp7⟩:∃ p,p=(r 24).1:=⟨_,rfl⟩
 have hPp7:MAt w1 p7 0 x:=by rw [hp7];exact mat_at (hM1.has 24 _ rfl).1
 obtain ⟨p9,hp9⟩:∃ p,p=(r 33).1:=⟨_,rfl⟩
 have hPp9:MAt w1 p9 0 x:=by rw [hp9];exact mat_at (hM1.has 33 _ rfl).1
 have hS1:St gtN [(0,(.slice base l.length c,0)),(8,(.bool bb,0)),(10,(.bool bb,0)),(4,(.pointer (some ⟨p4,0,none⟩),0)),(7,(.pointer (some ⟨p7,0,none⟩),0)),(9,(.pointer (some ⟨p9,0,none⟩),0))] a1:=by rw [hp4,hp7,hp9];exact hS1.re' (by simp)
 have hb:Below w.heap.size w w1:=hM1.below.bl0
 have hR:=hR.chg hM1.below
 clear hM1 hr hK1 HAW HF HD HE hS hp4 hp7 hp9
 obtain ⟨P,e,hput⟩:∃ P e,putT l m=(P,e):=⟨_,_,rfl⟩
 refine then_n ?_
 rw [show (flat gtC).drop 7 = [(flat gtC).getD 7 .skip,(flat gtC).getD 8 .skip,(flat gtC).getD 9 .skip,.ret] from by kernel_rfl]
 show ((flat gtC).getD 7 .skip).wp Tryz.prog _ a1 w1
 refine wp_rg 7 gt7 kr ?_
 refine ops_win gt7 kr 0 2 (by omega) nle ?_
 refine vm_opsA (X:=⟨w1,[]⟩) [(7,1)] gtN 7 (opsW gt7 0 2) (fun r=>[(0,(.slice base l.length c,0)),(8,(.bool bb,0)),(10,(.bool bb,0)),(4,(.pointer (some ⟨p4,0,none⟩),0)),(7,(.pointer (some ⟨p7,0,none⟩),0)),(9,(.pointer (some ⟨p9,0,none⟩),0))]) (fun r=>[]) 0 (fun _=>(0,0)) (hS1) (memOk0 w1 _) (fun r hr=>⟨rfl,rfl⟩) (keysLt_all kr) [] [lV (Instr.loadAt 23 (.pointer (some ⟨p4,0,none⟩))) (vMt m) (fun w hC=>ldM (hPp4.chg hC))] (fun r=>[(0,(.slice base l.length c,0)),(8,(.bool bb,0)),(10,(.bool bb,0)),(4,(.pointer (some ⟨p4,0,none⟩),0)),(7,(.pointer (some ⟨p7,0,none⟩),0)),(9,(.pointer (some ⟨p9,0,none⟩),0)),(44,(.slice base l.length c,0)),(45,(vMt m,0))]) [] (fun r=>[]) (fun r g=>by kernel_rfl) (fun r g=>by kernel_rfl) ?_
 intro r a1x w1x hr hSx hKx hMx
 refine then_n ?_
 have hcx:Chg [] w1 w1x:=hMx.below
 have eA:=eval_St hSx 44 (.slice base l.length c) 0 (by simp)
 have eB:=eval_St hSx 45 (vMt m) 0 (by simp)
 refine ops_one gt7 kr 2 nle (f:=35) (args:=#[.slice base l.length c,vMt m]) (exec_call (xs:=#[.tmp 44,.tmp 45]) kr rfl (by
  rw [← eA,← eB]
  simp)) kr kr (by have:=gmPut_any l m base c w1x (hR.chg hcx) (by omega) hl3 hml;rw [hput] at this;exact this) (by rintro e w' ⟨sv',rfl,-⟩;exact ⟨_,rfl⟩) ?_
 rintro v w1y ⟨sv,ev,hOy,hby⟩
 cases ev
 obtain ⟨bP,cP,rfl,hRP⟩:=hOy.rds
 rw [show (opAt gt7 2).dst=some 46 from by kernel_rfl]
 have hSy:=hSx.putR 46 (.tuple #[.slice bP P.length cP,.int .i64 e]) nle kr
 generalize a1x.put (some 46) _=a1y at *
 refine ops_win gt7 kr 3 gt7.length nle (Nat.le_refl _) ?_
 refine vm_opsA (X:=⟨w1y,[]⟩) [] gtN 7 (opsW gt7 3 gt7.length) (fun r=>[(0,(.slice base l.length c,0)),(8,(.bool bb,0)),(10,(.bool bb,0)),(4,(.pointer (some ⟨p4,0,none⟩),0)),(7,(.pointer (some ⟨p7,0,none⟩),0)),(9,(.pointer (some ⟨p9,0,none⟩),0)),(46,(.tuple #[.slice bP P.length cP,.int .i64 e],0))]) (fun r=>[]) 0 (fun _=>(0,0)) ((hSy.sub (l':=[(0,(.slice base l.length c,0)),(8,(.bool bb,0)),(10,(.bool bb,0)),(4,(.pointer (some ⟨p4,0,none⟩),0)),(7,(.pointer (some ⟨p7,0,none⟩),0)),(9,(.pointer (some ⟨p9,0,none⟩),0)),(46,(.tuple #[.slice bP P.length cP,.int .i64 e],0))]) (by simp))) (memOk0 w1y _) (fun r hr=>⟨rfl,rfl⟩) (keysLt_all kr) [] [] (fun r=>[(0,(.slice base l.length c,0)),(8,(.bool bb,0)),(10,(.bool bb,0)),(4,(.pointer (some ⟨p4,0,none⟩),0)),(7,(.pointer (some ⟨p7,0,none⟩),0)),(9,(.pointer (some ⟨p9,0,none⟩),0)),(11,(.slice bP P.length cP,0)),(12,(.int .i64 (e),0))]) [] (fun r=>[]) (fun r g=>by kernel_rfl) (fun r g=>by kernel_rfl) ?_
 intro r a2 w2 hr hS2 hKz hMz
 refine then_n (ops_fin gt7 (then_n ?_))
 have hcz:Chg [] w1y w2:=hMz.below
 have hbw2:Below w1.heap.size w1 w2:=hcx.bl0.trans ((hby.trans (hcz.bl0.mono hby.size)).mono hcx.size)
 have hRP:=hRP.chg hcz
 have hR:=hR.bl hbw2
 have hPp4:=hPp4.bl hbw2
 have hPp7:=hPp7.bl hbw2
 have hPp9:=hPp9.bl hbw2
 have hb:=hb.trans (hbw2.mono hb.size)
 clear hMx hMz hr hKx hKz hSx hSy eA eB hcx hcz hby hOy
 show ((flat gtC).getD 8 .skip).wp Tryz.prog _ a2 w2
 have hRP0:=hRP
 clear hRP
 refine wp_rg 8 gt8 kr ?_
 refine ops_win gt8 kr 0 2 (by omega) nle ?_
 refine vm_opsA (X:=⟨w2,[]⟩) [(8,1)] gtN 8 (opsW gt8 0 2) (fun r=>[(0,(.slice base l.length c,0)),(8,(.bool bb,0)),(10,(.bool bb,0)),(4,(.pointer (some ⟨p4,0,none⟩),0)),(7,(.pointer (some ⟨p7,0,none⟩),0)),(9,(.pointer (some ⟨p9,0,none⟩),0)),(11,(.slice bP P.length cP,0)),(12,(.int .i64 e,0))]) (fun r=>[]) 0 (fun _=>(0,0)) (hS2) (memOk0 w2 _) (fun r hr=>⟨rfl,rfl⟩) (keysLt_all kr) [] [lV (Instr.loadAt 23 (.pointer (some ⟨p4,0,none⟩))) (vMt m) (fun w hC=>ldM (hPp4.chg hC))] (fun r=>[(0,(.slice base l.length c,0)),(8,(.bool bb,0)),(10,(.bool bb,0)),(4,(.pointer (some ⟨p4,0,none⟩),0)),(7,(.pointer (some ⟨p7,0,none⟩),0)),(9,(.pointer (some ⟨p9,0,none⟩),0)),(11,(.slice bP P.length cP,0)),(12,(.int .i64 e,0)),(50,(.slice base l.length c,0)),(51,(vMt m,0))]) [] (fun r=>[]) (fun r g=>by kernel_rfl) (fun r g=>by kernel_rfl) ?_
 intro r a2x w2x hr hSx hKx hMx
 refine then_n ?_
 have hcx:Chg [] w2 w2x:=hMx.below
 have eA:=eval_St hSx 50 (.slice base l.length c) 0 (by simp)
 have eB:=eval_St hSx 51 (vMt m) 0 (by simp)
 refine ops_one gt8 kr 2 nle (f:=36) (args:=#[.slice base l.length c,vMt m]) (exec_call (xs:=#[.tmp 50,.tmp 51]) kr rfl (by
  rw [← eA,← eB]
  simp)) kr kr (by have:=gnPut_any l m base c w2x (hR.chg hcx) (by omega) hl3 hml;rw [hput] at this;exact this) (by rintro e w' ⟨sv',rfl,-⟩;exact ⟨_,rfl⟩) ?_
 rintro v w2y ⟨sv,ev,hOy,hby⟩
 cases ev
 obtain ⟨bQ,cQ,rfl,hRP⟩:=hOy.rds
 rw [show (opAt gt8 2).dst=some 52 from by kernel_rfl]
 have hSy:=hSx.putR 52 (.tuple #[.slice bQ P.length cQ,.int .i64 e]) nle kr
 generalize a2x.put (some 52) _=a2y at *
 refine ops_win gt8 kr 3 gt8.length nle (Nat.le_refl _) ?_
 refine vm_opsA (X:=⟨w2y,[]⟩) [] gtN 8 (opsW gt8 3 gt8.length) (fun r=>[(0,(.slice base l.length c,0)),(8,(.bool bb,0)),(10,(.bool bb,0)),(4,(.pointer (some ⟨p4,0,none⟩),0)),(7,(.pointer (some ⟨p7,0,none⟩),0)),(9,(.pointer (some ⟨p9,0,none⟩),0)),(11,(.slice bP P.length cP,0)),(12,(.int .i64 e,0)),(52,(.tuple #[.slice bQ P.length cQ,.int .i64 e],0))]) (fun r=>[]) 0 (fun _=>(0,0)) ((hSy.sub (l':=[(0,(.slice base l.length c,0)),(8,(.bool bb,0)),(10,(.bool bb,0)),(4,(.pointer (some ⟨p4,0,none⟩),0)),(7,(.pointer (some ⟨p7,0,none⟩),0)),(9,(.pointer (some ⟨p9,0,none⟩),0)),(11,(.slice bP P.length cP,0)),(12,(.int .i64 e,0)),(52,(.tuple #[.slice bQ P.length cQ,.int .i64 e],0))]) (by simp))) (memOk0 w2y _) (fun r hr=>⟨rfl,rfl⟩) (keysLt_all kr) [] [] (fun r=>[(0,(.slice base l.length c,0)),(8,(.bool bb,0)),(10,(.bool bb,0)),(4,(.pointer (some ⟨p4,0,none⟩),0)),(7,(.pointer (some ⟨p7,0,none⟩),0)),(9,(.pointer (some ⟨p9,0,none⟩),0)),(11,(.slice bP P.length cP,0)),(12,(.int .i64 e,0)),(13,(.slice bQ P.length cQ,0)),(14,(.int .i64 (e),0))]) [] (fun r=>[]) (fun r g=>by kernel_rfl) (fun r g=>by kernel_rfl) ?_
 intro r a3 w3 hr hS3 hKz hMz
 refine then_n (ops_fin gt8 (then_n ?_))
 have hcz:Chg [] w2y w3:=hMz.below
 have hbw3:Below w2.heap.size w2 w3:=hcx.bl0.trans ((hby.trans (hcz.bl0.mono hby.size)).mono hcx.size)
 have hRQ:=hRP.chg hcz
 have hR:=hR.bl hbw3
 have hPp4:=hPp4.bl hbw3
 have hPp7:=hPp7.bl hbw3
 have hPp9:=hPp9.bl hbw3
 have hRP0:=hRP0.bl hbw3
 have hb:=hb.trans (hbw3.mono hb.size)
 clear hMx hMz hr hKx hKz hSx hSy eA eB hcx hcz hby hOy
 have hpl:=put_len hput
 have HV:∀ w',Chg [] w3 w'→Calls Tryz.prog 37 #[.slice base l.length c] w' (RetV (.bool (validT l)) w'):=fun w' hc=>gmValid_any l base c w' (hR.chg hc) (by omega) hl3
 have HW:∀ w',Chg [] w3 w'→Calls Tryz.prog 38 #[.slice base l.length c] w' (RetV (.bool (validT l)) w'):=fun w' hc=>gnValid_any l base c w' (hR.chg hc) (by omega) hl3
 have HSm:∀ w',Chg [] w3 w'→Calls Tryz.prog 24 #[.slice bP P.length cP,.slice bQ P.length cQ] w' (RetV (.bool true) w'):=fun w' hc=>by
  have:=gnSame_any P P bP bQ cP cQ w' (hRP0.chg hc) (hRQ.chg hc) (by omega)
  rwa [decide_eq_true rfl] at this
 generalize validT l=vl at *
 have q1:(vl == vl)=true:=by simp
 have q2:(bb == bb)=true:=by simp
 have q3:((e:Int) == e)=true:=by simp
 show wpL Tryz.prog [(flat gtC).getD 9 .skip,.ret] _ a3 w3
 refine vm_fragA (X:=⟨w3,[]⟩) kr [(9,6),(9,7),(9,8),(9,23)] gtN [(flat gtC).getD 9 .skip,.ret] (ne_nil kr) (fun r=>[(0,(.slice base l.length c,0)),(8,(.bool bb,0)),(10,(.bool bb,0)),(4,(.pointer (some ⟨p4,0,none⟩),0)),(7,(.pointer (some ⟨p7,0,none⟩),0)),(9,(.pointer (some ⟨p9,0,none⟩),0)),(11,(.slice bP P.length cP,0)),(12,(.int .i64 e,0)),(13,(.slice bQ P.length cQ,0)),(14,(.int .i64 e,0))]) (fun r=>[]) 0 (fun _=>(0,0)) (hS3) (memOk0 w3 _) (fun r hr=>⟨rfl,rfl⟩) (keysLt_all kr) [(.p _ true q1),(.p _ true q1),(.p _ true q1),(.p _ true q1),.t,.t,.t,.t,(.p _ true q2),(.p _ true q2),(.p _ true q2),(.p _ true q2),.t,.t,.t,.t] [cW HV,cW HW,lV (Instr.loadAt 23 (.pointer (some ⟨p7,0,none⟩))) (vMt x) (fun w hC=>ldM (hPp7.chg hC)),lV (Instr.loadAt 23 (.pointer (some ⟨p9,0,none⟩))) (vMt x) (fun w hC=>ldM (hPp9.chg hC)),lV _ (.bool true) (fun w hC=>eqM_same (x) (.tmp 61) (.tmp 62) w),cW HSm,lP (.bool ((e:Int) == e)) (.bool true) (congrArg Value.bool q3)] (VEx.r) (fun r=>[(6,(.bool true,0))]) [] (fun r=>[]) (fun r g=>by kernel_rfl) (fun r g=>by kernel_rfl) ?_
 intro r a4 w4 hr hS4 hK4 hM4
 exact vm_out (fn:=Tryz.f8) hS4 (.bool true) (fun g=>by kernel_rfl) ⟨rfl,hb.trans (hM4.below.bl0.mono hb.size)⟩
end Go.Proofs.YtlhddcingeneaaaGreatDoor
