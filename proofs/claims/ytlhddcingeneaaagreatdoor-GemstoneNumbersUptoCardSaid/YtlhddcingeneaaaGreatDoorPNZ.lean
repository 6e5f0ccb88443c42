/- Names and materials: validity (reference). -/
import Derived.Test.YtlhddcingeneaaaGreatDoorPNX
namespace Go.Proofs.YtlhddcingeneaaaGreatDoor
open Go Go.RowKit
set_option maxRecDepth 100000
set_option linter.unusedVariables false
set_option linter.unusedSimpArgs false
theorem lyletter_any (c:Nat) (w:World):Calls Tryz.prog 214 #[.int .u8 (c:Int)] w (RetV (.bool (isL c)) w):=by
 cases q0:(decide ((97:Int)≤(c:Int))) with
 | true =>
  cases q1:(decide ((c:Int)≤(122:Int))) with
  | true =>
   rw [show (isL c)=true from by simp only [isL,q0,q1];try rfl]
   exact vm_pure kr Tryz.func214 rfl [.int .u8 (c:Int)] nle [] [dT q0,dT q0,dT q0,dT q1,dT q1,dT q1,.u,.u,dT q1,dT q1] []
  | false =>
   cases q2:(decide ((65:Int)≤(c:Int))) with
   | true =>
    rw [show (isL c)=decide ((c:Int)≤(90:Int)) from by simp only [isL,q0,q1,q2];try rfl]
    exact vm_pure kr Tryz.func214 rfl [.int .u8 (c:Int)] nle [] [dT q0,dT q0,dT q0,dF q1,dF q1,dF q1,dT q2,dT q2,dF q1,dT q2,dF q1] []
   | false =>
    rw [show (isL c)=false from by simp only [isL,q0,q1,q2];try rfl]
    exact vm_pure kr Tryz.func214 rfl [.int .u8 (c:Int)] nle [] [dT q0,dT q0,dT q0,dF q1,dF q1,dF q1,dF q2,dF q2,dF q1,dF q2,dF q1] []
 | false =>
  cases q1:(decide ((65:Int)≤(c:Int))) with
  | true =>
   rw [show (isL c)=decide ((c:Int)≤(90:Int)) from by simp only [isL,q0,q1];try rfl]
   exact vm_pure kr Tryz.func214 rfl [.int .u8 (c:Int)] nle [] [dF q0,dF q0,dF q0,.f,.f,.f,dT q1,dT q1,.f,dT q1,.f] []
  | false =>
   rw [show (isL c)=false from by simp only [isL,q0,q1];try rfl]
   exact vm_pure kr Tryz.func214 rfl [.int .u8 (c:Int)] nle [] [dF q0,dF q0,dF q0,.f,.f,.f,dF q1,dF q1,.f,dF q1,.f] []
theorem lydigit_any (c:Nat) (w:World):Calls Tryz.prog 215 #[.int .u8 (c:Int)] w (RetV (.bool (isG c)) w):=by
 cases q0:(decide ((48:Int)≤(c:Int))) with
 | true =>
  rw [show (isG c)=decide ((c:Int)≤(57:Int)) from by simp only [isG,q0];try rfl]
  exact vm_pure kr Tryz.func215 rfl [.int .u8 (c:Int)] nle [] [dT q0,dT q0,dT q0] []
 | false =>
  rw [show (isG c)=false from by simp only [isG,q0];try rfl]
  exact vm_pure kr Tryz.func215 rfl [.int .u8 (c:Int)] nle [] [dF q0,dF q0,dF q0] []
def isQ (l:List UInt8):Bool:=((ByteArray.mk #[100,101,115,105,103,110]).toList == (ByteArray.mk l.toArray).toList) || ((ByteArray.mk #[111,114,100,101,114]).toList == (ByteArray.mk l.toArray).toList) || ((ByteArray.mk #[109,105,114,114,111,114]).toList == (ByteArray.mk l.toArray).toList) || ((ByteArray.mk #[116,105,101,114]).toList == (ByteArray.mk l.toArray).toList) || ((ByteArray.mk #[97,110,103,108,101]).toList == (ByteArray.mk l.toArray).toList) || ((ByteArray.mk #[97,116]).toList == (ByteArray.mk l.toArray).toList) || ((ByteArray.mk #[100,101,112,116,104]).toList == (ByteArray.mk l.toArray).toList) || ((ByteArray.mk #[109,101,101,116]).toList == (ByteArray.mk l.toArray).toList) || ((ByteArray.mk #[101,100,103,101]).toList == (ByteArray.mk l.toArray).toList) || ((ByteArray.mk #[104,101,105,103,104,116]).toList == (ByteArray.mk l.toArray).toList) || ((ByteArray.mk #[116,104,114,111,117,103,104]).toList == (ByteArray.mk l.toArray).toList)
theorem isQ_eq (l:List UInt8):isQ l=isR l:=by
 have e:∀ a b:List UInt8,(a == b)=(b == a):=fun a b=>by rw [Bool.eq_iff_iff,beq_iff_eq,beq_iff_eq];exact eq_comm
 unfold isQ isR
 simp only [e (ByteArray.mk l.toArray).toList]
theorem lyReserved_any (l:List UInt8) (w:World):Calls Tryz.prog 167 #[.string ⟨l.toArray⟩] w (RetV (.bool (isR l)) w):=by
 rw [← isQ_eq]
 cases q0:(((ByteArray.mk #[100,101,115,105,103,110]).toList == (ByteArray.mk (l).toArray).toList)) with
 | true =>
  rw [show (isQ l)=true from by simp only [isQ,q0];try rfl]
  exact vm_pure kr Tryz.func167 rfl [.string ⟨l.toArray⟩] nle [] [.t,dT q0] []
 | false =>
  cases q1:(((ByteArray.mk #[111,114,100,101,114]).toList == (ByteArray.mk (l).toArray).toList)) with
  | true =>
   rw [show (isQ l)=true from by simp only [isQ,q0,q1];try rfl]
   exact vm_pure kr Tryz.func167 rfl [.string ⟨l.toArray⟩] nle [] [.t,dF q0,.t,dT q1] []
  | false =>
   cases q2:(((ByteArray.mk #[109,105,114,114,111,114]).toList == (ByteArray.mk (l).toArray).toList)) with
   | true =>
    rw [show (isQ l)=true from by simp only [isQ,q0,q1,q2];try rfl]
    exact vm_pure kr Tryz.func167 rfl [.string ⟨l.toArray⟩] nle [] [.t,dF q0,.t,dF q1,.t,dT q2] []
   | false =>
    cases q3:(((ByteArray.mk #[116,105,101,114]).toList == (ByteArray.mk (l).toArray).toList)) with
    | true =>
     rw [show (isQ l)=true from by simp only [isQ,q0,q1,q2,q3];try rfl]
     exact vm_pure kr Tryz.func167 rfl [.string ⟨l.toArray⟩] nle [] [.t,dF q0,.t,dF q1,.t,dF q2,.t,dT q3] []
    | false =>
     cases q4:(((ByteArray.mk #[97,110,103,108,101]).toList == (ByteArray.mk (l).toArray).toList)) with
     | true =>
      rw [show (isQ l)=true from by simp only [isQ,q0,q1,q2,q3,q4];try rfl]
      exact vm_pure kr Tryz.func167 rfl [.string ⟨l.toArray⟩] nle [] [.t,dF q0,.t,dF q1,.t,dF q2,.t,dF q3,.t,dT q4] []
     | false =>
      cases q5:(((ByteArray.mk #[97,116]).toList == (ByteArray.mk (l).toArray).toList)) with
      | true =>
       rw [show (isQ l)=true from by simp only [isQ,q0,q1,q2,q3,q4,q5];try rfl]
       exact vm_pure kr Tryz.func167 rfl [.string ⟨l.toArray⟩] nle [] [.t,dF q0,.t,dF q1,.t,dF q2,.t,dF q3,.t,dF q4,.t,dT q5] []
      | false =>
       cases q6:(((ByteArray.mk #[100,101,112,116,104]).toList == (ByteArray.mk (l).toArray).toList)) with
       | true =>
        rw [show (isQ l)=true from by simp only [isQ,q0,q1,q2,q3,q4,q5,q6];try rfl]
        exact vm_pure kr Tryz.func167 rfl [.string ⟨l.toArray⟩] nle [] [.t,dF q0,.t,dF q1,.t,dF q2,.t,dF q3,.t,dF q4,.t,dF q5,.t,dT q6] []
       | false =>
        cases q7:(((ByteArray.mk #[109,101,101,116]).toList == (ByteArray.mk (l).toArray).toList)) with
        | true =>
         rw [show (isQ l)=true from by simp only [isQ,q0,q1,q2,q3,q4,q5,q6,q7];try rfl]
         exact vm_pure kr Tryz.func167 rfl [.string ⟨l.toArray⟩] nle [] [.t,dF q0,.t,dF q1,.t,dF q2,.t,dF q3,.t,dF q4,.t,dF q5,.t,dF q6,.t,dT q7] []
        | false =>
         cases q8:(((ByteArray.mk #[101,100,103,101]).toList == (ByteArray.mk (l).toArray).toList)) with
         | true =>
          rw [show (isQ l)=true from by simp only [isQ,q0,q1,q2,q3,q4,q5,q6,q7,q8];try rfl]
          exact vm_pure kr Tryz.func167 rfl [.string ⟨l.toArray⟩] nle [] [.t,dF q0,.t,dF q1,.t,dF q2,.t,dF q3,.t,dF q4,.t,dF q5,.t,dF q6,.t,dF q7,.t,dT q8] []
         | false =>
          cases q9:(((ByteArray.mk #[104,101,105,103,104,116]).toList == (ByteArray.mk (l).toArray).toList)) with
          | true =>
           rw [show (isQ l)=true from by simp only [isQ,q0,q1,q2,q3,q4,q5,q6,q7,q8,q9];try rfl]
           exact vm_pure kr Tryz.func167 rfl [.string ⟨l.toArray⟩] nle [] [.t,dF q0,.t,dF q1,.t,dF q2,.t,dF q3,.t,dF q4,.t,dF q5,.t,dF q6,.t,dF q7,.t,dF q8,.t,dT q9] []
          | false =>
           cases q10:(((ByteArray.mk #[116,104,114,111,117,103,104]).toList == (ByteArray.mk (l).toArray).toList)) with
           | true =>
            rw [show (isQ l)=true from by simp only [isQ,q0,q1,q2,q3,q4,q5,q6,q7,q8,q9,q10];try rfl]
            exact vm_pure kr Tryz.func167 rfl [.string ⟨l.toArray⟩] nle [] [.t,dF q0,.t,dF q1,.t,dF q2,.t,dF q3,.t,dF q4,.t,dF q5,.t,dF q6,.t,dF q7,.t,dF q8,.t,dF q9,.t,dT q10] []
           | false =>
            rw [show (isQ l)=false from by simp only [isQ,q0,q1,q2,q3,q4,q5,q6,q7,q8,q9,q10];try rfl]
            exact vm_pure kr Tryz.func167 rfl [.string ⟨l.toArray⟩] nle [] [.t,dF q0,.t,dF q1,.t,dF q2,.t,dF q3,.t,dF q4,.t,dF q5,.t,dF q6,.t,dF q7,.t,dF q8,.t,dF q9,.t,dF q10,.f] []
def wGo:Bool→List UInt8→Bool
 | _,[]=>true
 | f,c :: r=>(isL c.toNat || (!f && (isG c.toNat || ((c.toNat:Int) == (45:Int)) || ((c.toNat:Int) == (95:Int))))) && wGo false r
theorem wGo_all:∀ l:List UInt8,wGo false l=l.all fun c=>isW c.toNat
 | []=>rfl
 | c :: r=>by
  rw [wGo,wGo_all r,List.all_cons]
  unfold isW
  simp [Bool.or_assoc]
theorem tw_all {α:Type} (p:α→Bool):∀ l:List α,((l.takeWhile p).length == l.length)=l.all p
 | []=>rfl
 | a :: l=>by
  rw [List.takeWhile_cons,List.all_cons]
  cases h:p a with
  | true =>
   have ih:=tw_all p l
   rw [if_pos rfl,List.length_cons,List.length_cons,Bool.true_and,← ih,Bool.eq_iff_iff,beq_iff_eq,beq_iff_eq];omega
  | false=>rw [if_neg (by decide),Bool.false_and];rfl
theorem wGo_word (c:UInt8) (r:List UInt8):wGo true (c :: r)=(wordN (c :: r) == (c :: r).length):=by
 rw [wGo,wGo_all,wordN_cons]
 cases h:isL c.toNat with
 | false=>simp
 | true =>
  rw [if_pos rfl,tw_all,List.all_cons]
  have:isW c.toNat=true:=by unfold isW;rw [h];rfl
  rw [this];rfl
noncomputable def lwN:Nat:=Tryz.f166.ntmps
noncomputable def lwC:Code:=Tryz.f166.body.getD .skip
noncomputable def lw0:Code:=cB 0 lwC
def wordB (l:List UInt8):Bool:=wGo true l && decide (0<l.length)
theorem neq_b (c k:Int):(c != k) = !(c == k):=rfl
theorem lyword_any (l:List UInt8) (w:World) (hl:l.length≤1000000):Calls Tryz.prog 166 #[.string ⟨l.toArray⟩] w (RetV (.bool (wordB l)) w):=by
 have hsz:((ByteArray.mk l.toArray).size:Int)=(l.length:Int):=by rw [str_size]
 refine vm_start [.string ⟨l.toArray⟩] (fn:=Tryz.f166) (c:=lwC) kr kr nle ?_
 intro a hS
 have hS:St lwN [(0,(.string ⟨l.toArray⟩,0))] a:=hS
 refine wp_cut 0 kr ?_
 refine vm_piece (E0:=[(0,(.string ⟨(l).toArray⟩,0))]) kr [] lwN (cPre 0 lwC) kr hS [] [] (VEx.n) [(0,(.string ⟨(l).toArray⟩,0)),(3,(.int .i64 (((0:Nat):Int)),0))] [] (hQ:=?_)
 intro a1 w1 hS1 hK1 hM1
 refine wp_for 0 kr kr (fun n a' w'=>∃ j,l.length - j=n∧j≤l.length∧wGo true l=wGo (decide (j=0)) (l.drop j)∧St lwN [(0,(.string ⟨l.toArray⟩,0)),(3,(.int .i64 (j:Int),0))] a'∧Chg [] w w') (l.length - 0) ⟨0,rfl,by omega,rfl,hS1,hM1⟩ ?_
 clear hS1 hM1 hS hK1
 rintro n a2 w2 ⟨j,rfl,hj,hw,hS2,hM2⟩
 refine wpL_one ?_
 rcases Nat.lt_or_ge j l.length with hjl | hjl
 ·have h1:decide ((j:Int)<((ByteArray.mk l.toArray).size:Int))=true:=decide_eq_true (by omega)
  have hB:=byte_l l j hjl
  rw [List.drop_eq_getElem_cons hjl,wGo] at hw
  have L:=fun w=>lyletter_any (l[j]'hjl).toNat w
  have D:=fun w=>lydigit_any (l[j]'hjl).toNat w
  generalize (l[j]'hjl).toNat=c at *
  have v1:IntKind.i64.wrap ((j:Int)+1)=((j+1:Nat):Int):=by rw [wr64 (by omega) (by omega)];omega
  have hz:decide (j+1=0)=false:=decide_eq_false (by omega)
  cases j with
  | zero =>
   simp only [decide_true,Bool.not_true,Bool.false_and,Bool.or_false] at hw
   cases q0:(isL c) with
   | true =>
    refine vm_piece (E0:=[(0,(.string ⟨(l).toArray⟩,0)),(3,(.int .i64 (((0:Nat):Int)),0))]) kr [(4,2),(3,1)] lwN [cI (cI lw0)] kr hS2 [(.p _ true h1),dF (nT q0),dF (nT q0),dF (nT q0),.u,.u,.u,.u,.u,.u,.u,.u,.u,.u,.u,.u,.u,.u,.u,.u,.u,dF (nT q0),dF (nT q0),.f] [lV (Instr.index 9 (.string ⟨(l).toArray⟩) (.int .i64 (((0:Nat):Int)))) (.int .u8 (c:Int)) (fun w hC=>hB w),cV (L),lE .i64 (((((0:Nat):Int)):Int)+((1):Int)) (((0+1:Nat):Int)) (v1)] (VEx.n) [(0,(.string ⟨(l).toArray⟩,0)),(3,(.int .i64 (((0+1:Nat):Int)),0))] [] (hQ:=?_)
    intro a3 w3 hS3 hK3 hM3
    exact ⟨l.length - (0+1),by omega,0+1,rfl,by omega,by rw [hw,hz];simp [q0],hS3,hM2.trans hM3⟩
   | false =>
    refine vm_piece (E0:=[(0,(.string ⟨(l).toArray⟩,0)),(3,(.int .i64 (((0:Nat):Int)),0))]) kr [(4,2)] lwN [cI (cI lw0)] kr hS2 [(.p _ true h1),dT (nF q0),dT (nF q0),dT (nF q0),.t,.t,.t,.t,.t,.t,.u,.u,.u,.u,.t,.t,.u,.u,.u,.u,.t,dT (nF q0),.t,dT (nF q0),.t] [lV (Instr.index 9 (.string ⟨(l).toArray⟩) (.int .i64 (((0:Nat):Int)))) (.int .u8 (c:Int)) (fun w hC=>hB w),cV (L)] (VEx.r) [(2,(.bool false,0))] [] (hQ:=?_)
    intro a3 w3 hS3 hK3 hM3
    exact ret_r (vm_out (fn:=Tryz.f166) hS3 (.bool false) (fun g=>by kernel_rfl) ⟨by rw [show wordB l=false from by unfold wordB;rw [hw];simp [q0]],(hM2.trans hM3).bl0⟩)
  | succ j =>
   rw [show decide (j+1=0)=false from decide_eq_false (by omega)] at hw
   have h0:(((j+1:Nat):Int) == (0:Int))=false:=by rw [beq_eq_false_iff_ne];omega
   cases q0:(isL c) with
   | true =>
    refine vm_piece (E0:=[(0,(.string ⟨(l).toArray⟩,0)),(3,(.int .i64 (((j+1:Nat):Int)),0))]) kr [(4,2),(3,1)] lwN [cI (cI lw0)] kr hS2 [(.p _ true h1),dF (nT q0),dF (nT q0),dF (nT q0),.u,.u,.u,.u,.u,.u,.u,.u,.u,.u,.u,.u,.u,.u,.u,.u,.u,dF (nT q0),dF (nT q0),.f] [lV (Instr.index 9 (.string ⟨(l).toArray⟩) (.int .i64 (((j+1:Nat):Int)))) (.int .u8 (c:Int)) (fun w hC=>hB w),cV (L),lE .i64 (((((j+1:Nat):Int)):Int)+((1):Int)) (((j+1+1:Nat):Int)) (v1)] (VEx.n) [(0,(.string ⟨(l).toArray⟩,0)),(3,(.int .i64 (((j+1+1:Nat):Int)),0))] [] (hQ:=?_)
    intro a3 w3 hS3 hK3 hM3
    exact ⟨l.length - (j+1+1),by omega,j+1+1,rfl,by omega,by rw [hw,show decide (j+1+1=0)=false from decide_eq_false (by omega)];(try simp only [neq_b] at *);simp_all,hS3,hM2.trans hM3⟩
   | false =>
    cases q1:(isG c) with
    | true =>
     refine vm_piece (E0:=[(0,(.string ⟨(l).toArray⟩,0)),(3,(.int .i64 (((j+1:Nat):Int)),0))]) kr [(4,2),(4,11),(3,1)] lwN [cI (cI lw0)] kr hS2 [(.p _ true h1),dT (nF q0),dT (nF q0),dT (nF q0),(.p _ false h0),(.p _ false h0),(.p _ false h0),(.p _ false h0),(.p _ false h0),(.p _ false h0),dF (nT q1),dF (nT q1),dF (nT q1),dF (nT q1),(.p _ false h0),dF (nT q1),(.p _ false h0),.f,.f,.f,.f,(.p _ false h0),.f,dT (nF q0),(.p _ false h0),dT (nF q0),.f] [lV (Instr.index 9 (.string ⟨(l).toArray⟩) (.int .i64 (((j+1:Nat):Int)))) (.int .u8 (c:Int)) (fun w hC=>hB w),cV (L),lV (Instr.index 9 (.string ⟨(l).toArray⟩) (.int .i64 (((j+1:Nat):Int)))) (.int .u8 (c:Int)) (fun w hC=>hB w),cV (D),lE .i64 (((((j+1:Nat):Int)):Int)+((1):Int)) (((j+1+1:Nat):Int)) (v1)] (VEx.n) [(0,(.string ⟨(l).toArray⟩,0)),(3,(.int .i64 (((j+1+1:Nat):Int)),0))] [] (hQ:=?_)
     intro a3 w3 hS3 hK3 hM3
     exact ⟨l.length - (j+1+1),by omega,j+1+1,rfl,by omega,by rw [hw,show decide (j+1+1=0)=false from decide_eq_false (by omega)];(try simp only [neq_b] at *);simp_all,hS3,hM2.trans hM3⟩
    | false =>
     cases q2:(((c:Int) != (45:Int))) with
     | true =>
      cases q3:(((c:Int) != (95:Int))) with
      | true =>
       refine vm_piece (E0:=[(0,(.string ⟨(l).toArray⟩,0)),(3,(.int .i64 (((j+1:Nat):Int)),0))]) kr [(4,2),(4,11),(4,17),(4,23)] lwN [cI (cI lw0)] kr hS2 [(.p _ true h1),dT (nF q0),dT (nF q0),dT (nF q0),(.p _ false h0),(.p _ false h0),(.p _ false h0),(.p _ false h0),(.p _ false h0),(.p _ false h0),dT (nF q1),dT (nF q1),dT (nF q1),dT (nF q1),(.p _ false h0),dT (nF q1),(.p _ false h0),dT q2,dT q2,dT q2,dT q2,(.p _ false h0),dT q2,dT (nF q0),(.p _ false h0),dT (nF q0),dT q3] [lV (Instr.index 9 (.string ⟨(l).toArray⟩) (.int .i64 (((j+1:Nat):Int)))) (.int .u8 (c:Int)) (fun w hC=>hB w),cV (L),lV (Instr.index 9 (.string ⟨(l).toArray⟩) (.int .i64 (((j+1:Nat):Int)))) (.int .u8 (c:Int)) (fun w hC=>hB w),cV (D),lV (Instr.index 9 (.string ⟨(l).toArray⟩) (.int .i64 (((j+1:Nat):Int)))) (.int .u8 (c:Int)) (fun w hC=>hB w),lV (Instr.index 9 (.string ⟨(l).toArray⟩) (.int .i64 (((j+1:Nat):Int)))) (.int .u8 (c:Int)) (fun w hC=>hB w)] (VEx.r) [(2,(.bool false,0))] [] (hQ:=?_)
       intro a3 w3 hS3 hK3 hM3
       exact ret_r (vm_out (fn:=Tryz.f166) hS3 (.bool false) (fun g=>by kernel_rfl) ⟨by rw [show wordB l=false from by unfold wordB;rw [hw];(try simp only [neq_b] at *);simp_all],(hM2.trans hM3).bl0⟩)
      | false =>
       refine vm_piece (E0:=[(0,(.string ⟨(l).toArray⟩,0)),(3,(.int .i64 (((j+1:Nat):Int)),0))]) kr [(4,2),(4,11),(4,17),(4,23),(3,1)] lwN [cI (cI lw0)] kr hS2 [(.p _ true h1),dT (nF q0),dT (nF q0),dT (nF q0),(.p _ false h0),(.p _ false h0),(.p _ false h0),(.p _ false h0),(.p _ false h0),(.p _ false h0),dT (nF q1),dT (nF q1),dT (nF q1),dT (nF q1),(.p _ false h0),dT (nF q1),(.p _ false h0),dT q2,dT q2,dT q2,dT q2,(.p _ false h0),dT q2,dT (nF q0),(.p _ false h0),dT (nF q0),dF q3] [lV (Instr.index 9 (.string ⟨(l).toArray⟩) (.int .i64 (((j+1:Nat):Int)))) (.int .u8 (c:Int)) (fun w hC=>hB w),cV (L),lV (Instr.index 9 (.string ⟨(l).toArray⟩) (.int .i64 (((j+1:Nat):Int)))) (.int .u8 (c:Int)) (fun w hC=>hB w),cV (D),lV (Instr.index 9 (.string ⟨(l).toArray⟩) (.int .i64 (((j+1:Nat):Int)))) (.int .u8 (c:Int)) (fun w hC=>hB w),lV (Instr.index 9 (.string ⟨(l).toArray⟩) (.int .i64 (((j+1:Nat):Int)))) (.int .u8 (c:Int)) (fun w hC=>hB w),lE .i64 (((((j+1:Nat):Int)):Int)+((1):Int)) (((j+1+1:Nat):Int)) (v1)] (VEx.n) [(0,(.string ⟨(l).toArray⟩,0)),(3,(.int .i64 (((j+1+1:Nat):Int)),0))] [] (hQ:=?_)
       intro a3 w3 hS3 hK3 hM3
       exact ⟨l.length - (j+1+1),by omega,j+1+1,rfl,by omega,by rw [hw,show decide (j+1+1=0)=false from decide_eq_false (by omega)];(try simp only [neq_b] at *);simp_all,hS3,hM2.trans hM3⟩
     | false =>
      refine vm_piece (E0:=[(0,(.string ⟨(l).toArray⟩,0)),(3,(.int .i64 (((j+1:Nat):Int)),0))]) kr [(4,2),(4,11),(4,17),(3,1)] lwN [cI (cI lw0)] kr hS2 [(.p _ true h1),dT (nF q0),dT (nF q0),dT (nF q0),(.p _ false h0),(.p _ false h0),(.p _ false h0),(.p _ false h0),(.p _ false h0),(.p _ false h0),dT (nF q1),dT (nF q1),dT (nF q1),dT (nF q1),(.p _ false h0),dT (nF q1),(.p _ false h0),dF q2,dF q2,dF q2,dF q2,(.p _ false h0),dF q2,dT (nF q0),(.p _ false h0),dT (nF q0),.f] [lV (Instr.index 9 (.string ⟨(l).toArray⟩) (.int .i64 (((j+1:Nat):Int)))) (.int .u8 (c:Int)) (fun w hC=>hB w),cV (L),lV (Instr.index 9 (.string ⟨(l).toArray⟩) (.int .i64 (((j+1:Nat):Int)))) (.int .u8 (c:Int)) (fun w hC=>hB w),cV (D),lV (Instr.index 9 (.string ⟨(l).toArray⟩) (.int .i64 (((j+1:Nat):Int)))) (.int .u8 (c:Int)) (fun w hC=>hB w),lE .i64 (((((j+1:Nat):Int)):Int)+((1):Int)) (((j+1+1:Nat):Int)) (v1)] (VEx.n) [(0,(.string ⟨(l).toArray⟩,0)),(3,(.int .i64 (((j+1+1:Nat):Int)),0))] [] (hQ:=?_)
      intro a3 w3 hS3 hK3 hM3
      exact ⟨l.length - (j+1+1),by omega,j+1+1,rfl,by omega,by rw [hw,show decide (j+1+1=0)=false from decide_eq_false (by omega)];(try simp only [neq_b] at *);simp_all,hS3,hM2.trans hM3⟩
 ·have h1:decide ((j:Int)<((ByteArray.mk l.toArray).size:Int))=false:=decide_eq_false (by omega)
  obtain rfl:j=l.length:=by omega
  rw [List.drop_length] at hw
  have e:wordB l=decide ((0:Int)<((ByteArray.mk l.toArray).size:Int)):=by
   unfold wordB;rw [hw,wGo,Bool.true_and,decide_eq_decide];omega
  refine vm_piece (E0:=[(0,(.string ⟨(l).toArray⟩,0)),(3,(.int .i64 (((l.length:Nat):Int)),0))]) kr [] lwN [cI (cI lw0)] kr hS2 [(.p _ false h1)] [] (VEx.x 0) [(0,(.string ⟨(l).toArray⟩,0)),(3,(.int .i64 (((l.length:Nat):Int)),0))] [] (hQ:=?_)
  intro a3 w3 hS3 hK3 hM3
  refine exit_n (then_n ?_)
  refine vm_piece (E0:=[(0,(.string ⟨(l).toArray⟩,0)),(3,(.int .i64 (((l.length:Nat):Int)),0))]) kr [] lwN (cPost 0 lwC) kr hS3 [] [] (VEx.r) [(2,(.bool (decide ((0:Int)<((ByteArray.mk l.toArray).size:Int))),0))] [] (hQ:=?_)
  intro a4 w4 hS4 hK4 hM4
  exact vm_out (fn:=Tryz.f166) hS4 (.bool (decide ((0:Int)<((ByteArray.mk l.toArray).size:Int)))) (fun g=>by kernel_rfl) ⟨by rw [e],((hM2.trans hM3).trans hM4).bl0⟩
def isNy (l:List UInt8):Bool:=wordB l && decide (((ByteArray.mk (l).toArray).size:Int)≤(30:Int)) && (!isR l)
theorem isNy_eq (l:List UInt8):isNy l=isNm l:=by
 rw [isNm_eq]
 unfold isNy wordB
 rw [str_size,show decide ((l.length:Int)≤(30:Int))=decide (l.length≤30) from by rw [decide_eq_decide];omega]
 cases l with
 | nil=>rfl
 | cons c r =>
  rw [wGo_word]
  simp [Bool.and_assoc,Bool.and_comm]
theorem lyIsName_any (l:List UInt8) (w:World) (hl:l.length≤1000000):Calls Tryz.prog 116 #[.string ⟨l.toArray⟩] w (RetV (.bool (isNm l)) w):=by
 have W:=fun w=>lyword_any l w hl
 have R:=fun w=>lyReserved_any l w
 rw [← isNy_eq]
 cases q0:(wordB l) with
 | true =>
  cases q1:(decide ((((ByteArray.mk (l).toArray)).size:Int)≤(30:Int))) with
  | true =>
   rw [show (isNy l)=(!isR l) from by simp only [isNy,q0,q1];try rfl]
   exact vm_pure kr Tryz.func116 rfl [.string ⟨l.toArray⟩] nle [] [dT q0,dT q0,dT q0,dT q0,dT q1,dT q1,dT q1,dT q1] [cV (W),cV (R)]
  | false =>
   rw [show (isNy l)=false from by simp only [isNy,q0,q1];try rfl]
   exact vm_pure kr Tryz.func116 rfl [.string ⟨l.toArray⟩] nle [] [dT q0,dT q0,dT q0,dT q0,dF q1,dF q1,dF q1,dF q1] [cV (W)]
 | false =>
  rw [show (isNy l)=false from by simp only [isNy,q0];try rfl]
  exact vm_pure kr Tryz.func116 rfl [.string ⟨l.toArray⟩] nle [] [dF q0,dF q0,dF q0,dF q0,.f,.f,.f,.f] [cV (W)]
theorem gnRight_any (m:Mt) (w:World) (hl:m.nm.length≤1000000):Calls Tryz.prog 69 #[vMt m] w (RetV (.bool (rightM m)) w):=by
 have N:=fun w=>lyIsName_any m.nm w hl
 cases q0:(isNm m.nm) with
 | true =>
  cases q1:(decide ((1:Int)≤m.d)) with
  | true =>
   cases q2:(decide (m.d≤(30000:Int))) with
   | true =>
    cases q3:(decide ((1000:Int)≤m.i)) with
    | true =>
     cases q4:(decide (m.i≤(4000:Int))) with
     | true =>
      cases q5:(decide ((1:Int)≤m.h)) with
      | true =>
       rw [show (rightM m)=decide (m.h≤(100:Int)) from by simp only [rightM,q0,q1,q2,q3,q4,q5];try rfl]
       exact vm_pure kr Tryz.func69 rfl [vMt m] nle [] [dT q0,dT q0,dT q0,dT q0,dT q1,dT q1,dT q1,dT q1,dT q2,dT q2,dT q2,dT q2,dT q3,dT q3,dT q3,dT q3,dT q4,dT q4,dT q4,dT q4,dT q5,dT q5,dT q5,dT q5] [cV (N)]
      | false =>
       rw [show (rightM m)=false from by simp only [rightM,q0,q1,q2,q3,q4,q5];try rfl]
       exact vm_pure kr Tryz.func69 rfl [vMt m] nle [] [dT q0,dT q0,dT q0,dT q0,dT q1,dT q1,dT q1,dT q1,dT q2,dT q2,dT q2,dT q2,dT q3,dT q3,dT q3,dT q3,dT q4,dT q4,dT q4,dT q4,dF q5,dF q5,dF q5,dF q5] [cV (N)]
     | false =>
      rw [show (rightM m)=false from by simp only [rightM,q0,q1,q2,q3,q4];try rfl]
      exact vm_pure kr Tryz.func69 rfl [vMt m] nle [] [dT q0,dT q0,dT q0,dT q0,dT q1,dT q1,dT q1,dT q1,dT q2,dT q2,dT q2,dT q2,dT q3,dT q3,dT q3,dT q3,dF q4,dF q4,dF q4,dF q4,.f,.f,.f,.f] [cV (N)]
    | false =>
     rw [show (rightM m)=false from by simp only [rightM,q0,q1,q2,q3];try rfl]
     exact vm_pure kr Tryz.func69 rfl [vMt m] nle [] [dT q0,dT q0,dT q0,dT q0,dT q1,dT q1,dT q1,dT q1,dT q2,dT q2,dT q2,dT q2,dF q3,dF q3,dF q3,dF q3,.f,.f,.f,.f,.f,.f,.f,.f] [cV (N)]
   | false =>
    rw [show (rightM m)=false from by simp only [rightM,q0,q1,q2];try rfl]
    exact vm_pure kr Tryz.func69 rfl [vMt m] nle [] [dT q0,dT q0,dT q0,dT q0,dT q1,dT q1,dT q1,dT q1,dF q2,dF q2,dF q2,dF q2,.f,.f,.f,.f,.f,.f,.f,.f,.f,.f,.f,.f] [cV (N)]
  | false =>
   rw [show (rightM m)=false from by simp only [rightM,q0,q1];try rfl]
   exact vm_pure kr Tryz.func69 rfl [vMt m] nle [] [dT q0,dT q0,dT q0,dT q0,dF q1,dF q1,dF q1,dF q1,.f,.f,.f,.f,.f,.f,.f,.f,.f,.f,.f,.f,.f,.f,.f,.f] [cV (N)]
 | false =>
  rw [show (rightM m)=false from by simp only [rightM,q0];try rfl]
  exact vm_pure kr Tryz.func69 rfl [vMt m] nle [] [dF q0,dF q0,dF q0,dF q0,.f,.f,.f,.f,.f,.f,.f,.f,.f,.f,.f,.f,.f,.f,.f,.f,.f,.f,.f,.f] [cV (N)]
end Go.Proofs.YtlhddcingeneaaaGreatDoor
