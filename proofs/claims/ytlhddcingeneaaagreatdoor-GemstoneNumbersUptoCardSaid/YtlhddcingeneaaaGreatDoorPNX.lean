import Derived.Test.YtlhddcingeneaaaGreatDoorPNJ
import Derived.Test.YtlhddcingeneaaaGreatDoorPNE
import Derived.Test.YtlhddcingeneaaaGreatDoorPNB
import Derived.Test.YtlhddcingeneaaaGreatDoorPNShelf
import Derived.Lib.SplitLaws
/- Names: letters,digits,reserved words (program). -/
set_option linter.unusedVariables false
set_option linter.unusedSimpArgs false
set_option maxRecDepth 100000
set_option maxHeartbeats 8000000
namespace Go.Proofs.YtlhddcingeneaaaGreatDoor
open Go Go.RowKit
def isL (c:Nat):Bool:=(decide ((97:Int)≤(c:Int)) && decide ((c:Int)≤(122:Int))) || (decide ((65:Int)≤(c:Int)) && decide ((c:Int)≤(90:Int)))
def isG (c:Nat):Bool:=decide ((48:Int)≤(c:Int)) && decide ((c:Int)≤(57:Int))
def isW (c:Nat):Bool:=isL c || isG c || ((c:Int) == (45:Int)) || ((c:Int) == (95:Int))
theorem lxletter_any (c:Nat) (w:World):Calls Tryz.prog 184 #[.int .u8 (c:Int)] w (RetV (.bool (isL c)) w):=by
 cases q0:(decide ((97:Int)≤(c:Int))) with
 | true =>
  cases q1:(decide ((c:Int)≤(122:Int))) with
  | true =>
   rw [show (isL c)=true from by simp only [isL,q0,q1];try rfl]
   exact vm_pure kr Tryz.func184 rfl [.int .u8 (c:Int)] nle [] [dT q0,dT q0,dT q0,dT q1,dT q1,dT q1,.u,.u,dT q1,dT q1] []
  | false =>
   cases q2:(decide ((65:Int)≤(c:Int))) with
   | true =>
    rw [show (isL c)=decide ((c:Int)≤(90:Int)) from by simp only [isL,q0,q1,q2];try rfl]
    exact vm_pure kr Tryz.func184 rfl [.int .u8 (c:Int)] nle [] [dT q0,dT q0,dT q0,dF q1,dF q1,dF q1,dT q2,dT q2,dF q1,dT q2,dF q1] []
   | false =>
    rw [show (isL c)=false from by simp only [isL,q0,q1,q2];try rfl]
    exact vm_pure kr Tryz.func184 rfl [.int .u8 (c:Int)] nle [] [dT q0,dT q0,dT q0,dF q1,dF q1,dF q1,dF q2,dF q2,dF q1,dF q2,dF q1] []
 | false =>
  cases q1:(decide ((65:Int)≤(c:Int))) with
  | true =>
   rw [show (isL c)=decide ((c:Int)≤(90:Int)) from by simp only [isL,q0,q1];try rfl]
   exact vm_pure kr Tryz.func184 rfl [.int .u8 (c:Int)] nle [] [dF q0,dF q0,dF q0,.f,.f,.f,dT q1,dT q1,.f,dT q1,.f] []
  | false =>
   rw [show (isL c)=false from by simp only [isL,q0,q1];try rfl]
   exact vm_pure kr Tryz.func184 rfl [.int .u8 (c:Int)] nle [] [dF q0,dF q0,dF q0,.f,.f,.f,dF q1,dF q1,.f,dF q1,.f] []
theorem lxdigit_any (c:Nat) (w:World):Calls Tryz.prog 187 #[.int .u8 (c:Int)] w (RetV (.bool (isG c)) w):=by
 cases q0:(decide ((48:Int)≤(c:Int))) with
 | true =>
  rw [show (isG c)=decide ((c:Int)≤(57:Int)) from by simp only [isG,q0];try rfl]
  exact vm_pure kr Tryz.func187 rfl [.int .u8 (c:Int)] nle [] [dT q0,dT q0,dT q0] []
 | false =>
  rw [show (isG c)=false from by simp only [isG,q0];try rfl]
  exact vm_pure kr Tryz.func187 rfl [.int .u8 (c:Int)] nle [] [dF q0,dF q0,dF q0] []
theorem lxword1_any (c:Nat) (w:World):Calls Tryz.prog 186 #[.int .u8 (c:Int)] w (RetV (.bool (isW c)) w):=by
 have L:=fun w=>lxletter_any c w
 have D:=fun w=>lxdigit_any c w
 cases q0:(isL c) with
 | true =>
  rw [show (isW c)=true from by simp only [isW,q0];try rfl]
  exact vm_pure kr Tryz.func186 rfl [.int .u8 (c:Int)] nle [] [dT q0,dT q0,dT q0,.t,.t,.t,.t,.t,.t] [cV (L)]
 | false =>
  cases q1:(isG c) with
  | true =>
   rw [show (isW c)=true from by simp only [isW,q0,q1];try rfl]
   exact vm_pure kr Tryz.func186 rfl [.int .u8 (c:Int)] nle [] [dF q0,dF q0,dF q0,dT q1,dT q1,dT q1,.t,.t,.t] [cV (L),cV (D)]
  | false =>
   cases q2:(((c:Int) == (45:Int))) with
   | true =>
    rw [show (isW c)=true from by simp only [isW,q0,q1,q2];try rfl]
    exact vm_pure kr Tryz.func186 rfl [.int .u8 (c:Int)] nle [] [dF q0,dF q0,dF q0,dF q1,dF q1,dF q1,dT q2,dT q2,dT q2] [cV (L),cV (D)]
   | false =>
    rw [show (isW c)=((c:Int) == (95:Int)) from by simp only [isW,q0,q1,q2];try rfl]
    exact vm_pure kr Tryz.func186 rfl [.int .u8 (c:Int)] nle [] [dF q0,dF q0,dF q0,dF q1,dF q1,dF q1,dF q2,dF q2,dF q2] [cV (L),cV (D)]
def resW:List (List UInt8):=[[100,101,115,105,103,110],[111,114,100,101,114],[109,105,114,114,111,114],[116,105,101,114],[97,110,103,108,101],[97,116],[100,101,112,116,104],[109,101,101,116],[101,100,103,101],[104,101,105,103,104,116],[116,104,114,111,117,103,104]]
def isR (l:List UInt8):Bool:=((ByteArray.mk l.toArray).toList == (ByteArray.mk #[100,101,115,105,103,110]).toList) || ((ByteArray.mk l.toArray).toList == (ByteArray.mk #[111,114,100,101,114]).toList) || ((ByteArray.mk l.toArray).toList == (ByteArray.mk #[109,105,114,114,111,114]).toList) || ((ByteArray.mk l.toArray).toList == (ByteArray.mk #[116,105,101,114]).toList) || ((ByteArray.mk l.toArray).toList == (ByteArray.mk #[97,110,103,108,101]).toList) || ((ByteArray.mk l.toArray).toList == (ByteArray.mk #[97,116]).toList) || ((ByteArray.mk l.toArray).toList == (ByteArray.mk #[100,101,112,116,104]).toList) || ((ByteArray.mk l.toArray).toList == (ByteArray.mk #[109,101,101,116]).toList) || ((ByteArray.mk l.toArray).toList == (ByteArray.mk #[101,100,103,101]).toList) || ((ByteArray.mk l.toArray).toList == (ByteArray.mk #[104,101,105,103,104,116]).toList) || ((ByteArray.mk l.toArray).toList == (ByteArray.mk #[116,104,114,111,117,103,104]).toList)
theorem lxReserved_any (l:List UInt8) (w:World):Calls Tryz.prog 146 #[.string ⟨l.toArray⟩] w (RetV (.bool (isR l)) w):=by
 cases q0:(((ByteArray.mk (l).toArray).toList == (ByteArray.mk #[100,101,115,105,103,110]).toList)) with
 | true =>
  rw [show (isR l)=true from by simp only [isR,q0];try rfl]
  exact vm_pure kr Tryz.func146 rfl [.string ⟨l.toArray⟩] nle [] [dT q0,dT q0] []
 | false =>
  cases q1:(((ByteArray.mk (l).toArray).toList == (ByteArray.mk #[111,114,100,101,114]).toList)) with
  | true =>
   rw [show (isR l)=true from by simp only [isR,q0,q1];try rfl]
   exact vm_pure kr Tryz.func146 rfl [.string ⟨l.toArray⟩] nle [] [dF q0,dT q1,dT q1] []
  | false =>
   cases q2:(((ByteArray.mk (l).toArray).toList == (ByteArray.mk #[109,105,114,114,111,114]).toList)) with
   | true =>
    rw [show (isR l)=true from by simp only [isR,q0,q1,q2];try rfl]
    exact vm_pure kr Tryz.func146 rfl [.string ⟨l.toArray⟩] nle [] [dF q0,dF q1,dT q2,dT q2] []
   | false =>
    cases q3:(((ByteArray.mk (l).toArray).toList == (ByteArray.mk #[116,105,101,114]).toList)) with
    | true =>
     rw [show (isR l)=true from by simp only [isR,q0,q1,q2,q3];try rfl]
     exact vm_pure kr Tryz.func146 rfl [.string ⟨l.toArray⟩] nle [] [dF q0,dF q1,dF q2,dT q3,dT q3] []
    | false =>
     cases q4:(((ByteArray.mk (l).toArray).toList == (ByteArray.mk #[97,110,103,108,101]).toList)) with
     | true =>
      rw [show (isR l)=true from by simp only [isR,q0,q1,q2,q3,q4];try rfl]
      exact vm_pure kr Tryz.func146 rfl [.string ⟨l.toArray⟩] nle [] [dF q0,dF q1,dF q2,dF q3,dT q4,dT q4] []
     | false =>
      cases q5:(((ByteArray.mk (l).toArray).toList == (ByteArray.mk #[97,116]).toList)) with
      | true =>
       rw [show (isR l)=true from by simp only [isR,q0,q1,q2,q3,q4,q5];try rfl]
       exact vm_pure kr Tryz.func146 rfl [.string ⟨l.toArray⟩] nle [] [dF q0,dF q1,dF q2,dF q3,dF q4,dT q5,dT q5] []
      | false =>
       cases q6:(((ByteArray.mk (l).toArray).toList == (ByteArray.mk #[100,101,112,116,104]).toList)) with
       | true =>
        rw [show (isR l)=true from by simp only [isR,q0,q1,q2,q3,q4,q5,q6];try rfl]
        exact vm_pure kr Tryz.func146 rfl [.string ⟨l.toArray⟩] nle [] [dF q0,dF q1,dF q2,dF q3,dF q4,dF q5,dT q6,dT q6] []
       | false =>
        cases q7:(((ByteArray.mk (l).toArray).toList == (ByteArray.mk #[109,101,101,116]).toList)) with
        | true =>
         rw [show (isR l)=true from by simp only [isR,q0,q1,q2,q3,q4,q5,q6,q7];try rfl]
         exact vm_pure kr Tryz.func146 rfl [.string ⟨l.toArray⟩] nle [] [dF q0,dF q1,dF q2,dF q3,dF q4,dF q5,dF q6,dT q7,dT q7] []
        | false =>
         cases q8:(((ByteArray.mk (l).toArray).toList == (ByteArray.mk #[101,100,103,101]).toList)) with
         | true =>
          rw [show (isR l)=true from by simp only [isR,q0,q1,q2,q3,q4,q5,q6,q7,q8];try rfl]
          exact vm_pure kr Tryz.func146 rfl [.string ⟨l.toArray⟩] nle [] [dF q0,dF q1,dF q2,dF q3,dF q4,dF q5,dF q6,dF q7,dT q8,dT q8] []
         | false =>
          cases q9:(((ByteArray.mk (l).toArray).toList == (ByteArray.mk #[104,101,105,103,104,116]).toList)) with
          | true =>
           rw [show (isR l)=true from by simp only [isR,q0,q1,q2,q3,q4,q5,q6,q7,q8,q9];try rfl]
           exact vm_pure kr Tryz.func146 rfl [.string ⟨l.toArray⟩] nle [] [dF q0,dF q1,dF q2,dF q3,dF q4,dF q5,dF q6,dF q7,dF q8,dT q9,dT q9] []
          | false =>
           cases q10:(((ByteArray.mk (l).toArray).toList == (ByteArray.mk #[116,104,114,111,117,103,104]).toList)) with
           | true =>
            rw [show (isR l)=true from by simp only [isR,q0,q1,q2,q3,q4,q5,q6,q7,q8,q9,q10];try rfl]
            exact vm_pure kr Tryz.func146 rfl [.string ⟨l.toArray⟩] nle [] [dF q0,dF q1,dF q2,dF q3,dF q4,dF q5,dF q6,dF q7,dF q8,dF q9,dT q10] []
           | false =>
            rw [show (isR l)=false from by simp only [isR,q0,q1,q2,q3,q4,q5,q6,q7,q8,q9,q10];try rfl]
            exact vm_pure kr Tryz.func146 rfl [.string ⟨l.toArray⟩] nle [] [dF q0,dF q1,dF q2,dF q3,dF q4,dF q5,dF q6,dF q7,dF q8,dF q9,dF q10] []
theorem tw_len {α:Type} (p:α→Bool) (l:List α):(l.takeWhile p).length≤l.length:=(List.takeWhile_sublist p).length_le
theorem tw_at {α:Type} (p:α→Bool):∀ (l:List α) (n:Nat) (h:n<l.length),n<(l.takeWhile p).length→p l[n]=true
 | [],_,h,_=>absurd h (by simp)
 | a :: l,n,h,hn=>by
  rw [List.takeWhile_cons] at hn
  split at hn
  ·cases n with
   | zero=>assumption
   | succ n=>exact tw_at p l n (by simpa using h) (by simpa using hn)
  ·simp at hn
theorem tw_end {α:Type} (p:α→Bool):∀ (l:List α) (h:(l.takeWhile p).length<l.length),p (l[(l.takeWhile p).length]'h)=false
 | [],h=>absurd h (by simp)
 | a :: l,h=>by
  cases hp:p a with
  | false=>simp [List.takeWhile_cons,hp]
  | true =>
   have e:(a :: l).takeWhile p=a :: l.takeWhile p:=by rw [List.takeWhile_cons,if_pos hp]
   simp only [e,List.length_cons,List.getElem_cons_succ] at h ⊢
   exact tw_end p l (by omega)
noncomputable def ruN:Nat:=Tryz.f185.ntmps
noncomputable def ruC:Code:=Tryz.f185.body.getD .skip
noncomputable def ru0:Code:=cB 0 ruC
theorem lxrun_lxword1 (l:List UInt8) (w:World) (hl:l.length≤1000000):Calls Tryz.prog 185 #[.string ⟨l.toArray⟩,.func (.func 186) #[] #[]] w (RetV (.int .i64 ((l.takeWhile fun c=>isW c.toNat).length:Int)) w):=by
 have hsz:((ByteArray.mk l.toArray).size:Int)=(l.length:Int):=by rw [str_size]
 refine vm_start [.string ⟨l.toArray⟩,.func (.func 186) #[] #[]] (fn:=Tryz.f185) (c:=ruC) kr kr nle ?_
 intro a hS
 have hS:St ruN [(0,(.string ⟨l.toArray⟩,0)),(1,(.func (.func 186) #[] #[],0))] a:=hS
 refine wp_cut 0 kr ?_
 refine vm_piece (E0:=[(0,(.string ⟨(l).toArray⟩,0)),(1,(.func (.func 186) #[] #[],0))]) kr [] ruN (cPre 0 ruC) kr hS [] [] (VEx.n) [(0,(.string ⟨(l).toArray⟩,0)),(1,(.func (.func 186) #[] #[],0)),(5,(.int .i64 (((0:Nat):Int)),0))] [] (hQ:=?_)
 intro a1 w1 hS1 hK1 hM1
 have hw:=tw_len (fun c:UInt8=>isW c.toNat) l
 refine wp_for 0 kr kr (fun n a' w'=>∃ j,(l.takeWhile fun c=>isW c.toNat).length - j=n∧j≤(l.takeWhile fun c=>isW c.toNat).length∧St ruN [(0,(.string ⟨l.toArray⟩,0)),(1,(.func (.func 186) #[] #[],0)),(5,(.int .i64 (j:Int),0))] a'∧Chg [] w w') ((l.takeWhile fun c=>isW c.toNat).length - 0) ⟨0,rfl,by omega,hS1,hM1⟩ ?_
 clear hS1 hM1 hS hK1
 rintro n a2 w2 ⟨j,rfl,hj,hS2,hM2⟩
 refine wpL_one ?_
 rcases Nat.lt_or_ge j l.length with hjl | hjl
 ·have h1:decide ((j:Int)<((ByteArray.mk l.toArray).size:Int))=true:=decide_eq_true (by omega)
  have hB:=byte_l l j hjl
  have F:=fun w=>lxword1_any (l[j]'hjl).toNat w
  have ht:=tw_at (fun c:UInt8=>isW c.toNat) l j hjl
  have he:j=(l.takeWhile fun c=>isW c.toNat).length→isW (l[j]'hjl).toNat=false:=fun e=>by
   have:=tw_end (fun c:UInt8=>isW c.toNat) l (by omega)
   simp only [← e] at this
   exact this
  generalize (l[j]'hjl).toNat=c at *
  have v1:IntKind.i64.wrap ((j:Int)+1)=((j+1:Nat):Int):=by rw [wr64 (by omega) (by omega)];omega
  cases hc:isW c with
  | true =>
   have hlt:j<(l.takeWhile fun c=>isW c.toNat).length:=by
    rcases Nat.lt_or_ge j (l.takeWhile fun c=>isW c.toNat).length with h | h
    ·exact h
    ·rw [he (by omega)] at hc;cases hc
   rw [hc] at F
   refine vm_piece (E0:=[(0,(.string ⟨(l).toArray⟩,0)),(1,(.func (.func 186) #[] #[],0)),(5,(.int .i64 ((j:Int)),0))]) kr [(2,8),(3,1)] ruN [cI (cI ru0)] kr hS2 [(.p _ true h1),(.p _ true h1),(.p _ true h1),(.p _ true h1),(.p _ true h1),(.p _ true h1),.t] [lV (Instr.index 9 (.string ⟨(l).toArray⟩) (.int .i64 ((j:Int)))) (.int .u8 (c:Int)) (fun w hC=>hB w),cV (F),lE .i64 ((((j:Int)):Int)+((1):Int)) (((j+1:Nat):Int)) (v1)] (VEx.n) [(0,(.string ⟨(l).toArray⟩,0)),(1,(.func (.func 186) #[] #[],0)),(5,(.int .i64 (((j+1:Nat):Int)),0))] [] (hQ:=?_)
   intro a3 w3 hS3 hK3 hM3
   exact ⟨(l.takeWhile fun c=>isW c.toNat).length - (j+1),by omega,j+1,rfl,by omega,hS3,hM2.trans hM3⟩
  | false =>
   have hlt:¬ j<(l.takeWhile fun c=>isW c.toNat).length:=fun h=>by rw [ht h] at hc;cases hc
   obtain rfl:j=(l.takeWhile fun c=>isW c.toNat).length:=by omega
   rw [hc] at F
   generalize (l.takeWhile fun c=>isW c.toNat).length=j at *
   refine vm_piece (E0:=[(0,(.string ⟨(l).toArray⟩,0)),(1,(.func (.func 186) #[] #[],0)),(5,(.int .i64 ((j:Int)),0))]) kr [(2,8)] ruN [cI (cI ru0)] kr hS2 [(.p _ true h1),(.p _ true h1),(.p _ true h1),(.p _ true h1),(.p _ true h1),(.p _ true h1),.f] [lV (Instr.index 9 (.string ⟨(l).toArray⟩) (.int .i64 ((j:Int)))) (.int .u8 (c:Int)) (fun w hC=>hB w),cV (F)] (VEx.x 0) [(0,(.string ⟨(l).toArray⟩,0)),(1,(.func (.func 186) #[] #[],0)),(5,(.int .i64 ((j:Int)),0))] [] (hQ:=?_)
   intro a3 w3 hS3 hK3 hM3
   refine exit_n (then_n ?_)
   refine vm_piece (E0:=[(0,(.string ⟨(l).toArray⟩,0)),(1,(.func (.func 186) #[] #[],0)),(5,(.int .i64 ((j:Int)),0))]) kr [] ruN (cPost 0 ruC) kr hS3 [] [] (VEx.r) [(4,(.int .i64 ((j:Int)),0))] [] (hQ:=?_)
   intro a4 w4 hS4 hK4 hM4
   exact vm_out (fn:=Tryz.f185) hS4 (.int .i64 (j:Int)) (fun g=>by kernel_rfl) ⟨rfl,((hM2.trans hM3).trans hM4).bl0⟩
 ·have h1:decide ((j:Int)<((ByteArray.mk l.toArray).size:Int))=false:=decide_eq_false (by omega)
  obtain rfl:j=(l.takeWhile fun c=>isW c.toNat).length:=by omega
  generalize (l.takeWhile fun c=>isW c.toNat).length=j at *
  refine vm_piece (E0:=[(0,(.string ⟨(l).toArray⟩,0)),(1,(.func (.func 186) #[] #[],0)),(5,(.int .i64 ((j:Int)),0))]) kr [] ruN [cI (cI ru0)] kr hS2 [(.p _ false h1),(.p _ false h1),(.p _ false h1),(.p _ false h1),(.p _ false h1),(.p _ false h1),.f] [] (VEx.x 0) [(0,(.string ⟨(l).toArray⟩,0)),(1,(.func (.func 186) #[] #[],0)),(5,(.int .i64 ((j:Int)),0))] [] (hQ:=?_)
  intro a3 w3 hS3 hK3 hM3
  refine exit_n (then_n ?_)
  refine vm_piece (E0:=[(0,(.string ⟨(l).toArray⟩,0)),(1,(.func (.func 186) #[] #[],0)),(5,(.int .i64 ((j:Int)),0))]) kr [] ruN (cPost 0 ruC) kr hS3 [] [] (VEx.r) [(4,(.int .i64 ((j:Int)),0))] [] (hQ:=?_)
  intro a4 w4 hS4 hK4 hM4
  exact vm_out (fn:=Tryz.f185) hS4 (.int .i64 (j:Int)) (fun g=>by kernel_rfl) ⟨rfl,((hM2.trans hM3).trans hM4).bl0⟩

def wordN:List UInt8→Nat
 | []=>0
 | c :: r=>if isL c.toNat=true then ((c :: r).takeWhile fun c=>isW c.toNat).length else 0
theorem wordN_cons (c:UInt8) (r:List UInt8):wordN (c :: r)=if isL c.toNat=true then ((c :: r).takeWhile fun c=>isW c.toNat).length else 0:=rfl
theorem lxword_any (l:List UInt8) (w:World) (hl:l.length≤1000000):Calls Tryz.prog 145 #[.string ⟨l.toArray⟩] w (RetV (.int .i64 (wordN l:Int)) w):=by
 cases l with
 | nil =>
  exact vm_pure kr Tryz.func145 rfl [.string ⟨#[]⟩] nle [] [.t,.t,.t,.t,.t,.t] []
 | cons c r =>
  have hz:((ByteArray.mk (c :: r).toArray).toList == (ByteArray.mk #[]).toList)=false:=str_nil _
  have hB:=byte_l (c :: r) 0 (by simp)
  simp only [List.getElem_cons_zero] at hB
  have L:=fun w=>lxletter_any c.toNat w
  have R:=fun w=>lxrun_lxword1 (c :: r) w hl
  generalize hk:((c :: r).takeWhile fun c=>isW c.toNat).length=k at *
  rw [wordN_cons,hk]
  generalize c :: r=l at *
  generalize c.toNat=c at *
  cases hc:isL c with
  | true =>
   rw [hc] at L
   rw [if_pos rfl]
   exact vm_pure kr Tryz.func145 rfl [.string ⟨l.toArray⟩] nle [(1,4)] [(.p _ false hz),(.p _ false hz),(.p _ false hz),(.p _ false hz),(.p _ false hz),.f] [lV (Instr.index 9 (.string ⟨(l).toArray⟩) (.int .i64 (((0:Nat):Int)))) (.int .u8 (c:Int)) (fun w hC=>hB w),cV (L),cV (R)]
  | false =>
   rw [hc] at L
   rw [if_neg (by decide)]
   exact vm_pure kr Tryz.func145 rfl [.string ⟨l.toArray⟩] nle [(1,4)] [(.p _ false hz),(.p _ false hz),(.p _ false hz),(.p _ false hz),(.p _ false hz),.t] [lV (Instr.index 9 (.string ⟨(l).toArray⟩) (.int .i64 (((0:Nat):Int)))) (.int .u8 (c:Int)) (fun w hC=>hB w),cV (L)]
def isNm (l:List UInt8):Bool:=((ByteArray.mk (l).toArray).toList != (ByteArray.mk #[]).toList) && decide (((ByteArray.mk (l).toArray).size:Int)≤(30:Int)) && ((wordN l:Int) == ((ByteArray.mk (l).toArray).size:Int)) && (!isR l)
theorem isNm_eq (l:List UInt8):isNm l=(!l.isEmpty && decide (l.length≤30) && wordN l == l.length && !isR l):=by
 unfold isNm
 rw [str_size,bne,str_nil]
 congr 2
 ·congr 1
  rw [decide_eq_decide];omega
 ·rw [Bool.eq_iff_iff,beq_iff_eq,beq_iff_eq];omega
theorem lxIsName_any (l:List UInt8) (w:World) (hl:l.length≤1000000):Calls Tryz.prog 86 #[.string ⟨l.toArray⟩] w (RetV (.bool (isNm l)) w):=by
 have W:=fun w=>lxword_any l w hl
 have R:=fun w=>lxReserved_any l w
 cases q0:(((ByteArray.mk (l).toArray).toList != (ByteArray.mk #[]).toList)) with
 | true =>
  cases q1:(decide ((((ByteArray.mk (l).toArray)).size:Int)≤(30:Int))) with
  | true =>
   cases q2:(((wordN l:Int) == (((ByteArray.mk (l).toArray)).size:Int))) with
   | true =>
    rw [show (isNm l)=(!isR l) from by simp only [isNm,q0,q1,q2];try rfl]
    exact vm_pure kr Tryz.func86 rfl [.string ⟨l.toArray⟩] nle [] [dT q0,dT q0,dT q0,dT q0,dT q1,dT q1,dT q1,dT q1,dT q1,dT q1,dT q2,dT q2,dT q2,dT q2] [cV (W),cV (R)]
   | false =>
    rw [show (isNm l)=false from by simp only [isNm,q0,q1,q2];try rfl]
    exact vm_pure kr Tryz.func86 rfl [.string ⟨l.toArray⟩] nle [] [dT q0,dT q0,dT q0,dT q0,dT q1,dT q1,dT q1,dT q1,dT q1,dT q1,dF q2,dF q2,dF q2,dF q2] [cV (W)]
  | false =>
   rw [show (isNm l)=false from by simp only [isNm,q0,q1];try rfl]
   exact vm_pure kr Tryz.func86 rfl [.string ⟨l.toArray⟩] nle [] [dT q0,dT q0,dT q0,dT q0,dF q1,dF q1,dF q1,dF q1,dF q1,dF q1,.f,.f,.f,.f] []
 | false =>
  rw [show (isNm l)=false from by simp only [isNm,q0];try rfl]
  exact vm_pure kr Tryz.func86 rfl [.string ⟨l.toArray⟩] nle [] [dF q0,dF q0,dF q0,dF q0,.f,.f,.f,.f,.f,.f,.f,.f,.f,.f] []
structure Mt where
 nm:List UInt8
 d:Int
 i:Int
 h:Int
deriving DecidableEq
def vMt (m:Mt):Value:=.agg #[.string ⟨m.nm.toArray⟩,.int .i64 m.d,.int .i64 m.i,.int .i64 m.h]
def rightM (m:Mt):Bool:=isNm m.nm && decide ((1:Int)≤m.d) && decide (m.d≤(30000:Int)) && decide ((1000:Int)≤m.i) && decide (m.i≤(4000:Int)) && decide ((1:Int)≤m.h) && decide (m.h≤(100:Int))
theorem gmmaterial_any (m:Mt) (w:World) (hl:m.nm.length≤1000000):Calls Tryz.prog 43 #[vMt m] w (RetV (.bool (rightM m)) w):=by
 have N:=fun w=>lxIsName_any m.nm w hl
 cases q0:(isNm m.nm) with
 | true =>
  cases q1:(decide ((1:Int)≤m.d)) with
  | true =>
   cases q2:(decide (m.d≤(30000:Int))) with
   | true =>
    cases q3:(decide ((1000:Int)≤m.i)) with
    | true =>
     cases q4:(decide (m.i≤(4000:Int))) with
     | true =>
      cases q5:(decide ((1:Int)≤m.h)) with
      | true =>
       rw [show (rightM m)=decide (m.h≤(100:Int)) from by simp only [rightM,q0,q1,q2,q3,q4,q5];try rfl]
       exact vm_pure kr Tryz.func43 rfl [vMt m] nle [] [dT q0,dT q0,dT q0,dT q0,dT q1,dT q1,dT q1,dT q1,dT q2,dT q2,dT q2,dT q2,dT q3,dT q3,dT q3,dT q3,dT q4,dT q4,dT q4,dT q4,dT q5,dT q5,dT q5,dT q5] [cV (N)]
      | false =>
       rw [show (rightM m)=false from by simp only [rightM,q0,q1,q2,q3,q4,q5];try rfl]
       exact vm_pure kr Tryz.func43 rfl [vMt m] nle [] [dT q0,dT q0,dT q0,dT q0,dT q1,dT q1,dT q1,dT q1,dT q2,dT q2,dT q2,dT q2,dT q3,dT q3,dT q3,dT q3,dT q4,dT q4,dT q4,dT q4,dF q5,dF q5,dF q5,dF q5] [cV (N)]
     | false =>
      rw [show (rightM m)=false from by simp only [rightM,q0,q1,q2,q3,q4];try rfl]
      exact vm_pure kr Tryz.func43 rfl [vMt m] nle [] [dT q0,dT q0,dT q0,dT q0,dT q1,dT q1,dT q1,dT q1,dT q2,dT q2,dT q2,dT q2,dT q3,dT q3,dT q3,dT q3,dF q4,dF q4,dF q4,dF q4,.f,.f,.f,.f] [cV (N)]
    | false =>
     rw [show (rightM m)=false from by simp only [rightM,q0,q1,q2,q3];try rfl]
     exact vm_pure kr Tryz.func43 rfl [vMt m] nle [] [dT q0,dT q0,dT q0,dT q0,dT q1,dT q1,dT q1,dT q1,dT q2,dT q2,dT q2,dT q2,dF q3,dF q3,dF q3,dF q3,.f,.f,.f,.f,.f,.f,.f,.f] [cV (N)]
   | false =>
    rw [show (rightM m)=false from by simp only [rightM,q0,q1,q2];try rfl]
    exact vm_pure kr Tryz.func43 rfl [vMt m] nle [] [dT q0,dT q0,dT q0,dT q0,dT q1,dT q1,dT q1,dT q1,dF q2,dF q2,dF q2,dF q2,.f,.f,.f,.f,.f,.f,.f,.f,.f,.f,.f,.f] [cV (N)]
  | false =>
   rw [show (rightM m)=false from by simp only [rightM,q0,q1];try rfl]
   exact vm_pure kr Tryz.func43 rfl [vMt m] nle [] [dT q0,dT q0,dT q0,dT q0,dF q1,dF q1,dF q1,dF q1,.f,.f,.f,.f,.f,.f,.f,.f,.f,.f,.f,.f,.f,.f,.f,.f] [cV (N)]
 | false =>
  rw [show (rightM m)=false from by simp only [rightM,q0];try rfl]
  exact vm_pure kr Tryz.func43 rfl [vMt m] nle [] [dF q0,dF q0,dF q0,dF q0,.f,.f,.f,.f,.f,.f,.f,.f,.f,.f,.f,.f,.f,.f,.f,.f,.f,.f,.f,.f] [cV (N)]

def cellsM (m:Mt):List Value:=[.string ⟨m.nm.toArray⟩,.int .i64 m.d,.int .i64 m.i,.int .i64 m.h]
def encM:List Mt→List Value
 | []=>[]
 | m :: l=>cellsM m++encM l
theorem encM_len:∀ l:List Mt,(encM l).length=l.length * 4
 | []=>rfl
 | m :: l=>by rw [encM,List.length_append,encM_len l,List.length_cons];simp only [cellsM,List.length_cons,List.length_nil];omega
theorem encM_get:∀ (l:List Mt) (i:Nat) (h:i<l.length) (k:Nat),k<4→(encM l)[i * 4+k]?=(cellsM l[i])[k]?
 | m :: l,0,_,k,hk=>by
  rw [encM,Nat.zero_mul,Nat.zero_add,List.getElem?_append_left (by simp [cellsM];exact hk)];rfl
 | m :: l,i+1,h,k,hk=>by
  rw [encM,List.getElem?_append_right (by simp [cellsM];omega)]
  have:=encM_get l i (by simpa using h) k hk
  simp only [List.getElem_cons_succ]
  rw [← this]
  congr 1
  simp [cellsM];omega
theorem encM_app:∀ a b:List Mt,encM (a++b)=encM a++encM b
 | [],b=>rfl
 | m :: a,b=>by rw [List.cons_append,encM,encM,encM_app a b,List.append_assoc]
def RdS (w:World) (base:Option Addr) (xs:List Value):Prop:=xs = []∨∃ b o,base=some ⟨b,o,none⟩∧∀ j v,xs[j]?=some v→w.cell? ⟨b,o+j,none⟩=some v
theorem RdS.chg {w w':World} {base:Option Addr} {xs:List Value} (h:RdS w base xs) (hc:Chg [] w w'):RdS w' base xs:=by
 rcases h with h | ⟨b,o,e,h⟩
 ·exact .inl h
 ·exact .inr ⟨b,o,e,fun j v hv=>hc.cell0 (h j v hv)⟩
structure MAt (w:World) (b p:Nat) (m:Mt):Prop where
 c0:w.cell? ⟨b,p,none⟩=some (.string ⟨m.nm.toArray⟩)
 c1:w.cell? ⟨b,p+1,none⟩=some (.int .i64 m.d)
 c2:w.cell? ⟨b,p+2,none⟩=some (.int .i64 m.i)
 c3:w.cell? ⟨b,p+3,none⟩=some (.int .i64 m.h)
theorem MAt.chg {w w':World} {b p:Nat} {m:Mt} (h:MAt w b p m) (hc:Chg [] w w'):MAt w' b p m:=⟨hc.cell0 h.c0,hc.cell0 h.c1,hc.cell0 h.c2,hc.cell0 h.c3⟩
theorem RdS.at {w:World} {base:Option Addr} {l:List Mt} (h:RdS w base (encM l)) (i:Nat) (hi:i<l.length):∃ b o,base=some ⟨b,o,none⟩∧∀ j (hj:j<l.length),MAt w b (o+j * 4) l[j]:=by
 rcases h with h | ⟨b,o,e,h⟩
 ·have:=encM_len l;rw [h] at this;simp at this;omega
 ·refine ⟨b,o,e,fun j hj=>⟨?_,?_,?_,?_⟩⟩
  ·exact h (j * 4) _ (encM_get l j hj 0 (by omega))
  ·rw [Nat.add_assoc];exact h (j * 4+1) _ (encM_get l j hj 1 (by omega))
  ·rw [Nat.add_assoc];exact h (j * 4+2) _ (encM_get l j hj 2 (by omega))
  ·rw [Nat.add_assoc];exact h (j * 4+3) _ (encM_get l j hj 3 (by omega))
theorem ixM {b o n c:Nat} {i:Int} (j:Nat) (w:World) (h0:0≤i) (h1:i<(n:Int)) (hj:i.toNat=j):(Instr.indexAt 48 (.slice (some ⟨b,o,none⟩) n c) (.int .i64 i)).run Tryz.prog w = .ok (.pointer (some ⟨b,o+j * 4,none⟩)) w:=by
 subst hj
 go_simp
theorem ldM {w:World} {b p:Nat} {m:Mt} (h:MAt w b p m):(Instr.loadAt 23 (.pointer (some ⟨b,p,none⟩))).run Tryz.prog w = .ok (vMt m) w:=by
 obtain ⟨c0,c1,c2,c3⟩:=h
 unfold vMt
 go_simp
theorem ldN {w:World} {b p:Nat} {m:Mt} (h:MAt w b p m):(Instr.loadAt 9 (.pointer (some ⟨b,p,none⟩))).run Tryz.prog w = .ok (.string ⟨m.nm.toArray⟩) w:=by
 obtain ⟨c0,c1,c2,c3⟩:=h
 go_simp
def okFrom:Option (List UInt8)→List Mt→Bool
 | _,[]=>true
 | p,m :: r=>rightM m && (match p with | none=>true | some p=>sLt p m.nm) && okFrom (some m.nm) r
def validT (l:List Mt):Bool:=okFrom none l && decide (l.length≤100)
def prevN (l:List Mt):Nat→Option (List UInt8)
 | 0=>none
 | j+1=>(l[j]?).map (·.nm)

theorem prevN_succ {l:List Mt} (j:Nat) (h:j<l.length):prevN l (j+1)=some l[j].nm:=by
 show (l[j]?).map (·.nm)=_;rw [List.getElem?_eq_getElem h];rfl
noncomputable def gvaN:Nat:=Tryz.f37.ntmps
noncomputable def gvaC:Code:=Tryz.f37.body.getD .skip
noncomputable def gva0:Code:=cB 0 gvaC

structure GW (w:World):Prop where
 tab:HasTab w
 ml:∃ m,w.cell? ⟨0,0,none⟩=some (.int .i64 m)
 es:∃ t p,w.cell? ⟨2,0,none⟩=some (.iface t p)
 er:∃ t p,w.cell? ⟨3,0,none⟩=some (.iface t p)
theorem GW.below {w w':World} (h:GW w) (hb:Below w.heap.size w w'):GW w':=by
 obtain ⟨h1,⟨m,h2⟩,⟨t,p,h3⟩,⟨t',p',h4⟩⟩:=h
 exact ⟨h1.below hb,⟨m,below_cell hb h2 (lt_of_cell h2)⟩,⟨t,p,below_cell hb h3 (lt_of_cell h3)⟩,⟨t',p',below_cell hb h4 (lt_of_cell h4)⟩⟩
def numV (s:List UInt8):Int:=match Lib.atoiAll s with
 | .ok v=>v
 | .«syntax»=>0
 | .range=>Lib.atoiSat s
def okV (s:List UInt8):Bool:=match Lib.atoiAll s with
 | .ok v=>Lib.itoa v == s
 | _=>false
theorem atoiAll_bd {s:List UInt8} {v:Int} (h:Lib.atoiAll s = .ok v):-9223372036854775808≤v∧v≤9223372036854775807:=by
 unfold Lib.atoiAll at h
 split at h
 ·cases h
 ·simp only at h
  split at h
  ·cases h
  ·cases h
  ·split at h
   ·cases h
   ·split at h
    ·cases h
    ·injection h with h
     split at h <;> omega
theorem le_two (n:Nat) (h:n≤1000000):n≤281474976710656:=by omega
theorem le_four (n:Nat) (h:n≤1000000):n≤9223372036854775806:=by omega
theorem gmparse1_any (w0:World) (hG:GW w0) (b:Nat) (s:List UInt8) (ok:Bool) (w:World) (h0:Below w0.heap.size w0 w) (hb:w0.heap.size≤b) (hB:Hc w b 4 #[.bool ok]) (hl:s.length≤1000000) :
  Calls Tryz.prog 110 #[.string ⟨s.toArray⟩,.pointer (some ⟨b,0,none⟩)] w (fun e w'=>e = .returned (.int .i64 (numV s))∧Hc w' b 4 #[.bool (ok && okV s)]∧Chg [b] w w'):=by
 have hW:∀ w',Chg [b] w w'→GW w':=fun w' hc=>hG.below (h0.trans (hc.below h0.size (fun x hx=>by rw [List.mem_singleton] at hx;omega)))
 have hsz:(ByteArray.mk s.toArray).size=s.length:=str_size s
 unfold numV okV
 cases hv:Lib.atoiAll s with
 | ok v =>
  obtain ⟨v1,v2⟩:=atoiAll_bd hv
  have A:∀ w,Calls Tryz.prog 111 #[.string ⟨s.toArray⟩] w (RetV (.tuple #[.int .i64 v,.nilIface]) w):=fun w=>(Tryz.strconv_Atoi_ok ⟨s.toArray⟩ (by rw [hsz];exact le_four _ hl) v hv w).mono (fun e w' ⟨h1,h2⟩=>⟨h1,by
   rcases h2 with rfl | ⟨t,rfl⟩
   ·exact Below.refl _ _
   ·exact Lib.bytesWorld_below _ _ _⟩)
  have I:∀ w',Chg [b] w w'→Calls Tryz.prog 62 #[.int .i64 v] w' (RetV (.string ⟨(Lib.itoa v).toArray⟩) w'):=fun w' hc=>Itoa_any v v1 v2 w' (hW w' hc).tab
  simp only
  rw [← str_beq]
  generalize Lib.itoa v=q at *
  clear hv hsz v1 v2 hW
  cases ok with
  | false =>
   exact vm_at kr Tryz.func110 rfl 1 (fun b=>[.string ⟨s.toArray⟩,.pointer (some ⟨b,0,none⟩)]) b 4 (#[.bool false]) (#[.bool false]) (hB) nle [] [.f,.f,.f,.f,.f,.f,.f,.f] [cV (A)]
  | true =>
   exact vm_at kr Tryz.func110 rfl 1 (fun b=>[.string ⟨s.toArray⟩,.pointer (some ⟨b,0,none⟩)]) b 4 (#[.bool true]) (#[.bool ((ByteArray.mk q.toArray).toList == (ByteArray.mk s.toArray).toList)]) (hB) nle [] [.t,.t,.t,.t,.t,.t,.t,.t] [cV (A),cW I]
 | «syntax» =>
  have A:∀ w',Chg [b] w w'→Calls Tryz.prog 111 #[.string ⟨s.toArray⟩] w' (fun e w''=>∃ n,e = .returned (.tuple #[.int .i64 0,.iface 198 (.pointer (some ⟨n,0,none⟩))])∧Below w'.heap.size w' w''):=fun w' hc=>by
   obtain ⟨t,p,h⟩:=(hW w' hc).es
   exact (Tryz.strconv_Atoi_syntax ⟨s.toArray⟩ (by rw [hsz];exact le_two _ hl) hv _ w' h (.inr ⟨t,p,rfl⟩)).mono (fun e w'' ⟨n,h1,_,_,h2⟩=>⟨n,h1,h2⟩)
  simp only [Bool.and_false]
  clear hW
  cases ok with
  | false =>
   exact vm_at kr Tryz.func110 rfl 1 (fun b=>[.string ⟨s.toArray⟩,.pointer (some ⟨b,0,none⟩)]) b 4 (#[.bool false]) (#[.bool false]) (hB) nle [] [.f,.f,.f,.f,.f,.f,.f,.f] [cDr (fun n=>.tuple #[.int .i64 0,.iface 198 (.pointer (some ⟨n,0,none⟩))]) A]
  | true =>
   exact vm_at kr Tryz.func110 rfl 1 (fun b=>[.string ⟨s.toArray⟩,.pointer (some ⟨b,0,none⟩)]) b 4 (#[.bool true]) (#[.bool false]) (hB) nle [] [.t,.t,.t,.f,.f,.f,.f,.f] [cDr (fun n=>.tuple #[.int .i64 0,.iface 198 (.pointer (some ⟨n,0,none⟩))]) A]
 | range =>
  have A:∀ w',Chg [b] w w'→Calls Tryz.prog 111 #[.string ⟨s.toArray⟩] w' (fun e w''=>∃ n,e = .returned (.tuple #[.int .i64 (Lib.atoiSat s),.iface 198 (.pointer (some ⟨n,0,none⟩))])∧Below w'.heap.size w' w''):=fun w' hc=>by
   obtain ⟨t,p,h⟩:=(hW w' hc).er
   exact (Tryz.strconv_Atoi_range ⟨s.toArray⟩ (by rw [hsz];exact le_two _ hl) hv _ w' h (.inr ⟨t,p,rfl⟩)).mono (fun e w'' ⟨n,h1,_,_,h2⟩=>⟨n,h1,h2⟩)
  simp only [Bool.and_false]
  generalize Lib.atoiSat s=v at *
  clear hW hv
  cases ok with
  | false =>
   exact vm_at kr Tryz.func110 rfl 1 (fun b=>[.string ⟨s.toArray⟩,.pointer (some ⟨b,0,none⟩)]) b 4 (#[.bool false]) (#[.bool false]) (hB) nle [] [.f,.f,.f,.f,.f,.f,.f,.f] [cDr (fun n=>.tuple #[.int .i64 v,.iface 198 (.pointer (some ⟨n,0,none⟩))]) A]
  | true =>
   exact vm_at kr Tryz.func110 rfl 1 (fun b=>[.string ⟨s.toArray⟩,.pointer (some ⟨b,0,none⟩)]) b 4 (#[.bool true]) (#[.bool false]) (hB) nle [] [.t,.t,.t,.f,.f,.f,.f,.f] [cDr (fun n=>.tuple #[.int .i64 v,.iface 198 (.pointer (some ⟨n,0,none⟩))]) A]

def spl:List UInt8→List (List UInt8)
 | []=>[[]]
 | c :: r=>if c=32 then [] :: spl r else match spl r with
  | []=>[[c]]
  | h :: t=>(c :: h) :: t
theorem spl_ne (l:List UInt8):spl l ≠ []:=by
 cases l with
 | nil=>simp [spl]
 | cons c r =>
  unfold spl
  split
  ·simp
  ·split <;> simp
theorem spl_pre:∀ (a b:List UInt8),(∀ c,c ∈ a→c≠32)→spl (a++b)=match spl b with | []=>[a] | h :: t=>(a++h) :: t
 | [],b,_=>by
  have:=spl_ne b
  cases h:spl b with
  | nil=>exact absurd h this
  | cons x y=>simp [h]
 | c :: a,b,hc=>by
  have ih:=spl_pre a b (fun x hx=>hc x (List.mem_cons_of_mem _ hx))
  have h1:=hc c List.mem_cons_self
  rw [List.cons_append,spl,if_neg h1,ih]
  cases h:spl b with
  | nil=>exact absurd h (spl_ne b)
  | cons x y=>rfl
theorem spl_at (a b:List UInt8) (h:∀ c,c ∈ a→c≠32):spl (a++32 :: b)=a :: spl b:=by
 rw [spl_pre a _ h,show spl (32 :: b) = [] :: spl b from by simp [spl]]
 simp
theorem spl_no (a:List UInt8) (h:∀ c,c ∈ a→c≠32):spl a = [a]:=by
 have:=spl_pre a [] h
 rw [List.append_nil] at this
 rw [this];simp [spl]
theorem ix_app:∀ (a b:List UInt8),(∀ c,c ∈ a→c≠32)→Lib.indexByte (a++32 :: b) 32=(a.length:Int)
 | [],b,_=>by simp [Lib.indexByte]
 | c :: a,b,h=>by
  have ih:=ix_app a b (fun x hx=>h x (List.mem_cons_of_mem _ hx))
  have h1:=h c List.mem_cons_self
  rw [List.cons_append,Lib.indexByte,if_neg (by simpa using h1),ih,if_neg (by rw [beq_iff_eq];omega),List.length_cons]
  omega
theorem cut32:∀ l:List UInt8,(∀ c,c ∈ l→c≠32)∨∃ a b,l=a++32 :: b∧∀ c,c ∈ a→c≠32
 | []=>.inl (fun c h=>by cases h)
 | c :: l=>by
  by_cases hc:c=32
  ·exact .inr ⟨[],l,by rw [hc];rfl,fun c h=>by cases h⟩
  ·rcases cut32 l with h | ⟨a,b,e,h⟩
   ·exact .inl (fun x hx=>(List.mem_cons.1 hx).elim (fun e=>e ▸ hc) (h x))
   ·exact .inr ⟨c :: a,b,by rw [e];rfl,fun x hx=>(List.mem_cons.1 hx).elim (fun e=>e ▸ hc) (h x)⟩
theorem splitK_spl:∀ (n:Nat) (l:List UInt8),l.length≤n→Lib.splitK [32] 0 (l.count 32) l=spl l
 | n,l,hn=>by
  rcases cut32 l with h | ⟨a,b,rfl,h⟩
  ·have:l.count 32=0:=List.count_eq_zero.2 (fun hm=>h 32 hm rfl)
   rw [this,spl_no l h];rfl
  ·have hc:(a++32 :: b).count 32=b.count 32+1:=by
    rw [List.count_append,List.count_cons_self,List.count_eq_zero.2 (fun hm=>h 32 hm rfl),Nat.zero_add]
   rw [hc,Lib.splitK,Lib.index_one,ix_app a b h,if_neg (by rw [beq_iff_eq];omega),spl_at a b h]
   cases n with
   | zero=>simp at hn
   | succ n =>
    rw [← splitK_spl n b (by simp at hn;omega)]
    congr 1
    ·simp
    ·simp
theorem count_sp (l:List UInt8):Lib.countB ⟨l.toArray⟩ ⟨#[32]⟩=l.count 32:=Lib.count_one 32 l
theorem splitB_sp (l:List UInt8):Lib.splitB ⟨#[32]⟩ 0 (Lib.countB ⟨l.toArray⟩ ⟨#[32]⟩) ⟨l.toArray⟩=(spl l).map (fun x=>(⟨x.toArray⟩:ByteArray)):=by
 have h:=Lib.splitB_data ⟨#[32]⟩ 0 (Lib.countB ⟨l.toArray⟩ ⟨#[32]⟩) ⟨l.toArray⟩
 rw [count_sp] at h ⊢
 have h2:Lib.splitK (ByteArray.mk #[32]).data.toList 0 (l.count 32) (ByteArray.mk l.toArray).data.toList=spl l:=splitK_spl l.length l (Nat.le_refl _)
 rw [h2] at h
 rw [← h,List.map_map]
 exact (List.map_id' _).symm
theorem spl_len (l:List UInt8):(spl l).length=l.count 32+1:=by
 have h:=congrArg List.length (splitB_sp l)
 rw [Lib.splitB_all ⟨#[32]⟩ (by decide) 0 _ _ rfl,List.length_map,count_sp] at h
 omega
theorem Split_any (l:List UInt8) (w:World) (hG:GW w) (hl:l.length≤1000000):Calls Tryz.prog 109 #[.string ⟨l.toArray⟩,.string ⟨#[32]⟩] w (fun e w'=>∃ n,w.heap.size≤n∧e = .returned (.slice (some ⟨n,0,none⟩) (spl l).length (spl l).length)∧Hc w' n 9 ((spl l).map fun x=>Value.string ⟨x.toArray⟩).toArray∧Below w.heap.size w w'):=by
 obtain ⟨m,hm⟩:=hG.ml
 refine (Tryz.strings_Split ⟨l.toArray⟩ ⟨#[32]⟩ m w (by rw [str_size];omega) hm (by decide)).mono ?_
 rintro e w' ⟨h1,rfl⟩
 refine ⟨w.heap.size,Nat.le_refl _,?_,?_,?_⟩
 ·rw [h1,spl_len,count_sp]
 ·rw [splitB_sp,List.map_map]
  exact heap_alloc_new _ _
 ·exact (Below.refl _ _).alloc (Nat.le_refl _) _
def zM:Mt:=⟨[],0,0,0⟩
def okM (s:List UInt8):Bool:=okV s
def lineM (l:List UInt8):Mt × Bool:=match spl l with
 | [a,b,c,d]=>(⟨a,numV b,numV c,numV d⟩,okV b && okV c && okV d && rightM ⟨a,numV b,numV c,numV d⟩)
 | _=>(zM,false)
theorem mem_spl {l x:List UInt8} (h:x ∈ spl l):x.length≤l.length:=by
 have gen:∀ (n:Nat) (l:List UInt8),l.length≤n→∀ x,x ∈ spl l→x.length≤l.length:=fun n=>by
  induction n with
  | zero=>intro l hl x hx
          obtain rfl:=List.eq_nil_of_length_eq_zero (Nat.le_zero.1 hl)
          simp [spl] at hx;rw [hx];exact Nat.le_refl _
  | succ n ih =>
   intro l hl x hx
   rcases cut32 l with h | ⟨a,b,rfl,h⟩
   ·rw [spl_no l h,List.mem_singleton] at hx;rw [hx];exact Nat.le_refl _
   ·rw [spl_at a b h] at hx
    simp at hl ⊢
    rcases List.mem_cons.1 hx with rfl | hx
    ·omega
    ·have:=ih b (by omega) x hx;omega
 exact gen l.length l (Nat.le_refl _) x h
theorem gmparse_any (l:List UInt8) (w:World) (hG:GW w) (hl:l.length≤1000000):Calls Tryz.prog 64 #[.string ⟨l.toArray⟩] w (RetV (.tuple #[vMt (lineM l).1,.bool (lineM l).2]) w):=by
 have S:=fun w' (hc:Chg [] w w')=>Split_any l w' (hG.below hc.bl0) hl
 have hme:∀ x,x ∈ spl l→x.length≤1000000:=fun x hx=>Nat.le_trans (mem_spl hx) hl
 by_cases h4:∃ a b c d,spl l = [a,b,c,d]
 ·obtain ⟨a,b,c,d,hs⟩:=h4
  have ha:=hme a (by rw [hs];simp)
  have H:∀ s,s ∈ spl l→∀ (k:Nat) (ok:Bool) (w':World),Below w.heap.size w w'→w.heap.size≤k→Hc w' k 4 #[.bool ok]→Calls Tryz.prog 110 #[.string ⟨s.toArray⟩,.pointer (some ⟨k,0,none⟩)] w' (fun e w''=>e = .returned (.int .i64 (numV s))∧Hc w'' k 4 #[.bool (ok && okV s)]∧Chg [k] w' w''):=fun s hs' k ok w' h1 h2 h3=>gmparse1_any w hG k s ok w' h1 h2 h3 (hme s hs')
  have Hb:=H b (by rw [hs];simp)
  have Hc':=H c (by rw [hs];simp)
  have Hd:=H d (by rw [hs];simp)
  rw [hs] at S
  have e:lineM l=(⟨a,numV b,numV c,numV d⟩,(((true && okV b) && okV c) && okV d) && rightM ⟨a,numV b,numV c,numV d⟩):=by unfold lineM;rw [hs];simp
  have R:=fun w=>gmmaterial_any ⟨a,numV b,numV c,numV d⟩ w ha
  rw [e]
  clear e hs hme H
  generalize numV b=nb at *
  generalize numV c=nc at *
  generalize numV d=nd at *
  generalize okV b=x at *
  generalize okV c=y at *
  generalize okV d=z at *
  generalize rightM ⟨a,nb,nc,nd⟩=rm at *
  cases q0:((((true && x) && y) && z)) with
  | true =>
   simp only [q0,Bool.true_and,Bool.false_and]
   exact vm_pure kr Tryz.func64 rfl [.string ⟨l.toArray⟩] nle [] [.f,dT q0,dT q0,dT q0] [cN 9 #[.string ⟨a.toArray⟩,.string ⟨b.toArray⟩,.string ⟨c.toArray⟩,.string ⟨d.toArray⟩] (v:=fun n=>.slice (some ⟨n,0,none⟩) 4 4) S,cO 8 4 #[.bool true] #[.bool (true && x)] (fun b w' hc ho hB=>Hb b true w' hc.bl0 (own_nil ho) hB),cO 8 4 #[.bool (true && x)] #[.bool ((true && x) && y)] (fun b w' hc ho hB=>Hc' b (true && x) w' hc.bl0 (own_nil ho) hB),cO 8 4 #[.bool ((true && x) && y)] #[.bool (((true && x) && y) && z)] (fun b w' hc ho hB=>Hd b ((true && x) && y) w' hc.bl0 (own_nil ho) hB),cV (R)]
  | false =>
   simp only [q0,Bool.true_and,Bool.false_and]
   exact vm_pure kr Tryz.func64 rfl [.string ⟨l.toArray⟩] nle [] [.f,dF q0,dF q0,dF q0] [cN 9 #[.string ⟨a.toArray⟩,.string ⟨b.toArray⟩,.string ⟨c.toArray⟩,.string ⟨d.toArray⟩] (v:=fun n=>.slice (some ⟨n,0,none⟩) 4 4) S,cO 8 4 #[.bool true] #[.bool (true && x)] (fun b w' hc ho hB=>Hb b true w' hc.bl0 (own_nil ho) hB),cO 8 4 #[.bool (true && x)] #[.bool ((true && x) && y)] (fun b w' hc ho hB=>Hc' b (true && x) w' hc.bl0 (own_nil ho) hB),cO 8 4 #[.bool ((true && x) && y)] #[.bool (((true && x) && y) && z)] (fun b w' hc ho hB=>Hd b ((true && x) && y) w' hc.bl0 (own_nil ho) hB)]
 ·have e:lineM l=(zM,false):=by
   unfold lineM
   split
   ·rename_i a b c d h;exact absurd ⟨a,b,c,d,h⟩ h4
   ·rfl
  rw [e]
  have hk:(spl l).length≠4:=fun h=>by
   match hs:spl l,h with
   | [a,b,c,d],_=>exact h4 ⟨a,b,c,d,hs⟩
  have h1:(((spl l).length:Int) != (4:Int))=true:=by rw [bne_iff_ne];omega
  generalize (spl l).length=k at *
  generalize ((spl l).map fun x=>Value.string ⟨x.toArray⟩).toArray=cs at *
  exact vm_pure kr Tryz.func64 rfl [.string ⟨l.toArray⟩] nle [] [(.p _ true h1)] [cN 9 cs (v:=fun n=>.slice (some ⟨n,0,none⟩) k k) S]

theorem zc_get (z:Array Value) (n i:Nat):(zc z n)[i]?=if i<n * z.size then some z[i % z.size]! else none:=by
 unfold zc Builtin.zeroCells
 rw [Array.getElem?_toList,Array.getElem?_map]
 by_cases h:i<n * z.size
 ·rw [if_pos h,Array.getElem?_eq_getElem (by simpa using h)];simp
 ·rw [if_neg h,Array.getElem?_eq_none (by simpa using h)];rfl
theorem zc_succ (z:Array Value) (n:Nat):zc z (n+1)=z.toList++zc z n:=by
 apply List.ext_getElem?
 intro i
 rw [zc_get,List.getElem?_append,Nat.succ_mul,Array.length_toList]
 by_cases h:i<z.size
 ·rw [if_pos (by omega),if_pos h,Nat.mod_eq_of_lt h,Array.getElem?_toList,Array.getElem?_eq_getElem h];simp [h]
 ·rw [if_neg h,zc_get]
  by_cases h2:i<n * z.size+z.size
  ·rw [if_pos h2,if_pos (by omega),Nat.mod_eq_sub_mod (by omega)]
  ·rw [if_neg h2,if_neg (by omega)]
def SlG (t:TypeId) (z:Array Value) (w0 w:World) (sv:Value) (n:Nat) (xs:List Value):Prop :=
 (n=0∧xs = []∧sv = .slice none 0 0)∨∃ b m,0<n∧sv = .slice (some ⟨b,0,none⟩) n (n+m)∧w0.heap.size≤b∧Hc w b t (xs++zc z m).toArray
theorem memOk0 (w:World) (r:Nat→Nat):MemOk ⟨w,[]⟩ r [] w:=⟨Chg.refl _ _,fun k x h=>(by cases h),fun k k' x x' h=>by cases h⟩
theorem memOk1 {w:World} {b:Nat} {t:TypeId} {cs:Array Value} (h:Hc w b t cs):MemOk ⟨w,[b]⟩ (fun _=>b) [(0,(t,cs))] w:=⟨Chg.refl _ _,fun k x h'=>by
  have:=look_mem h'
  simp only [List.mem_singleton,Prod.mk.injEq] at this
  obtain ⟨rfl,rfl⟩:=this
  exact ⟨h,.inr (by simp)⟩,fun k k' x x' h h' _=>by
  have h1:=look_mem h
  have h2:=look_mem h'
  simp only [List.mem_singleton,Prod.mk.injEq] at h1 h2
  omega⟩
def encS (l:List (List UInt8)):List Value:=l.map fun x=>.string ⟨x.toArray⟩
theorem encS_len (l:List (List UInt8)):(encS l).length=l.length:=List.length_map _
theorem RdS.bl {w w':World} {base:Option Addr} {xs:List Value} (h:RdS w base xs) (hb:Below w.heap.size w w'):RdS w' base xs:=by
 rcases h with h | ⟨b,o,e,h⟩
 ·exact .inl h
 ·exact .inr ⟨b,o,e,fun j v hv=>below_cell hb (h j v hv) (lt_of_cell (h j v hv))⟩
theorem RdS.atS {w:World} {base:Option Addr} {l:List (List UInt8)} (h:RdS w base (encS l)) (i:Nat) (hi:i<l.length):∃ b o,base=some ⟨b,o,none⟩∧b<w.heap.size∧∀ j (hj:j<l.length),w.cell? ⟨b,o+j,none⟩=some (.string ⟨(l[j]).toArray⟩):=by
 rcases h with h | ⟨b,o,e,h⟩
 ·have:=encS_len l;rw [h] at this;simp at this;omega
 ·have hj:∀ j (hj:j<l.length),w.cell? ⟨b,o+j,none⟩=some (.string ⟨(l[j]).toArray⟩):=fun j hj=>h j _ (by unfold encS;rw [List.getElem?_map,List.getElem?_eq_getElem hj];rfl)
  exact ⟨b,o,e,lt_of_cell (hj i hi),hj⟩
theorem ixS {b o n c:Nat} {i:Int} (j:Nat) (w:World) (h0:0≤i) (h1:i<(n:Int)) (hj:i.toNat=j):(Instr.indexAt 49 (.slice (some ⟨b,o,none⟩) n c) (.int .i64 i)).run Tryz.prog w = .ok (.pointer (some ⟨b,o+j,none⟩)) w:=by
 subst hj
 go_simp
theorem ldS {w:World} {a:Addr} {s:List UInt8} (h:w.cell? a=some (.string ⟨s.toArray⟩)):(Instr.loadAt 9 (.pointer (some a))).run Tryz.prog w = .ok (.string ⟨s.toArray⟩) w:=by
 go_simp
def zMc:Array Value:=#[.string ⟨#[]⟩,.int .i64 0,.int .i64 0,.int .i64 0]
theorem slT_M:SlT Tryz.prog 48 23 (.agg zMc) 4:=⟨by kernel_rfl,by kernel_rfl⟩
theorem Hc.atM {w:World} {b:Nat} {l:List Mt} {sp:List Value} (h:Hc w b 23 (encM l++sp).toArray) (j:Nat) (hj:j<l.length):MAt w b (j * 4) l[j]:=by
 have g:∀ k,k<4→(encM l++sp)[j * 4+k]?=(cellsM l[j])[k]?:=fun k hk=>by
  rw [List.getElem?_append_left (by rw [encM_len];omega)];exact encM_get l j hj k hk
 exact ⟨h.cell (g 0 (by omega)),h.cell (g 1 (by omega)),h.cell (g 2 (by omega)),h.cell (g 3 (by omega))⟩
theorem ixM0 {b n c:Nat} {i:Int} (j:Nat) (w:World) (h0:0≤i) (h1:i<(n:Int)) (hj:i.toNat=j):(Instr.indexAt 48 (.slice (some ⟨b,0,none⟩) n c) (.int .i64 i)).run Tryz.prog w = .ok (.pointer (some ⟨b,j * 4,none⟩)) w:=by
 subst hj
 go_simp
def geqP (p:Option (List UInt8)) (n:List UInt8):Bool:=match p with
 | none=>false
 | some q=>!sLt q n
def parT:Option (List UInt8)→List Mt→Nat→List (List UInt8)→List Mt × Nat × Int
 | _,acc,_,[]=>(acc,0,0)
 | p,acc,i,l :: r=>if (lineM l).2=true then (if geqP p (lineM l).1.nm=true then ([],i,8) else parT (some (lineM l).1.nm) (acc ++ [(lineM l).1]) (i+1) r) else ([],i,4)
def parseT (ls:List (List UInt8)):List Mt × Nat × Int:=if 100<ls.length then ([],0,3) else parT none [] 0 ls
def RetPa (q:List Mt × Nat × Int) (w:World) (r:Ending) (w':World):Prop:=∃ sv,r = .returned (.tuple #[sv,.int .i64 (q.2.1:Int),.int .i64 q.2.2])∧SlG 23 zMc w w' sv q.1.length (encM q.1)∧Below w.heap.size w w'
end Go.Proofs.YtlhddcingeneaaaGreatDoor
