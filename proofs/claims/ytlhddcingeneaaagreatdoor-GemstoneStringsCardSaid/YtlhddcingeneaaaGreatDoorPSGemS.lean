/- Numbers of a line (reference), beside those of the program. -/
import Derived.Test.YtlhddcingeneaaaGreatDoorPSGemR
import Derived.Lib.AtoiTie
namespace Go.Proofs.YtlhddcingeneaaaGreatDoor
open Go Go.RowKit
set_option maxRecDepth 100000
set_option linter.unusedVariables false
set_option linter.unusedSimpArgs false
def numR (s:List UInt8):Int:=if s.length≤5 then match Lib.decFrom 0 s with
 | some n=>if dgN n=s then (n:Int) else 0
 | none=>0 else 0
theorem decFrom_lt:∀ (l:List UInt8) (a n:Nat),Lib.decFrom a l=some n→n<(a+1) * 10 ^ l.length
 | [],a,n,h=>by
  simp only [Lib.decFrom,Option.some.injEq] at h
  subst h;simp
 | b :: r,a,n,h=>by
  simp only [Lib.decFrom] at h
  cases hb:Lib.digitVal b with
  | none=>rw [hb] at h;cases h
  | some d =>
   rw [hb] at h
   have hd:d≤9:=by
    unfold Lib.digitVal at hb
    split at hb
    ·injection hb with hb;omega
    ·cases hb
   have ih:=decFrom_lt r _ n h
   rw [List.length_cons,Nat.pow_succ]
   have:(a * 10+d+1) * 10 ^ r.length≤((a+1) * 10) * 10 ^ r.length:=Nat.mul_le_mul_right _ (by omega)
   rw [show (a+1) * (10 ^ r.length * 10)=((a+1) * 10) * 10 ^ r.length by rw [Nat.mul_assoc,Nat.mul_comm 10]]
   omega
theorem decFrom_5 {l:List UInt8} {n:Nat} (h:Lib.decFrom 0 l=some n) (hl:l.length≤5):n≤99999:=by
 have h1:=decFrom_lt l 0 n h
 have h2:10 ^ l.length≤10 ^ 5:=Nat.pow_le_pow_right (by decide) hl
 omega
theorem decFrom_none {l:List UInt8} {k:Nat} {c:UInt8} (hc:l[k]?=some c) (hd:c.toNat<48∨57<c.toNat):Lib.decFrom 0 l=none:=by
 cases h:Lib.decFrom 0 l with
 | none=>rfl
 | some n =>
  obtain ⟨d,hd2⟩:=Lib.digit_of_decFrom l 0 n h k c hc
  unfold Lib.digitVal at hd2
  rw [if_neg (by omega)] at hd2
  cases hd2
noncomputable def nbN:Nat:=Tryz.f112.ntmps
noncomputable def nbC:Code:=Tryz.f112.body.getD .skip
noncomputable def nb0:Code:=cB 0 nbC
theorem gcvU (c:Nat) (hc:c<256) (w:World):(convert 5 3 (.int .u8 (c:Int))).run Tryz.prog w = .ok (.int .i64 (c:Int)) w:=by
 have:IntKind.i64.wrap (c:Int)=c:=wr64 (by omega) (by omega)
 go_simp
 try rw [this]
theorem gnnumber_any (s:List UInt8) (w:World) (hs:s.length≤1000000):Calls Tryz.prog 112 #[.string ⟨s.toArray⟩] w (RetV (.int .i64 (numR s)) w):=by
 refine vm_start [.string ⟨s.toArray⟩] (fn:=Tryz.f112) (c:=nbC) kr kr nle ?_
 intro a hS
 have hS:St nbN [(0,(.string ⟨s.toArray⟩,0))] a:=hS
 have hsz:(ByteArray.mk s.toArray).size=s.length:=str_size s
 refine wp_cut 0 kr ?_
 refine vm_piece (E0:=[(0,(.string ⟨(s).toArray⟩,0))]) kr [] nbN (cPre 0 nbC) kr hS [] [] (VEx.n) [(0,(.string ⟨(s).toArray⟩,0)),(3,(.int .i64 (((0:Nat):Int)),0)),(4,(.int .i64 (((0:Nat):Int)),0))] [] (hQ:=?_)
 intro a1 w1 hS1 hK1 hM1
 refine wp_for 0 kr kr (fun m a' w'=>∃ j n,s.length - j=m∧j≤s.length∧(1≤j→s.length≤5)∧Lib.decFrom 0 (s.take j)=some n∧St nbN [(0,(.string ⟨s.toArray⟩,0)),(3,(.int .i64 (n:Int),0)),(4,(.int .i64 (j:Int),0))] a'∧Chg [] w w') (s.length - 0) ⟨0,0,rfl,by omega,by omega,rfl,hS1,hM1⟩ ?_
 clear hS1 hM1 hS hK1
 rintro m a2 w2 ⟨j,n,rfl,hj,h5,hdf,hS2,hM2⟩
 refine wpL_one ?_
 rcases Nat.lt_or_ge j s.length with hjl | hjl
 ·have h1:decide ((j:Int)<((ByteArray.mk s.toArray).size:Int))=true:=decide_eq_true (by omega)
  have hB:=byte_l s j hjl
  have hg:s[j]?=some s[j]:=List.getElem?_eq_getElem hjl
  have hc256:=(s[j]).toNat_lt
  have v1:IntKind.i64.wrap ((j:Int)+1)=((j+1:Nat):Int):=by rw [wr64 (by omega) (by omega)];omega
  have hbad:((s[j]).toNat<48∨57<(s[j]).toNat)→numR s=0:=fun hd=>by
   unfold numR
   rw [decFrom_none hg hd]
   split <;> rfl
  have hlong:5<s.length→numR s=0:=fun hd=>by
   unfold numR
   rw [if_neg (by omega)]
  have hstep:48≤(s[j]).toNat→(s[j]).toNat≤57→Lib.decFrom 0 (s.take (j+1))=some (n * 10+((s[j]).toNat - 48)):=fun g1 g2 =>
   Lib.decFrom_take s j 0 n s[j] _ hdf hg (by unfold Lib.digitVal;rw [if_pos ⟨g1,g2⟩])
  have hn5:s.length≤5→n≤99999:=fun h=>decFrom_5 hdf (by rw [List.length_take];omega)
  generalize (s[j]).toNat=c at *
  have C1:=gcvU c hc256
  cases q0:decide ((c:Int)<(48:Int)) with
  | true =>
   have h0:=hbad (.inl (by have:=of_decide_eq_true q0;omega))
   refine vm_piece (E0:=[(0,(.string ⟨(s).toArray⟩,0)),(3,(.int .i64 ((n:Int)),0)),(4,(.int .i64 ((j:Int)),0))]) kr [(5,2)] nbN [cI (cI nb0)] kr hS2 [(.p _ true h1),(.p _ true q0),(.p _ true q0),(.p _ true q0),(.p _ true q0),(.p _ true q0),.t,.t,.t,.t,.t] [lV (Instr.index 9 (.string ⟨(s).toArray⟩) (.int .i64 ((j:Int)))) (.int .u8 (c:Int)) (fun w hC=>hB w)] (VEx.r) [(2,(.int .i64 (0),0))] [] (hQ:=?_)
   intro a3 w3 hS3 hK3 hM3
   exact ret_r (vm_out (fn:=Tryz.f112) hS3 (.int .i64 0) (fun g=>by kernel_rfl) ⟨by rw [h0],(hM2.trans hM3).bl0⟩)
  | false =>
  cases q1:decide ((57:Int)<(c:Int)) with
  | true =>
   have h0:=hbad (.inr (by have:=of_decide_eq_true q1;omega))
   refine vm_piece (E0:=[(0,(.string ⟨(s).toArray⟩,0)),(3,(.int .i64 ((n:Int)),0)),(4,(.int .i64 ((j:Int)),0))]) kr [(5,2),(5,7)] nbN [cI (cI nb0)] kr hS2 [(.p _ true h1),(.p _ false q0),(.p _ false q0),(.p _ false q0),(.p _ false q0),(.p _ false q0),(.p _ true q1),(.p _ true q1),(.p _ true q1),(.p _ true q1),.t] [lV (Instr.index 9 (.string ⟨(s).toArray⟩) (.int .i64 ((j:Int)))) (.int .u8 (c:Int)) (fun w hC=>hB w),lV (Instr.index 9 (.string ⟨(s).toArray⟩) (.int .i64 ((j:Int)))) (.int .u8 (c:Int)) (fun w hC=>hB w)] (VEx.r) [(2,(.int .i64 (0),0))] [] (hQ:=?_)
   intro a3 w3 hS3 hK3 hM3
   exact ret_r (vm_out (fn:=Tryz.f112) hS3 (.int .i64 0) (fun g=>by kernel_rfl) ⟨by rw [h0],(hM2.trans hM3).bl0⟩)
  | false =>
  cases q2:decide ((5:Int)<((ByteArray.mk s.toArray).size:Int)) with
  | true =>
   have h0:=hlong (by have:=of_decide_eq_true q2;omega)
   refine vm_piece (E0:=[(0,(.string ⟨(s).toArray⟩,0)),(3,(.int .i64 ((n:Int)),0)),(4,(.int .i64 ((j:Int)),0))]) kr [(5,2),(5,7)] nbN [cI (cI nb0)] kr hS2 [(.p _ true h1),(.p _ false q0),(.p _ false q0),(.p _ false q0),(.p _ false q0),(.p _ false q0),(.p _ false q1),(.p _ false q1),(.p _ false q1),(.p _ false q1),(.p _ true q2)] [lV (Instr.index 9 (.string ⟨(s).toArray⟩) (.int .i64 ((j:Int)))) (.int .u8 (c:Int)) (fun w hC=>hB w),lV (Instr.index 9 (.string ⟨(s).toArray⟩) (.int .i64 ((j:Int)))) (.int .u8 (c:Int)) (fun w hC=>hB w)] (VEx.r) [(2,(.int .i64 (0),0))] [] (hQ:=?_)
   intro a3 w3 hS3 hK3 hM3
   exact ret_r (vm_out (fn:=Tryz.f112) hS3 (.int .i64 0) (fun g=>by kernel_rfl) ⟨by rw [h0],(hM2.trans hM3).bl0⟩)
  | false =>
   have g0:=of_decide_eq_false q0
   have g1:=of_decide_eq_false q1
   have g2:=of_decide_eq_false q2
   have hst:=hstep (by omega) (by omega)
   have hn9:=hn5 (by omega)
   obtain ⟨d,hd⟩:∃ d,c - 48=d:=⟨_,rfl⟩
   rw [hd] at hst
   have w1:IntKind.i64.wrap (10 * (n:Int))=((10 * n:Nat):Int):=by rw [wr64 (by omega) (by omega)];omega
   have w2':IntKind.u8.wrap ((c:Int) - 48)=(d:Int):=by
    show ((c:Int) - 48) % 256=d
    omega
   have C2:=gcvU d (by omega)
   have w3':IntKind.i64.wrap (((10 * n:Nat):Int)+(d:Int))=((n * 10+d:Nat):Int):=by rw [wr64 (by omega) (by omega)];omega
   refine vm_piece (E0:=[(0,(.string ⟨(s).toArray⟩,0)),(3,(.int .i64 ((n:Int)),0)),(4,(.int .i64 ((j:Int)),0))]) kr [(5,2),(5,7),(7,1),(7,4),(7,5),(7,6),(7,7),(4,1)] nbN [cI (cI nb0)] kr hS2 [(.p _ true h1),(.p _ false q0),(.p _ false q0),(.p _ false q0),(.p _ false q0),(.p _ false q0),(.p _ false q1),(.p _ false q1),(.p _ false q1),(.p _ false q1),(.p _ false q2)] [lV (Instr.index 9 (.string ⟨(s).toArray⟩) (.int .i64 ((j:Int)))) (.int .u8 (c:Int)) (fun w hC=>hB w),lV (Instr.index 9 (.string ⟨(s).toArray⟩) (.int .i64 ((j:Int)))) (.int .u8 (c:Int)) (fun w hC=>hB w),lE .i64 (((10):Int) * (((n:Int)):Int)) (((10 * n:Nat):Int)) (w1),lV (Instr.index 9 (.string ⟨(s).toArray⟩) (.int .i64 ((j:Int)))) (.int .u8 (c:Int)) (fun w hC=>hB w),lE .u8 ((((c:Int)):Int) - ((48):Int)) ((d:Int)) (w2'),lV (convert 5 3 (.int .u8 (d:Int))) (.int .i64 (d:Int)) (fun w hC=>C2 w),lE .i64 (((((10 * n:Nat):Int)):Int)+(((d:Int)):Int)) (((n * 10+d:Nat):Int)) (w3'),lE .i64 ((((j:Int)):Int)+((1):Int)) (((j+1:Nat):Int)) (v1)] (VEx.n) [(0,(.string ⟨(s).toArray⟩,0)),(3,(.int .i64 (((n * 10+d:Nat):Int)),0)),(4,(.int .i64 (((j+1:Nat):Int)),0))] [] (hQ:=?_)
   intro a3 w3 hS3 hK3 hM3
   exact ⟨s.length - (j+1),by omega,j+1,n * 10+d,rfl,by omega,fun _=>by omega,hst,hS3,hM2.trans hM3⟩
 ·have h1:decide ((j:Int)<((ByteArray.mk s.toArray).size:Int))=false:=decide_eq_false (by omega)
  obtain rfl:j=s.length:=by omega
  rw [List.take_length] at hdf
  have hl5:s.length≤5:=by
   rcases Nat.eq_zero_or_pos s.length with h | h
   ·omega
   ·exact h5 h
  have hn9:=decFrom_5 hdf hl5
  have D:=gndigits_any n (by omega)
  have hr:numR s=if dgN n=s then (n:Int) else 0:=by unfold numR;rw [if_pos hl5,hdf]
  refine vm_piece (E0:=[(0,(.string ⟨(s).toArray⟩,0)),(3,(.int .i64 ((n:Int)),0)),(4,(.int .i64 (((s.length:Nat):Int)),0))]) kr [] nbN [cI (cI nb0)] kr hS2 [(.p _ false h1)] [] (VEx.x 0) [(0,(.string ⟨(s).toArray⟩,0)),(3,(.int .i64 ((n:Int)),0)),(4,(.int .i64 (((s.length:Nat):Int)),0))] [] (hQ:=?_)
  intro a3 w3 hS3 hK3 hM3
  refine exit_n (then_n ?_)
  generalize dgN n=q at *
  have hbq:∀ {b:Bool},((ByteArray.mk q.toArray).toList != (ByteArray.mk s.toArray).toList)=b→(!(q == s))=b:=fun h=>by rw [← str_beq q s];exact h
  cases q0:(((ByteArray.mk (q).toArray).toList != (ByteArray.mk (s).toArray).toList)) with
  | true =>
   refine vm_piece (E0:=[(0,(.string ⟨(s).toArray⟩,0)),(3,(.int .i64 ((n:Int)),0)),(4,(.int .i64 (((s.length:Nat):Int)),0))]) kr [] nbN (cPost 0 nbC) kr hS3 [dT q0] [cV (D)] (VEx.r) [(2,(.int .i64 (0),0))] [] (hQ:=?_)
   intro a4 w4 hS4 hK4 hM4
   have hb4:=((hM2.trans hM3).trans hM4).bl0
   exact vm_out (fn:=Tryz.f112) hS4 (.int .i64 0) (fun g=>by kernel_rfl) ⟨by rw [hr,if_neg (by have:=hbq q0;simpa using this)],hb4⟩
  | false =>
   refine vm_piece (E0:=[(0,(.string ⟨(s).toArray⟩,0)),(3,(.int .i64 ((n:Int)),0)),(4,(.int .i64 (((s.length:Nat):Int)),0))]) kr [] nbN (cPost 0 nbC) kr hS3 [dF q0] [cV (D)] (VEx.r) [(2,(.int .i64 ((n:Int)),0))] [] (hQ:=?_)
   intro a4 w4 hS4 hK4 hM4
   have hb4:=((hM2.trans hM3).trans hM4).bl0
   exact vm_out (fn:=Tryz.f112) hS4 (.int .i64 (n:Int)) (fun g=>by kernel_rfl) ⟨by rw [hr,if_pos (by have:=hbq q0;simpa using this)],hb4⟩
end Go.Proofs.YtlhddcingeneaaaGreatDoor
