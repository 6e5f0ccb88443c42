/- Digits of a number (reference). -/
import Derived.Test.YtlhddcingeneaaaGreatDoorPSX
namespace Go.Proofs.YtlhddcingeneaaaGreatDoor
open Go Go.RowKit
set_option maxRecDepth 100000
set_option linter.unusedVariables false
set_option linter.unusedSimpArgs false
def dgN (k:Nat):List UInt8:=if k=0 then [] else Lib.decDigits k
theorem dgN_step {k:Nat} (h:0<k):dgN k=dgN (k / 10) ++ [UInt8.ofNat (48+k % 10)]:=by
 unfold dgN
 rw [if_neg (by omega)]
 by_cases h10:k<10
 ·rw [if_pos (by omega),Lib.decDigits_one h10,Nat.mod_eq_of_lt h10];rfl
 ·rw [if_neg (by omega),Lib.decDigits,dif_neg h10]
theorem dgN_len:∀ k:Nat,(dgN k).length≤k:=by
 intro k
 induction k using Nat.strongRecOn with
 | _ k ih =>
  by_cases h:0<k
  ·rw [dgN_step h,List.length_append]
   have:=ih (k / 10) (by omega)
   simp only [List.length_singleton]
   omega
  ·obtain rfl:k=0:=by omega
   exact Nat.le_refl _
theorem g10rem (k:Nat) (w:World):(Op.intDiv .rem .i64 (k:Int) 10).run Tryz.prog w = .ok (.int .i64 ((k % 10:Nat):Int)) w:=by
 have e:(k:Int).tmod 10=((k % 10:Nat):Int):=by rw [Int.tmod_eq_emod_of_nonneg (by omega)];rfl
 unfold Op.intDiv
 rw [if_neg (by decide)]
 simp only [e]
 rfl
theorem g10quo (k:Nat) (hk:k≤1000000) (w:World):(Op.intDiv .quo .i64 (k:Int) 10).run Tryz.prog w = .ok (.int .i64 ((k / 10:Nat):Int)) w:=by
 have e:(k:Int).tdiv 10=((k / 10:Nat):Int):=by rw [Int.tdiv_eq_ediv_of_nonneg (by omega)];rfl
 have e2:IntKind.i64.wrap ((k / 10:Nat):Int)=((k / 10:Nat):Int):=wr64 (by omega) (by omega)
 unfold Op.intDiv
 rw [if_neg (by decide)]
 simp only [e,e2]
 rfl
theorem gcv8 (k:Nat) (hk:k<256) (w:World):(convert 3 5 (.int .i64 (k:Int))).run Tryz.prog w = .ok (.int .u8 (k:Int)) w:=by
 have:IntKind.u8.wrap (k:Int)=k:=by
  show (k:Int) % 256=k
  omega
 go_simp
 try rw [this]
theorem gcvS (c:UInt8) {b:Nat} {w:World} (h:Hc w b 5 #[.int .u8 (c.toNat:Int)]):(convert 126 9 (.slice (some ⟨b,0,none⟩) 1 1)).run Tryz.prog w = .ok (.string ⟨[c].toArray⟩) w:=by
 have h0:w.cell? ⟨b,0,none⟩=some (.int .u8 (c.toNat:Int)):=h.cells rfl
 exact run_convert_bytes_back (P:=Tryz.prog) w 126 9 5 ⟨b,0,none⟩ 1 [c] Tryz.underlying126 Tryz.underlying5 Tryz.underlying9 (fun j hj=>by
  obtain rfl:j=0:=by simpa using hj
  exact h0)
theorem gadd (a b:List UInt8) (ha:a.length≤5000000) (hb:b.length≤5000000) (w:World):(Op.stringOp .add ⟨a.toArray⟩ ⟨b.toArray⟩).run Tryz.prog w = .ok (.string ⟨(a++b).toArray⟩) w:=by
 have h:=run_string_add_sum (P:=Tryz.prog) (w:=w) ⟨a.toArray⟩ ⟨b.toArray⟩ (by rw [str_size,str_size];omega)
 have e:(⟨a.toArray⟩:ByteArray)++⟨b.toArray⟩=⟨(a++b).toArray⟩:=by
  apply ByteArray.ext
  simp
 rwa [e] at h
noncomputable def ddN:Nat:=Tryz.f63.ntmps
noncomputable def ddC:Code:=Tryz.f63.body.getD .skip
noncomputable def dd0:Code:=cB 0 ddC
theorem gndigits_any (k0:Nat) (hk:k0≤1000000) (w:World):Calls Tryz.prog 63 #[.int .i64 (k0:Int)] w (RetV (.string ⟨(dgN k0).toArray⟩) w):=by
 refine vm_start [.int .i64 (k0:Int)] (fn:=Tryz.f63) (c:=ddC) kr kr nle ?_
 intro a hS
 have hS:St ddN [(0,(.int .i64 (k0:Int),0))] a:=hS
 refine wp_cut 0 kr ?_
 refine vm_piece (E0:=[(0,(.int .i64 ((k0:Int)),0))]) kr [] ddN (cPre 0 ddC) kr hS [] [] (VEx.n) [(0,(.int .i64 ((k0:Int)),0)),(3,(.string ⟨[].toArray⟩,0))] [] (hQ:=?_)
 intro a1 w1 hS1 hK1 hM1
 refine wp_for 0 kr kr (fun n a' w'=>∃ k s,k=n∧k≤k0∧dgN k0=dgN k++s∧St ddN [(0,(.int .i64 (k:Int),0)),(3,(.string ⟨s.toArray⟩,0))] a'∧Below w.heap.size w w') k0 ⟨k0,[],rfl,Nat.le_refl _,by simp,hS1,hM1.bl0⟩ ?_
 clear hS1 hM1 hS hK1
 rintro n a2 w2 ⟨k,s,rfl,hkk,hdg,hS2,hB2⟩
 refine wpL_one ?_
 have hsl:s.length≤1000000:=by
  have:=dgN_len k0
  rw [hdg,List.length_append] at this
  omega
 rcases Nat.eq_zero_or_pos k with rfl | hp
 ·have h1:decide ((0:Int)<((0:Nat):Int))=false:=by decide
  refine vm_piece (E0:=[(0,(.int .i64 (((0:Nat):Int)),0)),(3,(.string ⟨(s).toArray⟩,0))]) kr [] ddN [cI (cI dd0)] kr hS2 [(.p _ false h1)] [] (VEx.x 0) [(0,(.int .i64 (((0:Nat):Int)),0)),(3,(.string ⟨(s).toArray⟩,0))] [] (hQ:=?_)
  intro a3 w3 hS3 hK3 hM3
  refine exit_n (then_n ?_)
  refine vm_piece (E0:=[(0,(.int .i64 (((0:Nat):Int)),0)),(3,(.string ⟨(s).toArray⟩,0))]) kr [] ddN (cPost 0 ddC) kr hS3 [] [] (VEx.r) [(2,(.string ⟨(s).toArray⟩,0))] [] (hQ:=?_)
  intro a4 w4 hS4 hK4 hM4
  have hb4:=(hM3.trans hM4).bl0
  refine vm_out (fn:=Tryz.f63) hS4 (.string ⟨s.toArray⟩) (fun g=>by kernel_rfl) ⟨?_,hB2.trans (hb4.mono hB2.size)⟩
  rw [hdg];rfl
 ·have h1:decide ((0:Int)<(k:Int))=true:=decide_eq_true (by omega)
  have v1:IntKind.i64.wrap (48+((k % 10:Nat):Int))=((48+k % 10:Nat):Int):=by rw [wr64 (by omega) (by omega)];omega
  have R1:=g10rem k
  have Q1:=g10quo k (by omega)
  have C1:=gcv8 (48+k % 10) (by omega)
  have hc:((UInt8.ofNat (48+k % 10)).toNat:Int)=((48+k % 10:Nat):Int):=by
   rw [UInt8.toNat_ofNat_of_lt' (by show _<256;omega)]
  have hst:=dgN_step hp
  have V1:=fun {b:Nat} {w:World} h=>gcvS (UInt8.ofNat (48+k % 10)) (b:=b) (w:=w) h
  rw [hc] at V1
  generalize UInt8.ofNat (48+k % 10)=ch at *
  generalize 48+k % 10=q at *
  have A1:=fun w=>gadd [ch] s (by simp) (by omega) w
  refine vm_fragA (X:=⟨w2,[]⟩) kr [(3,1),(3,2),(3,3),(3,5),(3,7),(4,1)] ddN [cI (cI dd0)] (ne_nil kr) (fun r=>[(0,(.int .i64 ((k:Int)),0)),(3,(.string ⟨(s).toArray⟩,0))]) (fun r=>[]) 0 (fun _=>(0,0)) (hS2) (memOk0 w2 _) (fun r hr=>⟨rfl,rfl⟩) (keysLt_all kr) [(.p _ true h1)] [lV (Op.intDiv .rem .i64 (((k:Int)):Int) ((10):Int)) (.int .i64 (((k % 10:Nat):Int))) (fun w hC=>R1 w),lE .i64 (((48):Int)+((((k % 10:Nat):Int)):Int)) ((q:Int)) (v1),lV (convert 3 5 (.int .i64 (q:Int))) (.int .u8 (q:Int)) (fun w hC=>C1 w),lB 6 5 #[.int .u8 (q:Int)] (fun b=>convert 126 9 (.slice (some ⟨b,0,none⟩) 1 1)) (fun b=>.string ⟨[ch].toArray⟩) 0 (fun b w hC hB=>V1 hB),lV (Op.stringOp .add ⟨[ch].toArray⟩ ⟨s.toArray⟩) (.string ⟨([ch]++s).toArray⟩) (fun w hC=>A1 w),lV (Op.intDiv .quo .i64 (((k:Int)):Int) ((10):Int)) (.int .i64 (((k / 10:Nat):Int))) (fun w hC=>Q1 w)] (VEx.n) (fun r=>[(0,(.int .i64 (((k / 10:Nat):Int)),0)),(3,(.string ⟨(([ch]++s)).toArray⟩,0))]) [] (fun r=>[]) (fun r g=>by kernel_rfl) (fun r g=>by kernel_rfl) ?_
  intro r a3 w3 hr hS3 hK3 hM3
  refine ⟨k / 10,by omega,k / 10,[ch]++s,rfl,by omega,by rw [hdg,hst,List.append_assoc],hS3.re rfl,hB2.trans (hM3.below.bl0.mono hB2.size)⟩
end Go.Proofs.YtlhddcingeneaaaGreatDoor
