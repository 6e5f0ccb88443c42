import Derived.Test.YtlhddcingeneaaaGreatDoorPNI
import Derived.Test.YtlhddcingeneaaaGreatDoorPNE
import Derived.Test.YtlhddcingeneaaaGreatDoorPNC2
import Derived.Test.YtlhddcingeneaaaGreatDoorPND
/- The reference's field: numbers of small integers as machine words. -/
set_option linter.unusedVariables false
set_option linter.unusedSimpArgs false
set_option maxRecDepth 100000
set_option maxHeartbeats 8000000
namespace Go.Proofs.YtlhddcingeneaaaGreatDoor
open Go Go.RowKit
def nR (r:Rw) (i:Nat):Bool:=match i with
 | 0=>r.n0
 | 1=>r.n1
 | 2=>r.n2
 | 3=>r.n3
 | _=>r.n4
def sR (r:Rw) (i:Nat):ByteArray:=match i with
 | 0=>r.s0
 | 1=>r.s1
 | 2=>r.s2
 | 3=>r.s3
 | _=>r.s4
def zR5 (r:Rw) (i:Nat):Int:=ival (nR r i) (sR r i)
def rwC (r:Rw):Array Value:=#[.bool r.n0,.string r.s0,.bool r.n1,.string r.s1,.bool r.n2,.string r.s2,.bool r.n3,.string r.s3,.bool r.n4,.string r.s4]
def c5 (q:Nat→Int):Array Value:=#[.int .i64 (q 0),.int .i64 (q 1),.int .i64 (q 2),.int .i64 (q 3),.int .i64 (q 4)]
def z5:Array Value:=#[.int .i64 0,.int .i64 0,.int .i64 0,.int .i64 0,.int .i64 0]
def pz (z:Nat→Int) (i:Nat):Nat→Int:=fun t=>bif Nat.blt t i then z t else 0
theorem pz_succ (z:Nat→Int) (i:Nat):upd (pz z i) i (z i)=pz z (i+1):=by
 funext t
 unfold upd pz
 cases h:Nat.beq t i with
 | true =>
  rw [Nat.eq_of_beq_eq_true h]
  have:Nat.blt i (i+1)=true:=by rw [Nat.blt_eq];omega
  rw [this];rfl
 | false =>
  have hne:t≠i:=fun e=>by rw [e] at h;simp at h
  have:Nat.blt t i=Nat.blt t (i+1):=by
   rw [Bool.eq_iff_iff]
   simp only [Nat.blt_eq]
   omega
  rw [cond_false,this]
theorem upd_upd (q:Nat→Int) (i:Nat) (a b:Int):upd (upd q i a) i b=upd q i b:=by
 funext t
 unfold upd
 cases Nat.beq t i <;> rfl
theorem cases5 {i:Nat} (hi:i<5):i=0∨i=1∨i=2∨i=3∨i=4:=by omega
noncomputable def gwN:Nat:=Tryz.f50.ntmps
noncomputable def gwC:Code:=Tryz.f50.body.getD .skip
noncomputable def gw0:Code:=cB 0 gwC
noncomputable def gw2:Code:=cB 2 gwC
theorem conv8 (n:Nat) (h:n<256) (w:World):(convert 5 3 (.int .u8 (n:Int))).run Tryz.prog w = .ok (.int .i64 (n:Int)) w:=by
 have:IntKind.i64.wrap (n:Int)=n:=wr64 (by omega) (by omega)
 go_simp
 try rw [this]
theorem gw_bytes {u:Rw} {z:Nat→Int} {X:Cx} {rn:Nat→Nat} {i:Nat} {a:Act} {w:World} {Q:Exit→Act→World→Prop} (hi:i<5) (hs:(sR u i).size≤3)
  (hM:MemOk X rn [(0,(28,rwC u)),(1,(85,z5)),(3,(85,c5 (upd (pz z i) i 0))),(102,(25,#[.bool (nR u i),.string (sR u i)]))] w)
  (hS:St gwN [(7,(.int .i64 ((0:Nat):Int),0)),(5,(.int .i64 (i:Int),0)),(4,(.pointer (some ⟨rn 3,0,none⟩),4)),(6,(.pointer (some ⟨rn 102,0,none⟩),103))] a)
  (hQ:∀ a' w',St gwN [] a'→Kp (keeps gw2 gwN) a a'→MemOk X rn [(0,(28,rwC u)),(1,(85,z5)),(3,(85,c5 (upd (pz z i) i (sv (sR u i):Nat)))),(102,(25,#[.bool (nR u i),.string (sR u i)]))] w'→Q .normal a' w'):gw2.wp Tryz.prog Q a w:=by
 have c5i:=cases5 hi
 refine wp_for 2 kr kr (fun n a' w'=>∃ k,(sR u i).size - k=n∧k≤(sR u i).size∧Kp (keeps gw2 gwN) a a'∧St gwN [(7,(.int .i64 (k:Int),0)),(5,(.int .i64 (i:Int),0)),(4,(.pointer (some ⟨rn 3,0,none⟩),4)),(6,(.pointer (some ⟨rn 102,0,none⟩),103))] a' ∧
  MemOk X rn [(0,(28,rwC u)),(1,(85,z5)),(3,(85,c5 (upd (pz z i) i (be ((sR u i).data.toList.take k):Nat)))),(102,(25,#[.bool (nR u i),.string (sR u i)]))] w') (sR u i).size ⟨0,rfl,by omega,Kp.refl _ _,hS,hM⟩ ?_
 rintro n a1 w1 ⟨k,rfl,hk,hK1,hS1,hM1⟩
 refine wpL_one ?_
 rcases Nat.lt_or_ge k (sR u i).size with hk1 | hk1
 ·have h1:decide ((k:Int)<((sR u i).size:Int))=true:=decide_eq_true (by omega)
  have hb:=be_take (sR u i) k hk1
  have hlt:=be_take_lt (sR u i) k
  have hp:256 ^ k≤256 ^ 2:=Nat.pow_le_pow_right (by decide) (by omega)
  have hB:=byte_run (sR u i) k hk1
  have h8:(sR u i)[k].toNat<256:=(sR u i)[k].toNat_lt
  generalize (sR u i)[k].toNat=b at *
  generalize be ((sR u i).data.toList.take k)=m at *
  rw [show 256 ^ 2=65536 from rfl] at hp
  have hC:=conv8 b h8
  have v1:IntKind.i64.wrap ((m:Int) * 2 ^ (8:Nat))=((m * 256:Nat):Int):=by rw [wr64 (by omega) (by omega)];omega
  have v2:IntKind.i64.wrap (((m * 256:Nat):Int)+(b:Int))=((m * 256+b:Nat):Int):=by rw [wr64 (by omega) (by omega)];omega
  have v3:IntKind.i64.wrap ((k:Int)+1)=((k+1:Nat):Int):=by rw [wr64 (by omega) (by omega)];omega
  obtain ⟨m',hm'⟩:∃ m',m'=be ((sR u i).data.toList.take (k+1)):=⟨_,rfl⟩
  rw [← hb,← hm'] at v2
  have e:upd (upd (pz z i) i (m:Int)) i (m':Int)=upd (pz z i) i (m':Int):=upd_upd _ _ _ _
  refine vm_keep (X:=X) kr [(13,4),(13,8),(13,9),(13,10),(12,1)] gwN [cI (cI gw2)] (ne_nil kr) (fun r=>[(7,(.int .i64 ((k:Int)),0)),(5,(.int .i64 ((i:Int)),0)),(4,(.pointer (some ⟨r 3,0,none⟩),4)),(6,(.pointer (some ⟨r 102,0,none⟩),103))]) (fun r=>[(0,(28,rwC u)),(1,(85,z5)),(3,(85,c5 (upd (pz z i) i (m:Int)))),(102,(25,#[.bool (nR u i),.string (sR u i)]))]) 110 (rn) (hS1) (hM1) (fun r hr=>⟨by simp only [hr 3 (by omega),hr 102 (by omega)],rfl⟩) (keysLt_all kr) [(.p _ true h1)] [lP (.int .i64 (IntKind.i64.wrap ((m:Int) * 2 ^ (8:Nat)))) (.int .i64 ((m * 256:Nat):Int)) (congrArg (Value.int .i64) v1),lV (Instr.index 9 (.string (sR u i)) (.int .i64 (k:Int))) (.int .u8 (b:Int)) (fun w hC=>hB w),lV (convert 5 3 (.int .u8 (b:Int))) (.int .i64 (b:Int)) (fun w hh=>hC w),lE .i64 (((((m * 256:Nat):Int)):Int)+(((b:Int)):Int)) ((m':Int)) (v2),lE .i64 ((((k:Int)):Int)+((1):Int)) (((k+1:Nat):Int)) (v3)] (VEx.n) (fun r=>[(7,(.int .i64 (((k+1:Nat):Int)),0)),(5,(.int .i64 ((i:Int)),0)),(4,(.pointer (some ⟨r 3,0,none⟩),4)),(6,(.pointer (some ⟨r 102,0,none⟩),103))]) (keeps gw2 gwN) (fun r=>[(0,(28,rwC u)),(1,(85,z5)),(3,(85,c5 (upd (upd (pz z i) i (m:Int)) i (m':Int)))),(102,(25,#[.bool (nR u i),.string (sR u i)]))]) (fun r hr=>⟨by simp only [hr 3 (by omega),hr 102 (by omega)],rfl⟩) (keysLt_all kr) (fun r g=>by obtain rfl | rfl | rfl | rfl | rfl:=c5i <;> kernel_rfl) (fun r g=>by obtain rfl | rfl | rfl | rfl | rfl:=c5i <;> kernel_rfl) ?_
  intro a2 w2 hS2 hK2 hM2
  rw [e,hm'] at hM2
  exact ⟨(sR u i).size - (k+1),by omega,k+1,rfl,by omega,hK1.trans hK2,hS2,hM2⟩
 ·obtain rfl:k=(sR u i).size:=by omega
  have h1:decide ((((sR u i).size:Nat):Int)<((sR u i).size:Int))=false:=decide_eq_false (by omega)
  rw [be_take_all _ _ (Nat.le_refl _)] at hM1
  refine vm_keep (X:=X) kr [] gwN [cI (cI gw2)] (ne_nil kr) (fun r=>[(7,(.int .i64 ((((sR u i).size:Nat):Int)),0)),(5,(.int .i64 ((i:Int)),0)),(4,(.pointer (some ⟨r 3,0,none⟩),4)),(6,(.pointer (some ⟨r 102,0,none⟩),103))]) (fun r=>[(0,(28,rwC u)),(1,(85,z5)),(3,(85,c5 (upd (pz z i) i (sv (sR u i):Nat)))),(102,(25,#[.bool (nR u i),.string (sR u i)]))]) 110 (rn) (hS1) (hM1) (fun r hr=>⟨by simp only [hr 3 (by omega),hr 102 (by omega)],rfl⟩) (keysLt_all kr) [(.p _ false h1)] [] (VEx.x 2) (fun r=>[]) (keeps gw2 gwN) (fun r=>[(0,(28,rwC u)),(1,(85,z5)),(3,(85,c5 (upd (pz z i) i (sv (sR u i):Nat)))),(102,(25,#[.bool (nR u i),.string (sR u i)]))]) (fun r hr=>⟨rfl,rfl⟩) (keysLt_all kr) (fun r g=>by obtain rfl | rfl | rfl | rfl | rfl:=c5i <;> kernel_rfl) (fun r g=>by obtain rfl | rfl | rfl | rfl | rfl:=c5i <;> kernel_rfl) ?_
  intro a2 w2 hS2 hK2 hM2
  exact exit_n (hQ a2 w2 hS2 (hK1.trans hK2) hM2)
def sm (u:Rw) (i:Nat):Prop:=(sR u i).size≤3∧vld (nR u i) (sR u i)=true
theorem sv3 {s:ByteArray} (h:s.size≤3):sv s<16777216:=by
 have h1:=be_take_lt s s.size
 rw [be_take_all _ _ (Nat.le_refl _)] at h1
 exact Nat.lt_of_lt_of_le h1 (Nat.le_trans (Nat.pow_le_pow_right (by decide) h) (by decide))
theorem gw_bad {u:Rw} {X:Cx} {rn:Nat→Nat} {i:Nat} {a:Act} {w:World} {post:Ending→World→Prop} {Q:Exit→Act→World→Prop} (hi:i<5) (hb:¬ sm u i) (hq:∀ a' w',bodyPost Tryz.prog Tryz.f50 post .ret a' w'→Q .ret a' w')
  (hM:MemOk X rn [(0,(28,rwC u)),(1,(85,z5)),(3,(85,c5 (pz (zR5 u) i)))] w)
  (hS:St gwN [(5,(.int .i64 (i:Int),0)),(1,(.pointer (some ⟨rn 0,0,none⟩),1)),(2,(.pointer (some ⟨rn 1,0,none⟩),2)),(4,(.pointer (some ⟨rn 3,0,none⟩),4))] a)
  (hp:∀ w',Chg X.L X.w0 w'→post (.returned (.tuple #[.agg (c5 (pz (zR5 u) i)),.bool false])) w'):(cI (cI gw0)).wp Tryz.prog Q a w:=by
 have c5i:=cases5 hi
 refine wpL_one ?_
 by_cases hs:(sR u i).size≤3
 ·have h3:decide ((3:Int)<((sR u i).size:Int))=false:=decide_eq_false (by omega)
  have V:∀ w,Calls Tryz.prog 54 #[.agg #[.bool (nR u i),.string (sR u i)]] w (RetB false w):=fun w=>RValid_no _ _ w (by
   cases hv:vld (nR u i) (sR u i) with
   | false=>rfl
   | true=>exact absurd ⟨hs,hv⟩ hb)
  refine vm_keep (X:=X) kr [] gwN [cI (cI gw0)] (ne_nil kr) (fun r=>[(5,(.int .i64 ((i:Int)),0)),(1,(.pointer (some ⟨r 0,0,none⟩),1)),(2,(.pointer (some ⟨r 1,0,none⟩),2)),(4,(.pointer (some ⟨r 3,0,none⟩),4))]) (fun r=>[(0,(28,rwC u)),(1,(85,z5)),(3,(85,c5 (pz (zR5 u) i)))]) 100 (rn) (hS) (hM) (fun r hr=>⟨by simp only [hr 0 (by omega),hr 1 (by omega),hr 3 (by omega)],rfl⟩) (keysLt_all kr) [.t,(bif Nat.beq i 4 then Dec.f else Dec.t),(.p _ false h3),(.p _ false h3),(.p _ false h3),(.p _ false h3),.t] [cV (V)] (VEx.r) (fun r=>[(2,(.pointer (some ⟨r 1,0,none⟩),2)),(3,(.bool false,0))]) [] (fun r=>[(1,(85,c5 (pz (zR5 u) i)))]) (fun r hr=>⟨by simp only [hr 1 (by omega)],rfl⟩) (keysLt_all kr) (fun r g=>by obtain rfl | rfl | rfl | rfl | rfl:=c5i <;> kernel_rfl) (fun r g=>by obtain rfl | rfl | rfl | rfl | rfl:=c5i <;> kernel_rfl) ?_
  intro a' w' hS' hK' hM'
  exact hq _ _ (vm_ret (fn:=Tryz.f50) hS' hM' (.tuple #[.agg (c5 (pz (zR5 u) i)),.bool false]) (fun g=>by kernel_rfl) (hp w' hM'.below))
 ·have h3:decide ((3:Int)<((sR u i).size:Int))=true:=decide_eq_true (by omega)
  refine vm_keep (X:=X) kr [] gwN [cI (cI gw0)] (ne_nil kr) (fun r=>[(5,(.int .i64 ((i:Int)),0)),(1,(.pointer (some ⟨r 0,0,none⟩),1)),(2,(.pointer (some ⟨r 1,0,none⟩),2)),(4,(.pointer (some ⟨r 3,0,none⟩),4))]) (fun r=>[(0,(28,rwC u)),(1,(85,z5)),(3,(85,c5 (pz (zR5 u) i)))]) 100 (rn) (hS) (hM) (fun r hr=>⟨by simp only [hr 0 (by omega),hr 1 (by omega),hr 3 (by omega)],rfl⟩) (keysLt_all kr) [.t,(bif Nat.beq i 4 then Dec.f else Dec.t),(.p _ true h3),(.p _ true h3),(.p _ true h3),(.p _ true h3),.t] [] (VEx.r) (fun r=>[(2,(.pointer (some ⟨r 1,0,none⟩),2)),(3,(.bool false,0))]) [] (fun r=>[(1,(85,c5 (pz (zR5 u) i)))]) (fun r hr=>⟨by simp only [hr 1 (by omega)],rfl⟩) (keysLt_all kr) (fun r g=>by obtain rfl | rfl | rfl | rfl | rfl:=c5i <;> kernel_rfl) (fun r g=>by obtain rfl | rfl | rfl | rfl | rfl:=c5i <;> kernel_rfl) ?_
  intro a' w' hS' hK' hM'
  exact hq _ _ (vm_ret (fn:=Tryz.f50) hS' hM' (.tuple #[.agg (c5 (pz (zR5 u) i)),.bool false]) (fun g=>by kernel_rfl) (hp w' hM'.below))
theorem pz_self (z:Nat→Int) (i:Nat):upd (pz z i) i 0=pz z i:=by
 have h:pz z i i=0:=by
  unfold pz
  cases hb:Nat.blt i i with
  | false=>rfl
  | true=>rw [Nat.blt_eq] at hb;omega
 have:=upd_same (pz z i) i
 rwa [h] at this
theorem gwords_at (u:Rw) (stop:Nat) (w:World) (hs:stop≤5) (good:∀ j,j<stop→sm u j) (bad:stop<5→¬ sm u stop):Calls Tryz.prog 50 #[vR u] w (RetV (.tuple #[.agg (c5 (pz (zR5 u) stop)),.bool (Nat.beq stop 5)]) w):=by
 refine vm_start [vR u] (fn:=Tryz.f50) (c:=gwC) kr kr nle ?_
 intro a hS
 refine wp_cut 0 kr ?_
 refine vf (X:=⟨w,[]⟩) [] gwN (cPre 0 gwC) (fun r=>[(0,(vR u,0))]) (fun r=>[]) 0 (fun _=>0) (hS) (⟨Chg.refl _ _,fun k x h=>(by cases h),fun k k' x x' h=>by cases h⟩) [] [] (VEx.n) (fun r=>[(5,(.int .i64 (((0:Nat):Int)),0)),(1,(.pointer (some ⟨r 0,0,none⟩),1)),(2,(.pointer (some ⟨r 1,0,none⟩),2)),(4,(.pointer (some ⟨r 3,0,none⟩),4))]) [] (fun r=>[(0,(28,rwC u)),(1,(85,z5)),(3,(85,c5 (pz (zR5 u) 0)))]) ?_
 intro rn a1 w1 hr hS1 hK1 hM1
 refine wp_for 0 kr kr (fun n a' w'=>∃ i,stop - i=n∧i≤stop∧St gwN [(5,(.int .i64 (i:Int),0)),(1,(.pointer (some ⟨rn 0,0,none⟩),1)),(2,(.pointer (some ⟨rn 1,0,none⟩),2)),(4,(.pointer (some ⟨rn 3,0,none⟩),4))] a' ∧
  MemOk ⟨w,[]⟩ rn [(0,(28,rwC u)),(1,(85,z5)),(3,(85,c5 (pz (zR5 u) i)))] w') stop ⟨0,rfl,by omega,hS1,hM1⟩ ?_
 clear hM1 hS1
 rintro n a2 w2 ⟨i,rfl,hi,hS2,hM2⟩
 rcases Nat.lt_or_ge i stop with hlt | hge
 ·have hi5:i<5:=by omega
  have c5i:=cases5 hi5
  obtain ⟨hz,hv⟩:=good i hlt
  have hsv:=sv3 hz
  have h3:decide ((3:Int)<((sR u i).size:Int))=false:=decide_eq_false (by omega)
  have V:∀ w,Calls Tryz.prog 54 #[.agg #[.bool (nR u i),.string (sR u i)]] w (RetB true w):=fun w=>by have:=RValid_any (nR u i) (sR u i) w;rwa [hv] at this
  refine wp_cut 1 kr ?_
  refine vm_keep (X:=⟨w,[]⟩) kr [] gwN (cPre 1 (cI (cI gw0))) (ne_nil kr) (fun r=>[(5,(.int .i64 ((i:Int)),0)),(1,(.pointer (some ⟨r 0,0,none⟩),1)),(2,(.pointer (some ⟨r 1,0,none⟩),2)),(4,(.pointer (some ⟨r 3,0,none⟩),4))]) (fun r=>[(0,(28,rwC u)),(1,(85,z5)),(3,(85,c5 (pz (zR5 u) i)))]) 100 (rn) (hS2) (hM2) (fun r hr=>⟨by simp only [hr 0 (by omega),hr 1 (by omega),hr 3 (by omega)],rfl⟩) (keysLt_all kr) [.t] [] (VEx.n) (fun r=>[(5,(.int .i64 ((i:Int)),0)),(1,(.pointer (some ⟨r 0,0,none⟩),1)),(2,(.pointer (some ⟨r 1,0,none⟩),2)),(4,(.pointer (some ⟨r 3,0,none⟩),4))]) [] (fun r=>[(0,(28,rwC u)),(1,(85,z5)),(3,(85,c5 (pz (zR5 u) i)))]) (fun r hr=>⟨by simp only [hr 0 (by omega),hr 1 (by omega),hr 3 (by omega)],rfl⟩) (keysLt_all kr) (fun r g=>by obtain rfl | rfl | rfl | rfl | rfl:=c5i <;> kernel_rfl) (fun r g=>by obtain rfl | rfl | rfl | rfl | rfl:=c5i <;> kernel_rfl) ?_
  intro a3 w3 hS3 hK3 hM3
  refine wp_blk 1 kr ?_
  refine wp_cut 2 kr ?_
  refine vm_fragL (X:=⟨w,[]⟩) kr [] gwN (cPre 2 (cI (cAt 1 (cI (cI gw0))))) (ne_nil kr) (fun r=>[(5,(.int .i64 ((i:Int)),0)),(1,(.pointer (some ⟨r 0,0,none⟩),1)),(2,(.pointer (some ⟨r 1,0,none⟩),2)),(4,(.pointer (some ⟨r 3,0,none⟩),4))]) (fun r=>[(0,(28,rwC u)),(1,(85,z5)),(3,(85,c5 (pz (zR5 u) i)))]) 100 (rn) (hS3) (hM3) (fun r hr=>⟨by simp only [hr 0 (by omega),hr 1 (by omega),hr 3 (by omega)],rfl⟩) (keysLt_all kr) [(bif Nat.beq i 4 then Dec.f else Dec.t),(.p _ false h3),(.p _ false h3),(.p _ false h3),(.p _ false h3),.f] [cV (V)] (VEx.n) (fun r=>[(5,(.int .i64 ((i:Int)),0)),(1,(.pointer (some ⟨r 0,0,none⟩),1)),(2,(.pointer (some ⟨r 1,0,none⟩),2)),(4,(.pointer (some ⟨r 3,0,none⟩),4)),(7,(.int .i64 (((0:Nat):Int)),0)),(6,(.pointer (some ⟨r 102,0,none⟩),103))]) [] (fun r=>[(0,(28,rwC u)),(1,(85,z5)),(3,(85,c5 (pz (zR5 u) i))),(102,(25,#[.bool (nR u i),.string (sR u i)]))]) (fun r g=>by obtain rfl | rfl | rfl | rfl | rfl:=c5i <;> kernel_rfl) (fun r g=>by obtain rfl | rfl | rfl | rfl | rfl:=c5i <;> kernel_rfl) ?_
  intro rm a4 w4 hrm hS4 hK4 hM4
  rw [← pz_self] at hM4
  refine gw_bytes (z:=zR5 u) hi5 hz hM4 (hS4.sub ?_) ?_
  ·intro p hp
   simp only [List.mem_cons,List.not_mem_nil,or_false] at hp ⊢
   rcases hp with rfl | rfl | rfl | rfl <;> simp
  intro a5 w5 hS5 hK5 hM5
  have hS6:St gwN [(5,(.int .i64 (i:Int),0)),(1,(.pointer (some ⟨rm 0,0,none⟩),1)),(2,(.pointer (some ⟨rm 1,0,none⟩),2)),(4,(.pointer (some ⟨rm 3,0,none⟩),4)),(6,(.pointer (some ⟨rm 102,0,none⟩),103))] a5:=by
   refine St.keep (hS4.sub ?_) hS5 hK5 kr
   intro p hp
   simp only [List.mem_cons,List.not_mem_nil,or_false] at hp ⊢
   rcases hp with rfl | rfl | rfl | rfl | rfl <;> simp
  have fin:∀ a6 w6,St gwN [(5,(.int .i64 (i:Int),0)),(1,(.pointer (some ⟨rm 0,0,none⟩),1)),(2,(.pointer (some ⟨rm 1,0,none⟩),2)),(4,(.pointer (some ⟨rm 3,0,none⟩),4))] a6→MemOk ⟨w,[]⟩ rm [(0,(28,rwC u)),(1,(85,z5)),(3,(85,c5 (upd (pz (zR5 u) i) i (zR5 u i))))] w6 →
    ∀ Q:Exit→Act→World→Prop,(∀ a' w',(∃ m,m<stop - i∧∃ i',stop - i'=m∧i'≤stop∧St gwN [(5,(.int .i64 (i':Int),0)),(1,(.pointer (some ⟨rn 0,0,none⟩),1)),(2,(.pointer (some ⟨rn 1,0,none⟩),2)),(4,(.pointer (some ⟨rn 3,0,none⟩),4))] a' ∧
     MemOk ⟨w,[]⟩ rn [(0,(28,rwC u)),(1,(85,z5)),(3,(85,c5 (pz (zR5 u) i')))] w')→Q .normal a' w')→wpL Tryz.prog (cPost 1 (cI (cI gw0))) Q a6 w6:=by
   intro a6 w6 hS6 hM6 Q hQ
   rw [pz_succ] at hM6
   rw [hrm 0 (by omega),hrm 1 (by omega),hrm 3 (by omega)] at hS6
   have hM7:=hM6.agree (keysLt_all (n:=100) kr) hrm
   have v3:IntKind.i64.wrap ((i:Int)+1)=((i+1:Nat):Int):=by rw [wr64 (by omega) (by omega)];omega
   refine vm_keep (X:=⟨w,[]⟩) kr [] gwN (cPost 1 (cI (cI gw0))) (ne_nil kr) (fun r=>[(5,(.int .i64 ((i:Int)),0)),(1,(.pointer (some ⟨r 0,0,none⟩),1)),(2,(.pointer (some ⟨r 1,0,none⟩),2)),(4,(.pointer (some ⟨r 3,0,none⟩),4))]) (fun r=>[(0,(28,rwC u)),(1,(85,z5)),(3,(85,c5 (pz (zR5 u) (i+1))))]) 100 (rn) (hS6) (hM7) (fun r hr=>⟨by simp only [hr 0 (by omega),hr 1 (by omega),hr 3 (by omega)],rfl⟩) (keysLt_all kr) [] [] (VEx.n) (fun r=>[(5,(.int .i64 (((i+1:Nat):Int)),0)),(1,(.pointer (some ⟨r 0,0,none⟩),1)),(2,(.pointer (some ⟨r 1,0,none⟩),2)),(4,(.pointer (some ⟨r 3,0,none⟩),4))]) [] (fun r=>[(0,(28,rwC u)),(1,(85,z5)),(3,(85,c5 (pz (zR5 u) (i+1))))]) (fun r hr=>⟨by simp only [hr 0 (by omega),hr 1 (by omega),hr 3 (by omega)],rfl⟩) (keysLt_all kr) (fun r g=>by obtain rfl | rfl | rfl | rfl | rfl:=c5i <;> kernel_rfl) (fun r g=>by obtain rfl | rfl | rfl | rfl | rfl:=c5i <;> kernel_rfl) ?_
   intro a7 w7 hS7 hK7 hM7'
   exact hQ a7 w7 ⟨stop - (i+1),by omega,i+1,rfl,by omega,hS7,hM7'⟩
  refine then_n ?_
  by_cases hneg:nR u i=true
  ·have hz1:zR5 u i = -((sv (sR u i):Nat):Int):=by unfold zR5 ival;rw [hneg];rfl
   have v1:IntKind.i64.wrap (0 - ((sv (sR u i):Nat):Int))=zR5 u i:=by rw [hz1,wr64 (by omega) (by omega)];omega
   have eu:upd (upd (pz (zR5 u) i) i ((sv (sR u i):Nat):Int)) i (zR5 u i)=upd (pz (zR5 u) i) i (zR5 u i):=upd_upd _ _ _ _
   have N:(Value.int .i64 (IntKind.i64.wrap (0 - ((sv (sR u i):Nat):Int)))) = .int .i64 (zR5 u i):=congrArg (Value.int .i64) v1
   generalize sv (sR u i)=m at *
   generalize zR5 u i=zi at *
   refine vm_keep (X:=⟨w,[]⟩) kr [(15,4)] gwN (cPost 2 (cI (cAt 1 (cI (cI gw0))))) (ne_nil kr) (fun r=>[(5,(.int .i64 ((i:Int)),0)),(1,(.pointer (some ⟨r 0,0,none⟩),1)),(2,(.pointer (some ⟨r 1,0,none⟩),2)),(4,(.pointer (some ⟨r 3,0,none⟩),4)),(6,(.pointer (some ⟨r 102,0,none⟩),103))]) (fun r=>[(0,(28,rwC u)),(1,(85,z5)),(3,(85,c5 (upd (pz (zR5 u) i) i (m:Int)))),(102,(25,#[.bool (nR u i),.string (sR u i)]))]) 110 (rm) (hS6) (hM5) (fun r hr=>⟨by simp only [hr 0 (by omega),hr 1 (by omega),hr 3 (by omega),hr 102 (by omega)],rfl⟩) (keysLt_all kr) [(.p _ true hneg)] [lP (.int .i64 (IntKind.i64.wrap (0 - (m:Int)))) (.int .i64 zi) N] (VEx.n) (fun r=>[(5,(.int .i64 ((i:Int)),0)),(1,(.pointer (some ⟨r 0,0,none⟩),1)),(2,(.pointer (some ⟨r 1,0,none⟩),2)),(4,(.pointer (some ⟨r 3,0,none⟩),4))]) [] (fun r=>[(0,(28,rwC u)),(1,(85,z5)),(3,(85,c5 (upd (upd (pz (zR5 u) i) i (m:Int)) i zi)))]) (fun r hr=>⟨by simp only [hr 0 (by omega),hr 1 (by omega),hr 3 (by omega)],rfl⟩) (keysLt_all kr) (fun r g=>by obtain rfl | rfl | rfl | rfl | rfl:=c5i <;> kernel_rfl) (fun r g=>by obtain rfl | rfl | rfl | rfl | rfl:=c5i <;> kernel_rfl) ?_
   intro a6 w6 hS6 hK6 hM6
   rw [eu] at hM6
   refine inBlock_n (then_n (fin a6 w6 hS6 hM6 _ (fun a' w' h=>h)))
  ·have hneg:nR u i=false:=by simpa using hneg
   have hz1:zR5 u i=((sv (sR u i):Nat):Int):=by unfold zR5 ival;rw [hneg];rfl
   rw [← hz1] at hM5
   generalize zR5 u i=zi at *
   refine vm_keep (X:=⟨w,[]⟩) kr [] gwN (cPost 2 (cI (cAt 1 (cI (cI gw0))))) (ne_nil kr) (fun r=>[(5,(.int .i64 ((i:Int)),0)),(1,(.pointer (some ⟨r 0,0,none⟩),1)),(2,(.pointer (some ⟨r 1,0,none⟩),2)),(4,(.pointer (some ⟨r 3,0,none⟩),4)),(6,(.pointer (some ⟨r 102,0,none⟩),103))]) (fun r=>[(0,(28,rwC u)),(1,(85,z5)),(3,(85,c5 (upd (pz (zR5 u) i) i zi))),(102,(25,#[.bool (nR u i),.string (sR u i)]))]) 110 (rm) (hS6) (hM5) (fun r hr=>⟨by simp only [hr 0 (by omega),hr 1 (by omega),hr 3 (by omega),hr 102 (by omega)],rfl⟩) (keysLt_all kr) [(.p _ false hneg)] [] (VEx.n) (fun r=>[(5,(.int .i64 ((i:Int)),0)),(1,(.pointer (some ⟨r 0,0,none⟩),1)),(2,(.pointer (some ⟨r 1,0,none⟩),2)),(4,(.pointer (some ⟨r 3,0,none⟩),4))]) [] (fun r=>[(0,(28,rwC u)),(1,(85,z5)),(3,(85,c5 (upd (pz (zR5 u) i) i zi)))]) (fun r hr=>⟨by simp only [hr 0 (by omega),hr 1 (by omega),hr 3 (by omega)],rfl⟩) (keysLt_all kr) (fun r g=>by obtain rfl | rfl | rfl | rfl | rfl:=c5i <;> kernel_rfl) (fun r g=>by obtain rfl | rfl | rfl | rfl | rfl:=c5i <;> kernel_rfl) ?_
   intro a6 w6 hS6 hK6 hM6
   refine inBlock_n (then_n (fin a6 w6 hS6 hM6 _ (fun a' w' h=>h)))
 ·obtain rfl:i=stop:=by omega
  by_cases h5:i<5
  ·have hb:=bad h5
   have e:Nat.beq i 5=false:=by cases h:Nat.beq i 5 with
    | false=>rfl
    | true=>have:=Nat.eq_of_beq_eq_true h;omega
   rw [e]
   exact gw_bad (post:=RetV (.tuple #[.agg (c5 (pz (zR5 u) i)),.bool false]) w) h5 hb (fun a' w' h=>h) hM2 hS2 (fun w' hc=>⟨rfl,hc.below (Nat.le_refl _) (fun x h=>by cases h)⟩)
  ·obtain rfl:i=5:=by omega
   refine wpL_one ?_
   refine vk (X:=⟨w,[]⟩) [] gwN [cI (cI gw0)] (fun r=>[(5,(.int .i64 (((5:Nat):Int)),0)),(1,(.pointer (some ⟨r 0,0,none⟩),1)),(2,(.pointer (some ⟨r 1,0,none⟩),2)),(4,(.pointer (some ⟨r 3,0,none⟩),4))]) (fun r=>[(0,(28,rwC u)),(1,(85,z5)),(3,(85,c5 (pz (zR5 u) 5)))]) 100 (rn) (hS2) (hM2) [.f] [] (VEx.x 0) (fun r=>[(5,(.int .i64 (((5:Nat):Int)),0)),(1,(.pointer (some ⟨r 0,0,none⟩),1)),(2,(.pointer (some ⟨r 1,0,none⟩),2)),(4,(.pointer (some ⟨r 3,0,none⟩),4))]) [] (fun r=>[(0,(28,rwC u)),(1,(85,z5)),(3,(85,c5 (pz (zR5 u) 5)))]) ?_
   intro a3 w3 hS3 hK3 hM3
   refine exit_n (then_n ?_)
   refine vk (X:=⟨w,[]⟩) [] gwN (cPost 0 gwC) (fun r=>[(5,(.int .i64 (((5:Nat):Int)),0)),(1,(.pointer (some ⟨r 0,0,none⟩),1)),(2,(.pointer (some ⟨r 1,0,none⟩),2)),(4,(.pointer (some ⟨r 3,0,none⟩),4))]) (fun r=>[(0,(28,rwC u)),(1,(85,z5)),(3,(85,c5 (pz (zR5 u) 5)))]) 100 (rn) (hS3) (hM3) [] [] (VEx.r) (fun r=>[(2,(.pointer (some ⟨r 1,0,none⟩),2)),(3,(.bool true,0))]) [] (fun r=>[(1,(85,c5 (pz (zR5 u) 5)))]) ?_
   intro a4 w4 hS4 hK4 hM4
   exact vm_ret (fn:=Tryz.f50) hS4 hM4 (.tuple #[.agg (c5 (pz (zR5 u) 5)),.bool true]) (fun g=>by kernel_rfl) ⟨rfl,hM4.below.below (Nat.le_refl _) (fun x h=>by cases h)⟩

noncomputable def ggN:Nat:=Tryz.f84.ntmps
noncomputable def ggC:Code:=Tryz.f84.body.getD .skip
noncomputable def gg0:Code:=cB 0 ggC
noncomputable def gg2:Code:=cB 2 ggC
def gN (l:Nat→Int):Nat→Nat
 | 0=>0
 | i+1=>Nat.gcd (gN l i) (l i).natAbs
theorem grem_run (a b:Nat) (w:World) (h:b≠0):(Op.intDiv .rem .i64 (a:Int) (b:Int)).run Tryz.prog w = .ok (.int .i64 ((a % b:Nat):Int)) w:=by
 unfold Op.intDiv
 rw [if_neg (by omega)]
 have e:(a:Int).tmod (b:Int)=((a % b:Nat):Int):=by rw [Int.tmod_eq_emod_of_nonneg (by omega)];rfl
 simp only [e]
 rfl
theorem gg_euclid {l:Nat→Int} {X:Cx} {rn:Nat→Nat} {g m:Nat} {a:Act} {w:World} {Q:Exit→Act→World→Prop} (hM:MemOk X rn [(0,(85,c5 l))] w)
  (hS:St ggN [(5,(.int .i64 (g:Int),0)),(6,(.int .i64 (m:Int),0))] a)
  (hQ:∀ a' w',St ggN [(5,(.int .i64 ((Nat.gcd g m:Nat):Int),0))] a'→Kp (keeps gg2 ggN) a a'→MemOk X rn [(0,(85,c5 l))] w'→Q .normal a' w'):gg2.wp Tryz.prog Q a w:=by
 refine wp_for 2 kr kr (fun n a' w'=>∃ x y:Nat,y=n∧Nat.gcd x y=Nat.gcd g m∧Kp (keeps gg2 ggN) a a'∧St ggN [(5,(.int .i64 (x:Int),0)),(6,(.int .i64 (y:Int),0))] a'∧MemOk X rn [(0,(85,c5 l))] w') m ⟨g,m,rfl,rfl,Kp.refl _ _,hS,hM⟩ ?_
 rintro n a1 w1 ⟨x,y,rfl,hg,hK1,hS1,hM1⟩
 refine wpL_one ?_
 by_cases hy:y=0
 ·have h1:((y:Int) != 0)=false:=by subst hy;rfl
  have e:x=Nat.gcd g m:=by rw [← hg,hy,Nat.gcd_zero_right]
  refine vk (X:=X) [] ggN [cI (cI gg2)] (fun r=>[(5,(.int .i64 ((x:Int)),0)),(6,(.int .i64 ((y:Int)),0))]) (fun r=>[(0,(85,c5 l))]) 100 (rn) (hS1) (hM1) [(.p _ false h1)] [] (VEx.x 2) (fun r=>[(5,(.int .i64 ((x:Int)),0))]) (keeps gg2 ggN) (fun r=>[(0,(85,c5 l))]) ?_
  intro a2 w2 hS2 hK2 hM2
  rw [e] at hS2
  exact exit_n (hQ a2 w2 hS2 (hK1.trans hK2) hM2)
 ·have h1:((y:Int) != 0)=true:=by rw [bne_iff_ne];omega
  have R:=fun w=>grem_run x y w hy
  have hlt:=Nat.mod_lt x (Nat.pos_of_ne_zero hy)
  have hg2:Nat.gcd y (x % y)=Nat.gcd g m:=by rw [← hg,Nat.gcd_comm x y,Nat.gcd_rec y x,Nat.gcd_comm]
  generalize x % y=z at *
  refine vk (X:=X) [(7,3)] ggN [cI (cI gg2)] (fun r=>[(5,(.int .i64 ((x:Int)),0)),(6,(.int .i64 ((y:Int)),0))]) (fun r=>[(0,(85,c5 l))]) 100 (rn) (hS1) (hM1) [(.p _ true h1)] [lV (Op.intDiv .rem .i64 (((x:Int)):Int) (((y:Int)):Int)) (.int .i64 ((z:Int))) (fun w hC=>R w)] (VEx.n) (fun r=>[(5,(.int .i64 ((y:Int)),0)),(6,(.int .i64 ((z:Int)),0))]) (keeps gg2 ggN) (fun r=>[(0,(85,c5 l))]) ?_
  intro a2 w2 hS2 hK2 hM2
  exact ⟨z,hlt,y,z,rfl,hg2,hK1.trans hK2,hS2,hM2⟩
theorem ggcd_any (l:Nat→Int) (w:World) (hl:∀ i,(l i).natAbs≤4611686018427387904):Calls Tryz.prog 84 #[.agg (c5 l)] w (RetV (.int .i64 ((gN l 5:Nat):Int)) w):=by
 refine vm_start [.agg (c5 l)] (fn:=Tryz.f84) (c:=ggC) kr kr nle ?_
 intro a hS
 refine wp_cut 0 kr ?_
 refine vf (X:=⟨w,[]⟩) [] ggN (cPre 0 ggC) (fun r=>[(0,(.agg (c5 l),0))]) (fun r=>[]) 0 (fun _=>0) (hS) (⟨Chg.refl _ _,fun k x h=>(by cases h),fun k k' x x' h=>by cases h⟩) [] [] (VEx.n) (fun r=>[(1,(.pointer (some ⟨r 0,0,none⟩),1)),(3,(.int .i64 (((0:Nat):Int)),0)),(4,(.int .i64 (((0:Nat):Int)),0))]) [] (fun r=>[(0,(85,c5 l))]) ?_
 intro rn a1 w1 hr hS1 hK1 hM1
 refine wp_for 0 kr kr (fun n a' w'=>∃ i,5 - i=n∧i≤5∧St ggN [(1,(.pointer (some ⟨rn 0,0,none⟩),1)),(3,(.int .i64 ((gN l i:Nat):Int),0)),(4,(.int .i64 (i:Int),0))] a'∧MemOk ⟨w,[]⟩ rn [(0,(85,c5 l))] w') 5 ⟨0,rfl,by omega,hS1,hM1⟩ ?_
 clear hM1 hS1
 rintro n a2 w2 ⟨i,rfl,hi,hS2,hM2⟩
 rcases Nat.lt_or_ge i 5 with hi5 | hi5
 ·have c5i:=cases5 hi5
  refine wp_cut 1 kr ?_
  refine vm_keep (X:=⟨w,[]⟩) kr [] ggN (cPre 1 (cI (cI gg0))) (ne_nil kr) (fun r=>[(1,(.pointer (some ⟨r 0,0,none⟩),1)),(3,(.int .i64 (((gN l i:Nat):Int)),0)),(4,(.int .i64 ((i:Int)),0))]) (fun r=>[(0,(85,c5 l))]) 100 (rn) (hS2) (hM2) (fun r hr=>⟨by simp only [hr 0 (by omega)],rfl⟩) (keysLt_all kr) [.t] [] (VEx.n) (fun r=>[(1,(.pointer (some ⟨r 0,0,none⟩),1)),(3,(.int .i64 (((gN l i:Nat):Int)),0)),(4,(.int .i64 ((i:Int)),0))]) [] (fun r=>[(0,(85,c5 l))]) (fun r hr=>⟨by simp only [hr 0 (by omega)],rfl⟩) (keysLt_all kr) (fun r g=>by obtain rfl | rfl | rfl | rfl | rfl:=c5i <;> kernel_rfl) (fun r g=>by obtain rfl | rfl | rfl | rfl | rfl:=c5i <;> kernel_rfl) ?_
  intro a3 w3 hS3 hK3 hM3
  refine wp_blk 1 kr ?_
  refine wp_cut 2 kr ?_
  have hli:=hl i
  have v1:IntKind.i64.wrap (0 - l i) = -l i:=by rw [wr64 (by omega) (by omega)];omega
  have N:(Value.int .i64 (IntKind.i64.wrap (0 - l i))) = .int .i64 (-l i):=congrArg (Value.int .i64) v1
  have v2:(if -l i > l i then -l i else l i)=((l i).natAbs:Int):=by split <;> omega
  have M:(Value.int .i64 (if -l i > l i then -l i else l i)) = .int .i64 ((l i).natAbs:Int):=congrArg (Value.int .i64) v2
  obtain ⟨g,hg⟩:∃ g,g=gN l i:=⟨_,rfl⟩
  rw [← hg] at hS3
  refine vm_keep (X:=⟨w,[]⟩) kr [(5,7),(5,8)] ggN (cPre 2 (cI (cAt 1 (cI (cI gg0))))) (ne_nil kr) (fun r=>[(1,(.pointer (some ⟨r 0,0,none⟩),1)),(3,(.int .i64 ((g:Int)),0)),(4,(.int .i64 ((i:Int)),0))]) (fun r=>[(0,(85,c5 l))]) 100 (rn) (hS3) (hM3) (fun r hr=>⟨by simp only [hr 0 (by omega)],rfl⟩) (keysLt_all kr) [] [lP (.int .i64 (IntKind.i64.wrap (0 - l i))) (.int .i64 (-l i)) N,lP (.int .i64 (if -l i > l i then -l i else l i)) (.int .i64 ((l i).natAbs:Int)) M] (VEx.n) (fun r=>[(1,(.pointer (some ⟨r 0,0,none⟩),1)),(3,(.int .i64 ((g:Int)),0)),(4,(.int .i64 ((i:Int)),0)),(5,(.int .i64 ((g:Int)),0)),(6,(.int .i64 (((l i).natAbs:Int)),0))]) [] (fun r=>[(0,(85,c5 l))]) (fun r hr=>⟨by simp only [hr 0 (by omega)],rfl⟩) (keysLt_all kr) (fun r g=>by obtain rfl | rfl | rfl | rfl | rfl:=c5i <;> kernel_rfl) (fun r g=>by obtain rfl | rfl | rfl | rfl | rfl:=c5i <;> kernel_rfl) ?_
  intro a4 w4 hS4 hK4 hM4
  refine then_n ?_
  refine gg_euclid (g:=g) (m:=(l i).natAbs) hM4 (hS4.sub ?_) ?_
  ·intro p hp
   simp only [List.mem_cons,List.not_mem_nil,or_false] at hp ⊢
   rcases hp with rfl | rfl <;> simp
  intro a5 w5 hS5 hK5 hM5
  have hS6:St ggN [(5,(.int .i64 ((Nat.gcd g (l i).natAbs:Nat):Int),0)),(1,(.pointer (some ⟨rn 0,0,none⟩),1)),(4,(.int .i64 (i:Int),0))] a5:=by
   refine St.keep (hS4.sub ?_) hS5 hK5 kr
   intro p hp
   simp only [List.mem_cons,List.not_mem_nil,or_false] at hp ⊢
   rcases hp with rfl | rfl <;> simp
  rw [show Nat.gcd g (l i).natAbs=gN l (i+1) from by rw [hg];rfl] at hS6
  refine then_n ?_
  refine vm_keep (X:=⟨w,[]⟩) kr [] ggN (cPost 2 (cI (cAt 1 (cI (cI gg0))))) (ne_nil kr) (fun r=>[(5,(.int .i64 (((gN l (i+1):Nat):Int)),0)),(1,(.pointer (some ⟨r 0,0,none⟩),1)),(4,(.int .i64 ((i:Int)),0))]) (fun r=>[(0,(85,c5 l))]) 100 (rn) (hS6) (hM5) (fun r hr=>⟨by simp only [hr 0 (by omega)],rfl⟩) (keysLt_all kr) [] [] (VEx.n) (fun r=>[(1,(.pointer (some ⟨r 0,0,none⟩),1)),(3,(.int .i64 (((gN l (i+1):Nat):Int)),0)),(4,(.int .i64 ((i:Int)),0))]) [] (fun r=>[(0,(85,c5 l))]) (fun r hr=>⟨by simp only [hr 0 (by omega)],rfl⟩) (keysLt_all kr) (fun r g=>by obtain rfl | rfl | rfl | rfl | rfl:=c5i <;> kernel_rfl) (fun r g=>by obtain rfl | rfl | rfl | rfl | rfl:=c5i <;> kernel_rfl) ?_
  intro a6 w6 hS7 hK7 hM6
  refine inBlock_n (then_n ?_)
  have v3:IntKind.i64.wrap ((i:Int)+1)=((i+1:Nat):Int):=by rw [wr64 (by omega) (by omega)];omega
  refine vm_keep (X:=⟨w,[]⟩) kr [] ggN (cPost 1 (cI (cI gg0))) (ne_nil kr) (fun r=>[(1,(.pointer (some ⟨r 0,0,none⟩),1)),(3,(.int .i64 (((gN l (i+1):Nat):Int)),0)),(4,(.int .i64 ((i:Int)),0))]) (fun r=>[(0,(85,c5 l))]) 100 (rn) (hS7) (hM6) (fun r hr=>⟨by simp only [hr 0 (by omega)],rfl⟩) (keysLt_all kr) [] [] (VEx.n) (fun r=>[(1,(.pointer (some ⟨r 0,0,none⟩),1)),(3,(.int .i64 (((gN l (i+1):Nat):Int)),0)),(4,(.int .i64 (((i+1:Nat):Int)),0))]) [] (fun r=>[(0,(85,c5 l))]) (fun r hr=>⟨by simp only [hr 0 (by omega)],rfl⟩) (keysLt_all kr) (fun r g=>by obtain rfl | rfl | rfl | rfl | rfl:=c5i <;> kernel_rfl) (fun r g=>by obtain rfl | rfl | rfl | rfl | rfl:=c5i <;> kernel_rfl) ?_
  intro a7 w7 hS8 hK8 hM7
  exact ⟨5 - (i+1),by omega,i+1,rfl,by omega,hS8,hM7⟩
 ·obtain rfl:i=5:=by omega
  refine wpL_one ?_
  refine vk (X:=⟨w,[]⟩) [] ggN [cI (cI gg0)] (fun r=>[(1,(.pointer (some ⟨r 0,0,none⟩),1)),(3,(.int .i64 (((gN l 5:Nat):Int)),0)),(4,(.int .i64 (((5:Nat):Int)),0))]) (fun r=>[(0,(85,c5 l))]) 100 (rn) (hS2) (hM2) [.f] [] (VEx.x 0) (fun r=>[(1,(.pointer (some ⟨r 0,0,none⟩),1)),(3,(.int .i64 (((gN l 5:Nat):Int)),0)),(4,(.int .i64 (((5:Nat):Int)),0))]) [] (fun r=>[(0,(85,c5 l))]) ?_
  intro a3 w3 hS3 hK3 hM3
  refine exit_n (then_n ?_)
  refine vk (X:=⟨w,[]⟩) [] ggN (cPost 0 ggC) (fun r=>[(1,(.pointer (some ⟨r 0,0,none⟩),1)),(3,(.int .i64 (((gN l 5:Nat):Int)),0)),(4,(.int .i64 (((5:Nat):Int)),0))]) (fun r=>[(0,(85,c5 l))]) 100 (rn) (hS3) (hM3) [] [] (VEx.r) (fun r=>[(2,(.int .i64 (((gN l 5:Nat):Int)),0))]) [] (fun r=>[(0,(85,c5 l))]) ?_
  intro a4 w4 hS4 hK4 hM4
  exact vm_ret (fn:=Tryz.f84) hS4 hM4 (.int .i64 ((gN l 5:Nat):Int)) (fun g=>by kernel_rfl) ⟨rfl,hM4.below.below (Nat.le_refl _) (fun x h=>by cases h)⟩
theorem gN_cof (u:Rw):gN (pz (zR5 u) 5) 5=cof (nmR u):=by
 show Nat.gcd (Nat.gcd (Nat.gcd (Nat.gcd (Nat.gcd 0 (zR5 u 0).natAbs) (zR5 u 1).natAbs) (zR5 u 2).natAbs) (zR5 u 3).natAbs) (zR5 u 4).natAbs=_
 rw [Nat.gcd_zero_left]
 unfold cof
 show _=Nat.gcd (Nat.gcd (Nat.gcd (Nat.gcd (zR5 u 4).natAbs (zR5 u 0).natAbs) (zR5 u 1).natAbs) (zR5 u 2).natAbs) (zR5 u 3).natAbs
 generalize (zR5 u 0).natAbs=a
 generalize (zR5 u 1).natAbs=b
 generalize (zR5 u 2).natAbs=c
 generalize (zR5 u 3).natAbs=d
 generalize (zR5 u 4).natAbs=e
 rw [Nat.gcd_comm _ e,← Nat.gcd_assoc,← Nat.gcd_assoc,← Nat.gcd_assoc]
def allSm (u:Rw):Prop:=∀ j,j<5→sm u j
theorem sm_bound {u:Rw} (h:allSm u) (i:Nat):(pz (zR5 u) 5 i).natAbs<16777216:=by
 unfold pz
 cases hb:Nat.blt i 5 with
 | false=>show (0:Int).natAbs<_;decide
 | true =>
  rw [Nat.blt_eq] at hb
  have h1:=sv3 (h i hb).1
  show (zR5 u i).natAbs<_
  unfold zR5 ival
  split <;> omega
theorem allSm_vld {u:Rw} (h:allSm u):vldR u=true:=by
 have h0:=(h 0 (by omega)).2
 have h1:=(h 1 (by omega)).2
 have h2:=(h 2 (by omega)).2
 have h3:=(h 3 (by omega)).2
 have h4:=(h 4 (by omega)).2
 unfold vldR
 simp only [nR,sR] at h0 h1 h2 h3 h4
 rw [h0,h1,h2,h3,h4]
 rfl
theorem gwords_yes (u:Rw) (w:World) (h:allSm u):Calls Tryz.prog 50 #[vR u] w (RetV (.tuple #[.agg (c5 (pz (zR5 u) 5)),.bool true]) w):=gwords_at u 5 w (Nat.le_refl _) h (fun h=>by omega)
theorem gwords_no (u:Rw) (h:¬ allSm u):∃ q,∀ w,Calls Tryz.prog 50 #[vR u] w (RetV (.tuple #[.agg (c5 q),.bool false]) w):=by
 have ex:∀ n:Nat,n≤5→(∀ j,j<n→sm u j)∨∃ i,i<n∧(∀ j,j<i→sm u j)∧¬ sm u i:=by
  intro n
  induction n with
  | zero=>intro _;exact .inl (fun j hj=>by omega)
  | succ n ih =>
   intro hn
   rcases ih (by omega) with h1 | ⟨i,hi,h1,h2⟩
   ·by_cases hs:sm u n
    ·exact .inl (fun j hj=>by rcases Nat.lt_or_ge j n with h | h;exact h1 j h;obtain rfl:j=n:=by omega
                              exact hs)
    ·exact .inr ⟨n,by omega,h1,hs⟩
   ·exact .inr ⟨i,by omega,h1,h2⟩
 rcases ex 5 (Nat.le_refl _) with h1 | ⟨i,hi,h1,h2⟩
 ·exact absurd h1 h
 ·have e:Nat.beq i 5=false:=by
   cases hb:Nat.beq i 5 with
   | false=>rfl
   | true=>have:=Nat.eq_of_beq_eq_true hb;omega
  refine ⟨pz (zR5 u) i,fun w=>?_⟩
  have:=gwords_at u i w (by omega) h1 (fun _=>h2)
  rwa [e] at this
theorem gValid_small (u:Rw) (w:World) (h:allSm u):Calls Tryz.prog 42 #[vR u] w (RetV (.bool (okR u)) w):=by
 have W:=fun w=>gwords_yes u w h
 have G:=fun w=>ggcd_any (pz (zR5 u) 5) w (fun i=>by have:=sm_bound h i;omega)
 rw [gN_cof] at G
 have e:okR u=(decide (0<(nmR u).d) && decide (cof (nmR u)=1)):=by unfold okR;rw [allSm_vld h];rfl
 rw [e]
 have h4:pz (zR5 u) 5 4=(nmR u).d:=rfl
 generalize pz (zR5 u) 5=z at *
 generalize cof (nmR u)=g at *
 generalize (nmR u).d=d at *
 by_cases hd:0<d
 ·have e1:decide (0<z 4)=true:=decide_eq_true (by omega)
  rw [decide_eq_true hd]
  by_cases hg:g=1
  ·have e2:((g:Int) == 1)=true:=by rw [hg];rfl
   rw [decide_eq_true hg]
   exact vm_pure kr Tryz.func42 rfl [.agg #[.bool u.n0,.string u.s0,.bool u.n1,.string u.s1,.bool u.n2,.string u.s2,.bool u.n3,.string u.s3,.bool u.n4,.string u.s4]] nle [(3,6)] [.t,(.p _ true e1),(.p _ true e1),(.p _ true e1),(.p _ true e1)] [cV (W),cV (G),lP (.bool ((g:Int) == 1)) (.bool true) (congrArg Value.bool e2)]
  ·have e2:((g:Int) == 1)=false:=by rw [beq_eq_false_iff_ne];omega
   rw [decide_eq_false hg]
   exact vm_pure kr Tryz.func42 rfl [.agg #[.bool u.n0,.string u.s0,.bool u.n1,.string u.s1,.bool u.n2,.string u.s2,.bool u.n3,.string u.s3,.bool u.n4,.string u.s4]] nle [(3,6)] [.t,(.p _ true e1),(.p _ true e1),(.p _ true e1),(.p _ true e1)] [cV (W),cV (G),lP (.bool ((g:Int) == 1)) (.bool false) (congrArg Value.bool e2)]
 ·have e1:decide (0<z 4)=false:=decide_eq_false (by omega)
  rw [decide_eq_false hd]
  exact vm_pure kr Tryz.func42 rfl [.agg #[.bool u.n0,.string u.s0,.bool u.n1,.string u.s1,.bool u.n2,.string u.s2,.bool u.n3,.string u.s3,.bool u.n4,.string u.s4]] nle [(3,2)] [.t,.f,.f,.f,.f] [cV (W),lP (.bool (decide (0<z 4))) (.bool false) (congrArg Value.bool e1)]
theorem RValid_ok (n:Bool) (s:ByteArray) (w:World) (h:vld n s=true):Calls Tryz.prog 54 #[.agg #[.bool n,.string s]] w (RetB true w):=by
 have:=RValid_any n s w
 rwa [h] at this
theorem gValid_r0 (r:Rw) (q:Nat→Int) (g0 g1 g2 g3:Int) (w:World) (W:∀ w,Calls Tryz.prog 50 #[vR r] w (RetV (.tuple #[.agg (c5 q),.bool false]) w))
  (G0:∀ w,Calls Tryz.prog 85 #[.agg #[.bool false,.string ⟨#[]⟩],.agg #[.bool r.n0,.string r.s0]] w (RetI g0 w)) (G1:∀ w,Calls Tryz.prog 85 #[vI g0,.agg #[.bool r.n1,.string r.s1]] w (RetI g1 w))
  (G2:∀ w,Calls Tryz.prog 85 #[vI g1,.agg #[.bool r.n2,.string r.s2]] w (RetI g2 w)) (G3:∀ w,Calls Tryz.prog 85 #[vI g2,.agg #[.bool r.n3,.string r.s3]] w (RetI g3 w)) (h:vld r.n0 r.s0=false):Calls Tryz.prog 42 #[vR r] w (RetV (.bool false) w):=by
 exact vm_pure kr Tryz.func42 rfl [.agg #[.bool r.n0,.string r.s0,.bool r.n1,.string r.s1,.bool r.n2,.string r.s2,.bool r.n3,.string r.s3,.bool r.n4,.string r.s4]] nle [] [.f,.t,.t] [cV (W),cV (fun w=>RValid_no r.n0 r.s0 w h)]
theorem gValid_r1 (r:Rw) (q:Nat→Int) (g0 g1 g2 g3:Int) (w:World) (W:∀ w,Calls Tryz.prog 50 #[vR r] w (RetV (.tuple #[.agg (c5 q),.bool false]) w))
  (G0:∀ w,Calls Tryz.prog 85 #[.agg #[.bool false,.string ⟨#[]⟩],.agg #[.bool r.n0,.string r.s0]] w (RetI g0 w)) (G1:∀ w,Calls Tryz.prog 85 #[vI g0,.agg #[.bool r.n1,.string r.s1]] w (RetI g1 w))
  (G2:∀ w,Calls Tryz.prog 85 #[vI g1,.agg #[.bool r.n2,.string r.s2]] w (RetI g2 w)) (G3:∀ w,Calls Tryz.prog 85 #[vI g2,.agg #[.bool r.n3,.string r.s3]] w (RetI g3 w)) (h0:vld r.n0 r.s0=true) (h:vld r.n1 r.s1=false):Calls Tryz.prog 42 #[vR r] w (RetV (.bool false) w):=by
 exact vm_pure kr Tryz.func42 rfl [.agg #[.bool r.n0,.string r.s0,.bool r.n1,.string r.s1,.bool r.n2,.string r.s2,.bool r.n3,.string r.s3,.bool r.n4,.string r.s4]] nle [] [.f,.t,.f,.t,.t] [cV (W),cV (fun w=>RValid_ok r.n0 r.s0 w h0),cV (G0),cV (fun w=>RValid_no r.n1 r.s1 w h)]
theorem gValid_r2 (r:Rw) (q:Nat→Int) (g0 g1 g2 g3:Int) (w:World) (W:∀ w,Calls Tryz.prog 50 #[vR r] w (RetV (.tuple #[.agg (c5 q),.bool false]) w))
  (G0:∀ w,Calls Tryz.prog 85 #[.agg #[.bool false,.string ⟨#[]⟩],.agg #[.bool r.n0,.string r.s0]] w (RetI g0 w)) (G1:∀ w,Calls Tryz.prog 85 #[vI g0,.agg #[.bool r.n1,.string r.s1]] w (RetI g1 w))
  (G2:∀ w,Calls Tryz.prog 85 #[vI g1,.agg #[.bool r.n2,.string r.s2]] w (RetI g2 w)) (G3:∀ w,Calls Tryz.prog 85 #[vI g2,.agg #[.bool r.n3,.string r.s3]] w (RetI g3 w)) (h0:vld r.n0 r.s0=true) (h1:vld r.n1 r.s1=true) (h:vld r.n2 r.s2=false):Calls Tryz.prog 42 #[vR r] w (RetV (.bool false) w):=by
 exact vm_pure kr Tryz.func42 rfl [.agg #[.bool r.n0,.string r.s0,.bool r.n1,.string r.s1,.bool r.n2,.string r.s2,.bool r.n3,.string r.s3,.bool r.n4,.string r.s4]] nle [] [.f,.t,.f,.t,.f,.t,.t] [cV (W),cV (fun w=>RValid_ok r.n0 r.s0 w h0),cV (G0),cV (fun w=>RValid_ok r.n1 r.s1 w h1),cV (G1),cV (fun w=>RValid_no r.n2 r.s2 w h)]
theorem gValid_r3 (r:Rw) (q:Nat→Int) (g0 g1 g2 g3:Int) (w:World) (W:∀ w,Calls Tryz.prog 50 #[vR r] w (RetV (.tuple #[.agg (c5 q),.bool false]) w))
  (G0:∀ w,Calls Tryz.prog 85 #[.agg #[.bool false,.string ⟨#[]⟩],.agg #[.bool r.n0,.string r.s0]] w (RetI g0 w)) (G1:∀ w,Calls Tryz.prog 85 #[vI g0,.agg #[.bool r.n1,.string r.s1]] w (RetI g1 w))
  (G2:∀ w,Calls Tryz.prog 85 #[vI g1,.agg #[.bool r.n2,.string r.s2]] w (RetI g2 w)) (G3:∀ w,Calls Tryz.prog 85 #[vI g2,.agg #[.bool r.n3,.string r.s3]] w (RetI g3 w)) (h0:vld r.n0 r.s0=true) (h1:vld r.n1 r.s1=true) (h2:vld r.n2 r.s2=true) (h:vld r.n3 r.s3=false):Calls Tryz.prog 42 #[vR r] w (RetV (.bool false) w):=by
 exact vm_pure kr Tryz.func42 rfl [.agg #[.bool r.n0,.string r.s0,.bool r.n1,.string r.s1,.bool r.n2,.string r.s2,.bool r.n3,.string r.s3,.bool r.n4,.string r.s4]] nle [] [.f,.t,.f,.t,.f,.t,.f,.t,.t] [cV (W),cV (fun w=>RValid_ok r.n0 r.s0 w h0),cV (G0),cV (fun w=>RValid_ok r.n1 r.s1 w h1),cV (G1),cV (fun w=>RValid_ok r.n2 r.s2 w h2),cV (G2),cV (fun w=>RValid_no r.n3 r.s3 w h)]
theorem gValid_r4 (r:Rw) (q:Nat→Int) (g0 g1 g2 g3:Int) (w:World) (W:∀ w,Calls Tryz.prog 50 #[vR r] w (RetV (.tuple #[.agg (c5 q),.bool false]) w))
  (G0:∀ w,Calls Tryz.prog 85 #[.agg #[.bool false,.string ⟨#[]⟩],.agg #[.bool r.n0,.string r.s0]] w (RetI g0 w)) (G1:∀ w,Calls Tryz.prog 85 #[vI g0,.agg #[.bool r.n1,.string r.s1]] w (RetI g1 w))
  (G2:∀ w,Calls Tryz.prog 85 #[vI g1,.agg #[.bool r.n2,.string r.s2]] w (RetI g2 w)) (G3:∀ w,Calls Tryz.prog 85 #[vI g2,.agg #[.bool r.n3,.string r.s3]] w (RetI g3 w)) (h0:vld r.n0 r.s0=true) (h1:vld r.n1 r.s1=true) (h2:vld r.n2 r.s2=true) (h3:vld r.n3 r.s3=true) (h:vld r.n4 r.s4=false):Calls Tryz.prog 42 #[vR r] w (RetV (.bool false) w):=by
 exact vm_pure kr Tryz.func42 rfl [.agg #[.bool r.n0,.string r.s0,.bool r.n1,.string r.s1,.bool r.n2,.string r.s2,.bool r.n3,.string r.s3,.bool r.n4,.string r.s4]] nle [] [.f,.t,.f,.t,.f,.t,.f,.t,.f,.f,.f,.f,.f,.f,.f,.f,.f,.f,.f,.f,.f,.f] [cV (W),cV (fun w=>RValid_ok r.n0 r.s0 w h0),cV (G0),cV (fun w=>RValid_ok r.n1 r.s1 w h1),cV (G1),cV (fun w=>RValid_ok r.n2 r.s2 w h2),cV (G2),cV (fun w=>RValid_ok r.n3 r.s3 w h3),cV (G3),cV (fun w=>RValid_no r.n4 r.s4 w h)]
theorem RGcd_bad2' (g:Int) (m:Bool) (t:ByteArray) (w:World) (h2:vld m t=false):Calls Tryz.prog 85 #[vI g,.agg #[.bool m,.string t]] w (RetI 0 w):=by
 have h1:=fun w=>RValid_yes g w
 rw [show RetI 0 w=RetV (.agg #[.bool false,.string ⟨#[]⟩]) w from by unfold RetI RetV;rw [vI_zero]]
 show Calls Tryz.prog 85 #[.agg #[.bool (sg g),.string (mg g)],.agg #[.bool m,.string t]] w _
 exact vm_pure kr Tryz.func85 rfl [.agg #[.bool (sg g),.string (mg g)],.agg #[.bool m,.string t]] nle [] [.f,.f,.f,.f,.t] [cV (h1),cV (fun w=>RValid_no m t w h2)]
theorem rg_ex (g:Int) (n:Bool) (s:ByteArray) (hg:Bd 80000000 g) (hs:s.size≤80000000):∃ g',Bd 80000000 g'∧∀ w,Calls Tryz.prog 85 #[vI g,.agg #[.bool n,.string s]] w (RetI g' w):=by
 cases hv:vld n s with
 | false=>exact ⟨0,Bd.zero _,fun w=>RGcd_bad2' g n s w hv⟩
 | true =>
  obtain ⟨e1,e2⟩:=vld_form hv
  have hb:Bd 80000000 (ival n s):=by
   have:=Bd.of_size (ival n s)
   rw [← e2] at this
   exact this.mono hs
  refine ⟨_,hg.gcd hb,fun w=>?_⟩
  have h:=RGcd_any g (ival n s) w hg hb
  have e:vI (ival n s) = .agg #[.bool n,.string s]:=by unfold vI;rw [← e1,← e2]
  rwa [e] at h
theorem gValid_pos (x:Nm) (q:Nat→Int) (w:World) (h:BN 80000000 x) (W:∀ w,Calls Tryz.prog 50 #[vN x] w (RetV (.tuple #[.agg (c5 q),.bool false]) w)) (hd:0<x.d) (hc:cof x=1):Calls Tryz.prog 42 #[vN x] w (RetV (.bool true) w):=by
 obtain ⟨g1,hg1⟩:∃ g:Nat,g=Nat.gcd 0 x.c0.natAbs:=⟨_,rfl⟩
 obtain ⟨g2,hg2⟩:∃ g:Nat,g=g1.gcd x.c1.natAbs:=⟨_,rfl⟩
 obtain ⟨g3,hg3⟩:∃ g:Nat,g=g2.gcd x.c2.natAbs:=⟨_,rfl⟩
 obtain ⟨g4,hg4⟩:∃ g:Nat,g=g3.gcd x.c3.natAbs:=⟨_,rfl⟩
 obtain ⟨g5,hg5⟩:∃ g:Nat,g=g4.gcd x.d.natAbs:=⟨_,rfl⟩
 have b1:=(Bd.zero 80000000).gcd h.h0
 rw [show Int.natAbs 0=0 from rfl,← hg1] at b1
 have b2:=b1.gcd h.h1
 rw [Int.natAbs_natCast,← hg2] at b2
 have b3:=b2.gcd h.h2
 rw [Int.natAbs_natCast,← hg3] at b3
 have b4:=b3.gcd h.h3
 rw [Int.natAbs_natCast,← hg4] at b4
 have G0:=fun w=>RGcd_any 0 x.c0 w (Bd.zero _) h.h0
 have G1:=fun w=>RGcd_any (g1:Int) x.c1 w b1 h.h1
 have G2:=fun w=>RGcd_any (g2:Int) x.c2 w b2 h.h2
 have G3:=fun w=>RGcd_any (g3:Int) x.c3 w b3 h.h3
 have G4:=fun w=>RGcd_any (g4:Int) x.d w b4 h.h4
 simp only [show Int.natAbs 0=0 from rfl,Int.natAbs_natCast,← hg1,← hg2,← hg3,← hg4,← hg5] at G0 G1 G2 G3 G4
 rw [vI_zero] at G0
 have hg:g5=cof x:=by
  rw [hg5,hg4,hg3,hg2,hg1,Nat.gcd_zero_left]
  unfold cof
  rw [Nat.gcd_comm _ x.d.natAbs,← Nat.gcd_assoc,← Nat.gcd_assoc,← Nat.gcd_assoc]
 have V0:=fun w=>RValid_yes x.c0 w
 have V1:=fun w=>RValid_yes x.c1 w
 have V2:=fun w=>RValid_yes x.c2 w
 have V3:=fun w=>RValid_yes x.c3 w
 have V4:=fun w=>RValid_yes x.d w
 have S:=fun w=>RSign_any x.d w
 have hO:=fun w=>ROf_any 1 w (by omega) (by omega)
 have hs:decide (0<x.d.sign)=true:=by first | exact decide_eq_true (by rw [Int.sign_eq_one_of_pos hd];omega) | exact decide_eq_false (by rw [Int.sign_eq_one_of_pos hd];omega)
 have hg:(g5:Int)=(cof x:Nat):=by rw [hg]
 generalize (g5:Int)=g at *
 clear hg1 hg2 hg3 hg4 hg5 b1 b2 b3 b4
 rw [hg,hc] at G4
 exact vm_pure kr Tryz.func42 rfl [.agg #[.bool (sg x.c0),.string (mg x.c0),.bool (sg x.c1),.string (mg x.c1),.bool (sg x.c2),.string (mg x.c2),.bool (sg x.c3),.string (mg x.c3),.bool (sg x.d),.string (mg x.d)]] nle [(11,15)] [.f,.t,.f,.t,.f,.t,.f,.t,.f,.f,.t,.t,.t,.t,.t,(.p _ true hs),(.p _ true hs),(.p _ true hs),(.p _ true hs),(.p _ true hs),(.p _ true hs),(.p _ true hs)] [cV (W),cV (V0),cV (G0),cV (V1),cV (G1),cV (V2),cV (G2),cV (V3),cV (G3),cV (V4),cV (S),cV (G4),cV (hO),lV _ (.bool true) (fun w hC=>eqI_same (1) (.tmp 51) (.tmp 52) w)]
theorem gValid_neg (x:Nm) (q:Nat→Int) (w:World) (h:BN 80000000 x) (W:∀ w,Calls Tryz.prog 50 #[vN x] w (RetV (.tuple #[.agg (c5 q),.bool false]) w)) (hd:x.d≤0):Calls Tryz.prog 42 #[vN x] w (RetV (.bool false) w):=by
 obtain ⟨g1,hg1⟩:∃ g:Nat,g=Nat.gcd 0 x.c0.natAbs:=⟨_,rfl⟩
 obtain ⟨g2,hg2⟩:∃ g:Nat,g=g1.gcd x.c1.natAbs:=⟨_,rfl⟩
 obtain ⟨g3,hg3⟩:∃ g:Nat,g=g2.gcd x.c2.natAbs:=⟨_,rfl⟩
 obtain ⟨g4,hg4⟩:∃ g:Nat,g=g3.gcd x.c3.natAbs:=⟨_,rfl⟩
 obtain ⟨g5,hg5⟩:∃ g:Nat,g=g4.gcd x.d.natAbs:=⟨_,rfl⟩
 have b1:=(Bd.zero 80000000).gcd h.h0
 rw [show Int.natAbs 0=0 from rfl,← hg1] at b1
 have b2:=b1.gcd h.h1
 rw [Int.natAbs_natCast,← hg2] at b2
 have b3:=b2.gcd h.h2
 rw [Int.natAbs_natCast,← hg3] at b3
 have b4:=b3.gcd h.h3
 rw [Int.natAbs_natCast,← hg4] at b4
 have G0:=fun w=>RGcd_any 0 x.c0 w (Bd.zero _) h.h0
 have G1:=fun w=>RGcd_any (g1:Int) x.c1 w b1 h.h1
 have G2:=fun w=>RGcd_any (g2:Int) x.c2 w b2 h.h2
 have G3:=fun w=>RGcd_any (g3:Int) x.c3 w b3 h.h3
 have G4:=fun w=>RGcd_any (g4:Int) x.d w b4 h.h4
 simp only [show Int.natAbs 0=0 from rfl,Int.natAbs_natCast,← hg1,← hg2,← hg3,← hg4,← hg5] at G0 G1 G2 G3 G4
 rw [vI_zero] at G0
 have hg:g5=cof x:=by
  rw [hg5,hg4,hg3,hg2,hg1,Nat.gcd_zero_left]
  unfold cof
  rw [Nat.gcd_comm _ x.d.natAbs,← Nat.gcd_assoc,← Nat.gcd_assoc,← Nat.gcd_assoc]
 have V0:=fun w=>RValid_yes x.c0 w
 have V1:=fun w=>RValid_yes x.c1 w
 have V2:=fun w=>RValid_yes x.c2 w
 have V3:=fun w=>RValid_yes x.c3 w
 have V4:=fun w=>RValid_yes x.d w
 have S:=fun w=>RSign_any x.d w
 have hO:=fun w=>ROf_any 1 w (by omega) (by omega)
 have hs:decide (0<x.d.sign)=false:=by first | exact decide_eq_true (by have:=Int.sign_nonpos_iff.2 hd;omega) | exact decide_eq_false (by have:=Int.sign_nonpos_iff.2 hd;omega)
 have hg:(g5:Int)=(cof x:Nat):=by rw [hg]
 generalize (g5:Int)=g at *
 clear hg1 hg2 hg3 hg4 hg5 b1 b2 b3 b4
 skip
 exact vm_pure kr Tryz.func42 rfl [.agg #[.bool (sg x.c0),.string (mg x.c0),.bool (sg x.c1),.string (mg x.c1),.bool (sg x.c2),.string (mg x.c2),.bool (sg x.c3),.string (mg x.c3),.bool (sg x.d),.string (mg x.d)]] nle [] [.f,.t,.f,.t,.f,.t,.f,.t,.f,.f,.t,.t,.t,.t,.t,(.p _ false hs),(.p _ false hs),(.p _ false hs),(.p _ false hs),(.p _ false hs),(.p _ false hs),(.p _ false hs)] [cV (W),cV (V0),cV (G0),cV (V1),cV (G1),cV (V2),cV (G2),cV (V3),cV (G3),cV (V4),cV (S)]
theorem gValid_bad (x:Nm) (q:Nat→Int) (w:World) (h:BN 80000000 x) (W:∀ w,Calls Tryz.prog 50 #[vN x] w (RetV (.tuple #[.agg (c5 q),.bool false]) w)) (hd:0<x.d) (hc:cof x≠1):Calls Tryz.prog 42 #[vN x] w (RetV (.bool false) w):=by
 obtain ⟨g1,hg1⟩:∃ g:Nat,g=Nat.gcd 0 x.c0.natAbs:=⟨_,rfl⟩
 obtain ⟨g2,hg2⟩:∃ g:Nat,g=g1.gcd x.c1.natAbs:=⟨_,rfl⟩
 obtain ⟨g3,hg3⟩:∃ g:Nat,g=g2.gcd x.c2.natAbs:=⟨_,rfl⟩
 obtain ⟨g4,hg4⟩:∃ g:Nat,g=g3.gcd x.c3.natAbs:=⟨_,rfl⟩
 obtain ⟨g5,hg5⟩:∃ g:Nat,g=g4.gcd x.d.natAbs:=⟨_,rfl⟩
 have b1:=(Bd.zero 80000000).gcd h.h0
 rw [show Int.natAbs 0=0 from rfl,← hg1] at b1
 have b2:=b1.gcd h.h1
 rw [Int.natAbs_natCast,← hg2] at b2
 have b3:=b2.gcd h.h2
 rw [Int.natAbs_natCast,← hg3] at b3
 have b4:=b3.gcd h.h3
 rw [Int.natAbs_natCast,← hg4] at b4
 have G0:=fun w=>RGcd_any 0 x.c0 w (Bd.zero _) h.h0
 have G1:=fun w=>RGcd_any (g1:Int) x.c1 w b1 h.h1
 have G2:=fun w=>RGcd_any (g2:Int) x.c2 w b2 h.h2
 have G3:=fun w=>RGcd_any (g3:Int) x.c3 w b3 h.h3
 have G4:=fun w=>RGcd_any (g4:Int) x.d w b4 h.h4
 simp only [show Int.natAbs 0=0 from rfl,Int.natAbs_natCast,← hg1,← hg2,← hg3,← hg4,← hg5] at G0 G1 G2 G3 G4
 rw [vI_zero] at G0
 have hg:g5=cof x:=by
  rw [hg5,hg4,hg3,hg2,hg1,Nat.gcd_zero_left]
  unfold cof
  rw [Nat.gcd_comm _ x.d.natAbs,← Nat.gcd_assoc,← Nat.gcd_assoc,← Nat.gcd_assoc]
 have V0:=fun w=>RValid_yes x.c0 w
 have V1:=fun w=>RValid_yes x.c1 w
 have V2:=fun w=>RValid_yes x.c2 w
 have V3:=fun w=>RValid_yes x.c3 w
 have V4:=fun w=>RValid_yes x.d w
 have S:=fun w=>RSign_any x.d w
 have hO:=fun w=>ROf_any 1 w (by omega) (by omega)
 have hs:decide (0<x.d.sign)=true:=by first | exact decide_eq_true (by rw [Int.sign_eq_one_of_pos hd];omega) | exact decide_eq_false (by rw [Int.sign_eq_one_of_pos hd];omega)
 have hg:(g5:Int)=(cof x:Nat):=by rw [hg]
 generalize (g5:Int)=g at *
 clear hg1 hg2 hg3 hg4 hg5 b1 b2 b3 b4
 have h1:g≠1:=by rw [hg];omega
 exact vm_pure kr Tryz.func42 rfl [.agg #[.bool (sg x.c0),.string (mg x.c0),.bool (sg x.c1),.string (mg x.c1),.bool (sg x.c2),.string (mg x.c2),.bool (sg x.c3),.string (mg x.c3),.bool (sg x.d),.string (mg x.d)]] nle [(11,15)] [.f,.t,.f,.t,.f,.t,.f,.t,.f,.f,.t,.t,.t,.t,.t,(.p _ true hs),(.p _ true hs),(.p _ true hs),(.p _ true hs),(.p _ true hs),(.p _ true hs),(.p _ true hs)] [cV (W),cV (V0),cV (G0),cV (V1),cV (G1),cV (V2),cV (G2),cV (V3),cV (G3),cV (V4),cV (S),cV (G4),cV (hO),lV _ (.bool false) (fun w hC=>eqI_diff (g) (1) (h1) (.tmp 51) (.tmp 52) w)]
theorem gValid_any (r:Rw) (w:World) (hs:smallR 80000000 r):Calls Tryz.prog 42 #[vR r] w (RetV (.bool (okR r)) w):=by
 by_cases hsm:allSm r
 ·exact gValid_small r w hsm
 ·obtain ⟨q,W⟩:=gwords_no r hsm
  have no:vldR r=false→okR r=false:=fun h=>by unfold okR;rw [h];rfl
  obtain ⟨hs0,hs1,hs2,hs3,hs4⟩:=id hs
  obtain ⟨g0,b0,G0⟩:=rg_ex 0 r.n0 r.s0 (Bd.zero _) hs0
  obtain ⟨g1,b1,G1⟩:=rg_ex g0 r.n1 r.s1 b0 hs1
  obtain ⟨g2,b2,G2⟩:=rg_ex g1 r.n2 r.s2 b1 hs2
  obtain ⟨g3,b3,G3⟩:=rg_ex g2 r.n3 r.s3 b2 hs3
  rw [vI_zero] at G0
  cases h0:vld r.n0 r.s0 with
  | false=>rw [no (by unfold vldR;rw [h0];rfl)];exact gValid_r0 r q g0 g1 g2 g3 w W G0 G1 G2 G3 h0
  | true =>
   cases h1:vld r.n1 r.s1 with
   | false=>rw [no (by unfold vldR;rw [h0,h1];rfl)];exact gValid_r1 r q g0 g1 g2 g3 w W G0 G1 G2 G3 h0 h1
   | true =>
    cases h2:vld r.n2 r.s2 with
    | false=>rw [no (by unfold vldR;rw [h0,h1,h2];rfl)];exact gValid_r2 r q g0 g1 g2 g3 w W G0 G1 G2 G3 h0 h1 h2
    | true =>
     cases h3:vld r.n3 r.s3 with
     | false=>rw [no (by unfold vldR;rw [h0,h1,h2,h3];rfl)];exact gValid_r3 r q g0 g1 g2 g3 w W G0 G1 G2 G3 h0 h1 h2 h3
     | true =>
      cases h4:vld r.n4 r.s4 with
      | false=>rw [no (by unfold vldR;rw [h0,h1,h2,h3,h4];rfl)];exact gValid_r4 r q g0 g1 g2 g3 w W G0 G1 G2 G3 h0 h1 h2 h3 h4
      | true =>
       have hv:vldR r=true:=by unfold vldR;rw [h0,h1,h2,h3,h4];rfl
       have hb:=BN_R hs hv
       have e:okR r=(decide (0<(nmR r).d) && decide (cof (nmR r)=1)):=by unfold okR;rw [hv];rfl
       rw [vR_eq hv] at W
       rw [vR_eq hv,e]
       clear G0 G1 G2 G3 h0 h1 h2 h3 h4 hsm no
       generalize nmR r=x at *
       by_cases hd:0<x.d
       ·rw [decide_eq_true hd]
        by_cases hc:cof x=1
        ·rw [decide_eq_true hc];exact gValid_pos x q w hb W hd hc
        ·rw [decide_eq_false hc];exact gValid_bad x q w hb W hd hc
       ·rw [decide_eq_false hd];exact gValid_neg x q w hb W (by omega)
theorem gValid_yes (x:Nm) (w:World) (hb:BN 80000000 x) (h:Ok x):Calls Tryz.prog 42 #[vN x] w (RetV (.bool true) w):=by
 let r:Rw:=⟨sg x.c0,mg x.c0,sg x.c1,mg x.c1,sg x.c2,mg x.c2,sg x.c3,mg x.c3,sg x.d,mg x.d⟩
 have hv:vldR r=true:=by unfold vldR;simp only [r,vld_sg];rfl
 have hn:nmR r=x:=by unfold nmR;simp only [r,ival_sg]
 have ho:okR r=true:=by
  unfold okR
  rw [hv,hn,decide_eq_true h.pos,decide_eq_true h.cop]
  rfl
 have:=gValid_any r w ⟨hb.h0.size,hb.h1.size,hb.h2.size,hb.h3.size,hb.h4.size⟩
 rwa [ho] at this

def rawB (r:Rw):Bool:=decide (r.s0.size≤20) && decide (r.s1.size≤20) && decide (r.s2.size≤20) && decide (r.s3.size≤20) && decide (r.s4.size≤20)
theorem smallR.mono {a b:Nat} {r:Rw} (h:smallR a r) (hab:a≤b):smallR b r:=by
 obtain ⟨h0,h1,h2,h3,h4⟩:=h
 exact ⟨by omega,by omega,by omega,by omega,by omega⟩
def cells1 (u:Rw):Array Value:=#[.bool u.n0,.string u.s0,.bool u.n1,.string u.s1,.bool u.n2,.string u.s2,.bool u.n3,.string u.s3,.bool u.n4,.string u.s4]
def cells2 (u v:Rw):Array Value:=#[.bool u.n0,.string u.s0,.bool u.n1,.string u.s1,.bool u.n2,.string u.s2,.bool u.n3,.string u.s3,.bool u.n4,.string u.s4,.bool v.n0,.string v.s0,.bool v.n1,.string v.s1,.bool v.n2,.string v.s2,.bool v.n3,.string v.s3,.bool v.n4,.string v.s4]
def cells3 (u v x:Rw):Array Value:=#[.bool u.n0,.string u.s0,.bool u.n1,.string u.s1,.bool u.n2,.string u.s2,.bool u.n3,.string u.s3,.bool u.n4,.string u.s4,.bool v.n0,.string v.s0,.bool v.n1,.string v.s1,.bool v.n2,.string v.s2,.bool v.n3,.string v.s3,.bool v.n4,.string v.s4,.bool x.n0,.string x.s0,.bool x.n1,.string x.s1,.bool x.n2,.string x.s2,.bool x.n3,.string x.s3,.bool x.n4,.string x.s4]
def rwN (x:Nm):Rw:=⟨sg x.c0,mg x.c0,sg x.c1,mg x.c1,sg x.c2,mg x.c2,sg x.c3,mg x.c3,sg x.d,mg x.d⟩
end Go.Proofs.YtlhddcingeneaaaGreatDoor
