/- Tables printed: the program and the reference. -/
import Derived.Test.YtlhddcingeneaaaGreatDoorPSGemQ
import Derived.Test.YtlhddcingeneaaaGreatDoorPSY
namespace Go.Proofs.YtlhddcingeneaaaGreatDoor
open Go Go.RowKit
set_option maxRecDepth 100000
set_option linter.unusedVariables false
set_option linter.unusedSimpArgs false
def txtM (m:Mt):List UInt8:=m.nm ++ [32]++dgN m.d.toNat ++ [32]++dgN m.i.toNat ++ [32]++dgN m.h.toNat
def prT (l:List Mt):List (List UInt8) × Int:=if validT l=true then (l.map txtM,0) else ([],1)
theorem itoa_dg {z:Int} (h:1≤z):Lib.itoa z=dgN z.toNat:=by
 unfold Lib.itoa dgN
 rw [if_neg (by omega),if_neg (by omega)]
theorem right_bd {m:Mt} (h:rightM m=true):(1≤m.d∧m.d≤30000)∧(1≤m.i∧m.i≤4000)∧1≤m.h∧m.h≤100:=by
 unfold rightM at h
 simp only [Bool.and_eq_true,decide_eq_true_eq] at h
 omega
theorem ok_all:∀ (l:List Mt) (p:Option (List UInt8)),okFrom p l=true→∀ m,m ∈ l→rightM m=true
 | [],_,_,m,hm=>absurd hm (List.not_mem_nil)
 | x :: l,p,h,m,hm=>by
  unfold okFrom at h
  rw [Bool.and_eq_true,Bool.and_eq_true] at h
  rcases List.mem_cons.1 hm with rfl | hm
  ·exact h.1.1
  ·exact ok_all l _ h.2 m hm
theorem valid_all {l:List Mt} (h:validT l=true):∀ m,m ∈ l→rightM m=true:=by
 unfold validT at h
 rw [Bool.and_eq_true] at h
 exact ok_all l none h.1
theorem txt_adds (a b c d:List UInt8) (ha:a.length≤1000000) (hb:b.length≤1000000) (hc:c.length≤1000000) (hd:d.length≤1000000):∃ t1 t2 t3 t4 t5 t6:List UInt8,t6=a ++ [32]++b ++ [32]++c ++ [32]++d ∧
  (∀ w,(Op.stringOp .add ⟨a.toArray⟩ ⟨[32].toArray⟩).run Tryz.prog w = .ok (.string ⟨t1.toArray⟩) w)∧(∀ w,(Op.stringOp .add ⟨t1.toArray⟩ ⟨b.toArray⟩).run Tryz.prog w = .ok (.string ⟨t2.toArray⟩) w) ∧
  (∀ w,(Op.stringOp .add ⟨t2.toArray⟩ ⟨[32].toArray⟩).run Tryz.prog w = .ok (.string ⟨t3.toArray⟩) w)∧(∀ w,(Op.stringOp .add ⟨t3.toArray⟩ ⟨c.toArray⟩).run Tryz.prog w = .ok (.string ⟨t4.toArray⟩) w) ∧
  (∀ w,(Op.stringOp .add ⟨t4.toArray⟩ ⟨[32].toArray⟩).run Tryz.prog w = .ok (.string ⟨t5.toArray⟩) w)∧(∀ w,(Op.stringOp .add ⟨t5.toArray⟩ ⟨d.toArray⟩).run Tryz.prog w = .ok (.string ⟨t6.toArray⟩) w) :=
 ⟨_,_,_,_,_,_,rfl,fun w=>gadd a [32] (by omega) (by simp) w,fun w=>gadd (a ++ [32]) b (by simp;omega) (by omega) w,fun w=>gadd (a ++ [32]++b) [32] (by simp;omega) (by simp) w,fun w=>gadd (a ++ [32]++b ++ [32]) c (by simp;omega) (by omega) w,fun w=>gadd (a ++ [32]++b ++ [32]++c) [32] (by simp;omega) (by simp) w,fun w=>gadd (a ++ [32]++b ++ [32]++c ++ [32]) d (by simp;omega) (by omega) w⟩
noncomputable def gpN:Nat:=Tryz.f19.ntmps
noncomputable def gpC:Code:=Tryz.f19.body.getD .skip
noncomputable def gp0:Code:=cB 0 gpC
theorem gmPrint_any (l:List Mt) (base:Option Addr) (c:Nat) (w:World) (hG:GW w) (hR:RdS w base (encM l)) (hn:l.length≤1000000) (hm:∀ m,m ∈ l→m.nm.length≤1000000):Calls Tryz.prog 19 #[.slice base l.length c] w (RetId (prT l) w):=by
 unfold prT
 refine vm_start [.slice base l.length c] (fn:=Tryz.f19) (c:=gpC) kr kr nle ?_
 intro a hS
 have hS:St gpN [(0,(.slice base l.length c,0))] a:=hS
 have hV:∀ w',Chg [] w w'→Calls Tryz.prog 37 #[.slice base l.length c] w' (RetV (.bool (validT l)) w'):=fun w' hc=>gmValid_any l base c w' (hR.bl hc.bl0) hn hm
 cases hv:validT l with
 | false =>
  rw [hv] at hV
  rw [if_neg (by decide)]
  refine wpL_one ?_
  refine vm_fragA (X:=⟨w,[]⟩) kr [] gpN [gpC] (ne_nil kr) (fun r=>[(0,(.slice base l.length c,0))]) (fun r=>[]) 0 (fun _=>(0,0)) (hS) (memOk0 w _) (fun r hr=>⟨rfl,rfl⟩) (keysLt_all kr) [.t] [cW hV] (VEx.r) (fun r=>[(2,(.slice none 0 0,0)),(3,(.int .i64 (1),0))]) [] (fun r=>[]) (fun r g=>by kernel_rfl) (fun r g=>by kernel_rfl) ?_
  intro r a1 w1 hr hS1 hK1 hM1
  exact vm_out (fn:=Tryz.f19) hS1 (.tuple #[.slice none 0 0,.int .i64 1]) (fun g=>by kernel_rfl) ⟨.slice none 0 0,rfl,.inl ⟨rfl,rfl,rfl⟩,hM1.below.bl0⟩
 | true =>
 rw [hv] at hV
 rw [if_pos rfl]
 have hval:=valid_all hv
 refine wp_cut 0 kr ?_
 refine vm_fragA (X:=⟨w,[]⟩) kr [] gpN (cPre 0 gpC) (ne_nil kr) (fun r=>[(0,(.slice base l.length c,0))]) (fun r=>[]) 0 (fun _=>(0,0)) (hS) (memOk0 w _) (fun r hr=>⟨rfl,rfl⟩) (keysLt_all kr) [.f] [cW hV] (VEx.n) (fun r=>[(4,(.slice none 0 0,0)),(10,(.slice base l.length c,0)),(11,(.int .i64 (((l.length:Nat):Int)),0)),(12,(.int .i64 (((0:Nat):Int)),0))]) [] (fun r=>[]) (fun r g=>by kernel_rfl) (fun r g=>by kernel_rfl) ?_
 intro r a1 w1 hr hS1 hK1 hM1
 have hB1:=hM1.below.bl0
 have hR1:=hR.bl hB1
 have hS1:St gpN [(4,(.slice none 0 0,0)),(10,(.slice base l.length c,0)),(11,(.int .i64 ((l.length:Nat):Int),0)),(12,(.int .i64 ((0:Nat):Int),0))] a1:=hS1.re rfl
 refine wp_for 0 kr kr (fun n a' w'=>∃ j acc sv,l.length - j=n∧j≤l.length∧acc.length=j∧l.map txtM=acc++(l.drop j).map txtM∧SlG 9 zSc w1 w' sv acc.length (encS acc)∧St gpN [(4,(sv,0)),(10,(.slice base l.length c,0)),(11,(.int .i64 ((l.length:Nat):Int),0)),(12,(.int .i64 (j:Int),0))] a'∧Below w1.heap.size w1 w') (l.length - 0) ⟨0,[],.slice none 0 0,rfl,by omega,rfl,rfl,.inl ⟨rfl,rfl,rfl⟩,hS1,Below.refl _ _⟩ ?_
 clear hS1 hM1 hS hK1 hr hV
 rintro n a2 w2 ⟨j,acc,sv,rfl,hj,hacc,hids,hsl,hS2,hB2⟩
 have hsz2:=hB2.size
 refine wpL_one ?_
 rcases Nat.lt_or_ge j l.length with hjl | hjl
 ·have h2:decide ((j:Int)<((l.length:Nat):Int))=true:=decide_eq_true (by omega)
  obtain ⟨bl,o,rfl,hA⟩:=hR1.at j hjl
  have hbl:bl<w1.heap.size:=lt_of_cell (hA j hjl).c0
  have hAj:MAt w2 bl (o+j * 4) l[j]:=by
   obtain ⟨bl',o',e,hA'⟩:=(hR1.bl hB2).at j hjl
   cases e
   exact hA' j hjl
  rw [List.drop_eq_getElem_cons hjl,List.map_cons] at hids
  have hrt:=right_bd (hval _ (List.getElem_mem hjl))
  have hml:=hm _ (List.getElem_mem hjl)
  generalize l[j]=m at *
  obtain ⟨⟨d1,d2⟩,⟨i1,i2⟩,e1,e2⟩:=hrt
  have v1:IntKind.i64.wrap ((j:Int)+1)=((j+1:Nat):Int):=by rw [wr64 (by omega) (by omega)];omega
  have K0:∀ w',GW w'→Calls Tryz.prog 62 #[.int .i64 m.d] w' (RetV (.string ⟨(dgN m.d.toNat).toArray⟩) w'):=fun w' hg=>by
   have:=Itoa_any m.d (by omega) (by omega) w' hg.tab
   rwa [itoa_dg (by omega)] at this
  have K1:∀ w',GW w'→Calls Tryz.prog 62 #[.int .i64 m.i] w' (RetV (.string ⟨(dgN m.i.toNat).toArray⟩) w'):=fun w' hg=>by
   have:=Itoa_any m.i (by omega) (by omega) w' hg.tab
   rwa [itoa_dg (by omega)] at this
  have K2:∀ w',GW w'→Calls Tryz.prog 62 #[.int .i64 m.h] w' (RetV (.string ⟨(dgN m.h.toNat).toArray⟩) w'):=fun w' hg=>by
   have:=Itoa_any m.h (by omega) (by omega) w' hg.tab
   rwa [itoa_dg (by omega)] at this
  obtain ⟨T1,T2,T3,T4,T5,T6,htx,A0,A1,A2,A3,A4,A5⟩:=txt_adds m.nm (dgN m.d.toNat) (dgN m.i.toNat) (dgN m.h.toNat) hml (by have:=dgN_len m.d.toNat;omega) (by have:=dgN_len m.i.toNat;omega) (by have:=dgN_len m.h.toNat;omega)
  rw [show txtM m=T6 from htx.symm] at hids
  generalize dgN m.d.toNat=D at *
  generalize dgN m.i.toNat=I at *
  generalize dgN m.h.toNat=E at *
  have hids2:l.map txtM=(acc ++ [T6])++(l.drop (j+1)).map txtM:=by rw [hids];simp
  have hap:encS (acc ++ [T6])=encS acc ++ [.string ⟨(T6).toArray⟩]:=encS_app _ _
  have hlen:(acc ++ [T6]).length=acc.length+1:=by simp
  have hel:=encS_len acc
  have hac:acc.length≤1000000:=by omega
  clear hids hval hm hml d1 d2 i1 i2 e1 e2 htx
  rcases hsl with ⟨h0,hx0,rfl⟩ | ⟨b,sp,h0,rfl,hbw,hBk⟩
  ·obtain rfl:acc = []:=List.eq_nil_of_length_eq_zero h0
   have H0:∀ w',Chg [] w2 w'→Calls Tryz.prog 62 #[.int .i64 m.d] w' (RetV (.string ⟨(D).toArray⟩) w'):=fun w' hc=>K0 w' (hG.below (hB1.trans ((hB2.trans (hc.bl0.mono hB2.size)).mono hB1.size)))
   have H1:∀ w',Chg [] w2 w'→Calls Tryz.prog 62 #[.int .i64 m.i] w' (RetV (.string ⟨(I).toArray⟩) w'):=fun w' hc=>K1 w' (hG.below (hB1.trans ((hB2.trans (hc.bl0.mono hB2.size)).mono hB1.size)))
   have H2:∀ w',Chg [] w2 w'→Calls Tryz.prog 62 #[.int .i64 m.h] w' (RetV (.string ⟨(E).toArray⟩) w'):=fun w' hc=>K2 w' (hG.below (hB1.trans ((hB2.trans (hc.bl0.mono hB2.size)).mono hB1.size)))
   refine vm_fragA (X:=⟨w2,[]⟩) kr [(6,0),(6,1),(7,3),(7,7),(7,8),(7,12),(7,13),(7,17),(7,19),(8,0)] gpN [cI (cI gp0)] (ne_nil kr) (fun r=>[(4,(.slice none 0 0,0)),(10,(.slice (some ⟨bl,o,none⟩) l.length c,0)),(11,(.int .i64 (((l.length:Nat):Int)),0)),(12,(.int .i64 ((j:Int)),0))]) (fun r=>[]) 0 (fun _=>(0,0)) (hS2) (memOk0 w2 _) (fun r hr=>⟨rfl,rfl⟩) (keysLt_all kr) [(.p _ true h2)] [lV (Instr.indexAt 48 (.slice (some ⟨bl,o,none⟩) (l.length) (c)) (.int .i64 ((j:Int)))) (.pointer (some ⟨bl,o+j * 4,none⟩)) (fun w hC=>ixM j w (by omega) (by omega) (by omega)),lV (Instr.loadAt 23 (.pointer (some ⟨bl,o+j * 4,none⟩))) (vMt m) (fun w hC=>ldM (hAj.chg hC)),lV (Op.stringOp .add ⟨(m.nm).toArray⟩ ⟨([32]).toArray⟩) (.string ⟨(T1).toArray⟩) (fun w hC=>A0 w),cW H0,lV (Op.stringOp .add ⟨(T1).toArray⟩ ⟨(D).toArray⟩) (.string ⟨(T2).toArray⟩) (fun w hC=>A1 w),lV (Op.stringOp .add ⟨(T2).toArray⟩ ⟨([32]).toArray⟩) (.string ⟨(T3).toArray⟩) (fun w hC=>A2 w),cW H1,lV (Op.stringOp .add ⟨(T3).toArray⟩ ⟨(I).toArray⟩) (.string ⟨(T4).toArray⟩) (fun w hC=>A3 w),lV (Op.stringOp .add ⟨(T4).toArray⟩ ⟨([32]).toArray⟩) (.string ⟨(T5).toArray⟩) (fun w hC=>A4 w),cW H2,lV (Op.stringOp .add ⟨(T5).toArray⟩ ⟨(E).toArray⟩) (.string ⟨(T6).toArray⟩) (fun w hC=>A5 w),lAN slT_S 23 none 0 0 [] [Value.string ⟨(T6).toArray⟩] (fun w _=>.inl rfl) rfl (fun _=>rfl) rfl rfl (Nat.le_refl 0) (by omega),lE .i64 ((((j:Int)):Int)+((1):Int)) (((j+1:Nat):Int)) (v1)] (VEx.n) (fun r=>[(4,(.slice (some ⟨(r 24).1,0,none⟩) (0+1) (0+1+(r 24).2),25)),(10,(.slice (some ⟨bl,o,none⟩) l.length c,0)),(11,(.int .i64 (((l.length:Nat):Int)),0)),(12,(.int .i64 (((j+1:Nat):Int)),0))]) [] (fun r=>[(24,(9,([] ++ [Value.string ⟨(T6).toArray⟩]++zc zSc (r 24).2).toArray))]) (fun r g=>by kernel_rfl) (fun r g=>by kernel_rfl) ?_
   intro r a3 w3 hr hS3 hK3 hM3
   have hh:=hM3.has 24 _ rfl
   have hb3:=hM3.below.bl0
   exact ⟨l.length - (j+1),by omega,j+1,[T6],_,rfl,by omega,by simp at hacc ⊢;omega,hids2,.inr ⟨(r 24).1,(r 24).2,by simp,rfl,Nat.le_trans hB2.size (own_nil hh.2),hh.1⟩,hS3.re rfl,hB2.trans (hb3.mono hB2.size)⟩
  ·have hcl:∀ w',Chg [b] w2 w'→∀ b' j v,b'≠b→w2.cell? ⟨b',j,none⟩=some v→w'.cell? ⟨b',j,none⟩=some v:=fun w' hC b' j v hne h=>hC.cell (by rw [List.mem_singleton];exact hne) h
   have hAC:∀ w',Chg [b] w2 w'→MAt w' bl (o+j * 4) m:=fun w' hC=>⟨hcl w' hC _ _ _ (by omega) hAj.c0,hcl w' hC _ _ _ (by omega) hAj.c1,hcl w' hC _ _ _ (by omega) hAj.c2,hcl w' hC _ _ _ (by omega) hAj.c3⟩
   have hw3:∀ w',Chg [b] w2 w'→Below w1.heap.size w1 w':=fun w' hC=>hB2.trans (hC.below hB2.size (fun y hy=>by rw [List.mem_singleton] at hy;omega))
   have hlt:=hBk.lt
   have H0:∀ w',Chg [b] w2 w'→Calls Tryz.prog 62 #[.int .i64 m.d] w' (RetV (.string ⟨(D).toArray⟩) w'):=fun w' hc=>K0 w' (hG.below (hB1.trans ((hw3 w' hc).mono hB1.size)))
   have H1:∀ w',Chg [b] w2 w'→Calls Tryz.prog 62 #[.int .i64 m.i] w' (RetV (.string ⟨(I).toArray⟩) w'):=fun w' hc=>K1 w' (hG.below (hB1.trans ((hw3 w' hc).mono hB1.size)))
   have H2:∀ w',Chg [b] w2 w'→Calls Tryz.prog 62 #[.int .i64 m.h] w' (RetV (.string ⟨(E).toArray⟩) w'):=fun w' hc=>K2 w' (hG.below (hB1.trans ((hw3 w' hc).mono hB1.size)))
   cases sp with
   | zero =>
    refine vm_fragA (X:=⟨w2,[b]⟩) kr [(6,0),(6,1),(7,3),(7,7),(7,8),(7,12),(7,13),(7,17),(7,19),(8,0)] gpN [cI (cI gp0)] (ne_nil kr) (fun r=>[(4,(.slice (some ⟨(r 0).1,0,none⟩) (acc.length) (acc.length+0),1)),(10,(.slice (some ⟨bl,o,none⟩) l.length c,0)),(11,(.int .i64 (((l.length:Nat):Int)),0)),(12,(.int .i64 ((j:Int)),0))]) (fun r=>[(0,(9,(encS acc++zc zSc 0).toArray))]) 1 (fun _=>(b,0)) (hS2.re rfl) (memOk1 hBk) (fun r hr=>⟨by simp only [hr 0 (by omega)],rfl⟩) (keysLt_all kr) [(.p _ true h2)] [lV (Instr.indexAt 48 (.slice (some ⟨bl,o,none⟩) (l.length) (c)) (.int .i64 ((j:Int)))) (.pointer (some ⟨bl,o+j * 4,none⟩)) (fun w hC=>ixM j w (by omega) (by omega) (by omega)),lV (Instr.loadAt 23 (.pointer (some ⟨bl,o+j * 4,none⟩))) (vMt m) (fun w hC=>ldM (hAC w hC)),lV (Op.stringOp .add ⟨(m.nm).toArray⟩ ⟨([32]).toArray⟩) (.string ⟨(T1).toArray⟩) (fun w hC=>A0 w),cW H0,lV (Op.stringOp .add ⟨(T1).toArray⟩ ⟨(D).toArray⟩) (.string ⟨(T2).toArray⟩) (fun w hC=>A1 w),lV (Op.stringOp .add ⟨(T2).toArray⟩ ⟨([32]).toArray⟩) (.string ⟨(T3).toArray⟩) (fun w hC=>A2 w),cW H1,lV (Op.stringOp .add ⟨(T3).toArray⟩ ⟨(I).toArray⟩) (.string ⟨(T4).toArray⟩) (fun w hC=>A3 w),lV (Op.stringOp .add ⟨(T4).toArray⟩ ⟨([32]).toArray⟩) (.string ⟨(T5).toArray⟩) (fun w hC=>A4 w),cW H2,lV (Op.stringOp .add ⟨(T5).toArray⟩ ⟨(E).toArray⟩) (.string ⟨(T6).toArray⟩) (fun w hC=>A5 w),lAF slT_S 0 24 acc.length (acc.length+0) (encS acc) (zc zSc 0) [Value.string ⟨(T6).toArray⟩] (by omega) rfl rfl (by omega) (by omega),lE .i64 ((((j:Int)):Int)+((1):Int)) (((j+1:Nat):Int)) (v1)] (VEx.n) (fun r=>[(4,(.slice (some ⟨(r 25).1,0,none⟩) (acc.length+1) (acc.length+1+(r 25).2),26)),(10,(.slice (some ⟨bl,o,none⟩) l.length c,0)),(11,(.int .i64 (((l.length:Nat):Int)),0)),(12,(.int .i64 (((j+1:Nat):Int)),0))]) [] (fun r=>[(25,(9,(encS acc ++ [Value.string ⟨(T6).toArray⟩]++zc zSc (r 25).2).toArray))]) (fun r g=>by kernel_rfl) (fun r g=>by kernel_rfl) ?_
    intro r a3 w3 hr hS3 hK3 hM3
    have hh:=hM3.has 25 _ rfl
    exact ⟨l.length - (j+1),by omega,j+1,acc ++ [T6],_,rfl,by omega,by omega,hids2,.inr ⟨(r 25).1,(r 25).2,by omega,by rw [hlen],hh.2.elim (fun h=>Nat.le_trans hB2.size h) (fun h=>by rw [List.mem_singleton] at h;rw [show (r 25).1=b from h];exact hbw),by rw [hap];exact hh.1⟩,hS3.re rfl,hw3 w3 hM3.below⟩
   | succ sp =>
    rw [zc_succ,← List.append_assoc] at hBk
    refine vm_fragA (X:=⟨w2,[b]⟩) kr [(6,0),(6,1),(7,3),(7,7),(7,8),(7,12),(7,13),(7,17),(7,19),(8,0)] gpN [cI (cI gp0)] (ne_nil kr) (fun r=>[(4,(.slice (some ⟨(r 0).1,0,none⟩) (acc.length) (acc.length+(sp+1)),1)),(10,(.slice (some ⟨bl,o,none⟩) l.length c,0)),(11,(.int .i64 (((l.length:Nat):Int)),0)),(12,(.int .i64 ((j:Int)),0))]) (fun r=>[(0,(9,(encS acc++zSc.toList++zc zSc sp).toArray))]) 1 (fun _=>(b,0)) (hS2.re rfl) (memOk1 hBk) (fun r hr=>⟨by simp only [hr 0 (by omega)],rfl⟩) (keysLt_all kr) [(.p _ true h2)] [lV (Instr.indexAt 48 (.slice (some ⟨bl,o,none⟩) (l.length) (c)) (.int .i64 ((j:Int)))) (.pointer (some ⟨bl,o+j * 4,none⟩)) (fun w hC=>ixM j w (by omega) (by omega) (by omega)),lV (Instr.loadAt 23 (.pointer (some ⟨bl,o+j * 4,none⟩))) (vMt m) (fun w hC=>ldM (hAC w hC)),lV (Op.stringOp .add ⟨(m.nm).toArray⟩ ⟨([32]).toArray⟩) (.string ⟨(T1).toArray⟩) (fun w hC=>A0 w),cW H0,lV (Op.stringOp .add ⟨(T1).toArray⟩ ⟨(D).toArray⟩) (.string ⟨(T2).toArray⟩) (fun w hC=>A1 w),lV (Op.stringOp .add ⟨(T2).toArray⟩ ⟨([32]).toArray⟩) (.string ⟨(T3).toArray⟩) (fun w hC=>A2 w),cW H1,lV (Op.stringOp .add ⟨(T3).toArray⟩ ⟨(I).toArray⟩) (.string ⟨(T4).toArray⟩) (fun w hC=>A3 w),lV (Op.stringOp .add ⟨(T4).toArray⟩ ⟨([32]).toArray⟩) (.string ⟨(T5).toArray⟩) (fun w hC=>A4 w),cW H2,lV (Op.stringOp .add ⟨(T5).toArray⟩ ⟨(E).toArray⟩) (.string ⟨(T6).toArray⟩) (fun w hC=>A5 w),lAR slT_S 0 24 acc.length (acc.length+(sp+1)) (encS acc) zSc.toList (zc zSc sp) [Value.string ⟨(T6).toArray⟩] (by omega) rfl rfl rfl (by omega),lE .i64 ((((j:Int)):Int)+((1):Int)) (((j+1:Nat):Int)) (v1)] (VEx.n) (fun r=>[(4,(.slice (some ⟨(r 0).1,0,none⟩) (acc.length+1) (acc.length+(sp+1)),1)),(10,(.slice (some ⟨bl,o,none⟩) l.length c,0)),(11,(.int .i64 (((l.length:Nat):Int)),0)),(12,(.int .i64 (((j+1:Nat):Int)),0))]) [] (fun r=>[(0,(9,(encS acc ++ [Value.string ⟨(T6).toArray⟩]++zc zSc sp).toArray))]) (fun r g=>by kernel_rfl) (fun r g=>by kernel_rfl) ?_
    intro r a3 w3 hr hS3 hK3 hM3
    have hh:=hM3.has 0 _ rfl
    have hr0:(r 0).1=b:=congrArg Prod.fst (hr 0 (by omega))
    exact ⟨l.length - (j+1),by omega,j+1,acc ++ [T6],_,rfl,by omega,by omega,hids2,.inr ⟨(r 0).1,sp,by omega,by rw [hlen,show acc.length+1+sp=acc.length+(sp+1) by omega],by rw [hr0];exact hbw,by rw [hap];exact hh.1⟩,hS3.re rfl,hw3 w3 hM3.below⟩
 ·have h2:decide ((j:Int)<((l.length:Nat):Int))=false:=decide_eq_false (by omega)
  obtain rfl:j=l.length:=by omega
  rw [List.drop_length,List.map_nil,List.append_nil] at hids
  refine vm_piece (E0:=[(4,(sv,0)),(10,(.slice base l.length c,0)),(11,(.int .i64 (((l.length:Nat):Int)),0)),(12,(.int .i64 (((l.length:Nat):Int)),0))]) kr [] gpN [cI (cI gp0)] kr hS2 [(.p _ false h2)] [] (VEx.x 0) [(4,(sv,0)),(10,(.slice base l.length c,0)),(11,(.int .i64 (((l.length:Nat):Int)),0)),(12,(.int .i64 (((l.length:Nat):Int)),0))] [] (hQ:=?_)
  intro a3 w3 hS3 hK3 hM3
  refine exit_n (then_n ?_)
  refine vm_piece (E0:=[(4,(sv,0)),(10,(.slice base l.length c,0)),(11,(.int .i64 (((l.length:Nat):Int)),0)),(12,(.int .i64 (((l.length:Nat):Int)),0))]) kr [] gpN (cPost 0 gpC) kr hS3 [] [] (VEx.r) [(2,(sv,0)),(3,(.int .i64 (0),0))] [] (hQ:=?_)
  intro a4 w4 hS4 hK4 hM4
  have hb4:Below w2.heap.size w2 w4:=(hM3.trans hM4).bl0
  refine vm_out (fn:=Tryz.f19) hS4 (.tuple #[sv,.int .i64 0]) (fun g=>by kernel_rfl) ?_
  rw [hids]
  refine ⟨sv,rfl,SlG.old (hsl.keep (hM3.trans hM4)) hB1.size,?_⟩
  exact hB1.trans ((hB2.trans (hb4.mono hB2.size)).mono hB1.size)
noncomputable def gqN:Nat:=Tryz.f20.ntmps
noncomputable def gqC:Code:=Tryz.f20.body.getD .skip
noncomputable def gr0:Code:=cB 0 gqC
theorem gnPrint_any (l:List Mt) (base:Option Addr) (c:Nat) (w:World) (hR:RdS w base (encM l)) (hn:l.length≤1000000) (hm:∀ m,m ∈ l→m.nm.length≤1000000):Calls Tryz.prog 20 #[.slice base l.length c] w (RetId (prT l) w):=by
 unfold prT
 refine vm_start [.slice base l.length c] (fn:=Tryz.f20) (c:=gqC) kr kr nle ?_
 intro a hS
 have hS:St gqN [(0,(.slice base l.length c,0))] a:=hS
 have hV:∀ w',Chg [] w w'→Calls Tryz.prog 38 #[.slice base l.length c] w' (RetV (.bool (validT l)) w'):=fun w' hc=>gnValid_any l base c w' (hR.bl hc.bl0) hn hm
 cases hv:validT l with
 | false =>
  rw [hv] at hV
  rw [if_neg (by decide)]
  refine wpL_one ?_
  refine vm_fragA (X:=⟨w,[]⟩) kr [] gqN [gqC] (ne_nil kr) (fun r=>[(0,(.slice base l.length c,0))]) (fun r=>[]) 0 (fun _=>(0,0)) (hS) (memOk0 w _) (fun r hr=>⟨rfl,rfl⟩) (keysLt_all kr) [.t] [cW hV] (VEx.r) (fun r=>[(2,(.slice none 0 0,0)),(3,(.int .i64 (1),0))]) [] (fun r=>[]) (fun r g=>by kernel_rfl) (fun r g=>by kernel_rfl) ?_
  intro r a1 w1 hr hS1 hK1 hM1
  exact vm_out (fn:=Tryz.f20) hS1 (.tuple #[.slice none 0 0,.int .i64 1]) (fun g=>by kernel_rfl) ⟨.slice none 0 0,rfl,.inl ⟨rfl,rfl,rfl⟩,hM1.below.bl0⟩
 | true =>
 rw [hv] at hV
 rw [if_pos rfl]
 have hval:=valid_all hv
 refine wp_cut 0 kr ?_
 refine vm_fragA (X:=⟨w,[]⟩) kr [] gqN (cPre 0 gqC) (ne_nil kr) (fun r=>[(0,(.slice base l.length c,0))]) (fun r=>[]) 0 (fun _=>(0,0)) (hS) (memOk0 w _) (fun r hr=>⟨rfl,rfl⟩) (keysLt_all kr) [.f] [cW hV] (VEx.n) (fun r=>[(0,(.slice base l.length c,0)),(4,(.slice none 0 0,0)),(5,(.int .i64 (((0:Nat):Int)),0))]) [] (fun r=>[]) (fun r g=>by kernel_rfl) (fun r g=>by kernel_rfl) ?_
 intro r a1 w1 hr hS1 hK1 hM1
 have hB1:=hM1.below.bl0
 have hR1:=hR.bl hB1
 have hS1:St gqN [(0,(.slice base l.length c,0)),(4,(.slice none 0 0,0)),(5,(.int .i64 ((0:Nat):Int),0))] a1:=hS1.re rfl
 refine wp_for 0 kr kr (fun n a' w'=>∃ j acc sv,l.length - j=n∧j≤l.length∧acc.length=j∧l.map txtM=acc++(l.drop j).map txtM∧SlG 9 zSc w1 w' sv acc.length (encS acc)∧St gqN [(0,(.slice base l.length c,0)),(4,(sv,0)),(5,(.int .i64 (j:Int),0))] a'∧Below w1.heap.size w1 w') (l.length - 0) ⟨0,[],.slice none 0 0,rfl,by omega,rfl,rfl,.inl ⟨rfl,rfl,rfl⟩,hS1,Below.refl _ _⟩ ?_
 clear hS1 hM1 hS hK1 hr hV
 rintro n a2 w2 ⟨j,acc,sv,rfl,hj,hacc,hids,hsl,hS2,hB2⟩
 have hsz2:=hB2.size
 refine wpL_one ?_
 rcases Nat.lt_or_ge j l.length with hjl | hjl
 ·have h2:decide ((j:Int)<((l.length:Nat):Int))=true:=decide_eq_true (by omega)
  obtain ⟨bl,o,rfl,hA⟩:=hR1.at j hjl
  have hbl:bl<w1.heap.size:=lt_of_cell (hA j hjl).c0
  have hAj:MAt w2 bl (o+j * 4) l[j]:=by
   obtain ⟨bl',o',e,hA'⟩:=(hR1.bl hB2).at j hjl
   cases e
   exact hA' j hjl
  rw [List.drop_eq_getElem_cons hjl,List.map_cons] at hids
  have hrt:=right_bd (hval _ (List.getElem_mem hjl))
  have hml:=hm _ (List.getElem_mem hjl)
  generalize l[j]=m at *
  obtain ⟨⟨d1,d2⟩,⟨i1,i2⟩,e1,e2⟩:=hrt
  have v1:IntKind.i64.wrap ((j:Int)+1)=((j+1:Nat):Int):=by rw [wr64 (by omega) (by omega)];omega
  have K0:∀ w',Calls Tryz.prog 63 #[.int .i64 m.d] w' (RetV (.string ⟨(dgN m.d.toNat).toArray⟩) w'):=fun w'=>by
   have:=gndigits_any m.d.toNat (by omega) w'
   rwa [Int.toNat_of_nonneg (by omega)] at this
  have K1:∀ w',Calls Tryz.prog 63 #[.int .i64 m.i] w' (RetV (.string ⟨(dgN m.i.toNat).toArray⟩) w'):=fun w'=>by
   have:=gndigits_any m.i.toNat (by omega) w'
   rwa [Int.toNat_of_nonneg (by omega)] at this
  have K2:∀ w',Calls Tryz.prog 63 #[.int .i64 m.h] w' (RetV (.string ⟨(dgN m.h.toNat).toArray⟩) w'):=fun w'=>by
   have:=gndigits_any m.h.toNat (by omega) w'
   rwa [Int.toNat_of_nonneg (by omega)] at this
  obtain ⟨T1,T2,T3,T4,T5,T6,htx,A0,A1,A2,A3,A4,A5⟩:=txt_adds m.nm (dgN m.d.toNat) (dgN m.i.toNat) (dgN m.h.toNat) hml (by have:=dgN_len m.d.toNat;omega) (by have:=dgN_len m.i.toNat;omega) (by have:=dgN_len m.h.toNat;omega)
  rw [show txtM m=T6 from htx.symm] at hids
  generalize dgN m.d.toNat=D at *
  generalize dgN m.i.toNat=I at *
  generalize dgN m.h.toNat=E at *
  have hids2:l.map txtM=(acc ++ [T6])++(l.drop (j+1)).map txtM:=by rw [hids];simp
  have hap:encS (acc ++ [T6])=encS acc ++ [.string ⟨(T6).toArray⟩]:=encS_app _ _
  have hlen:(acc ++ [T6]).length=acc.length+1:=by simp
  have hel:=encS_len acc
  have hac:acc.length≤1000000:=by omega
  clear hids hval hm hml d1 d2 i1 i2 e1 e2 htx
  rcases hsl with ⟨h0,hx0,rfl⟩ | ⟨b,sp,h0,rfl,hbw,hBk⟩
  ·obtain rfl:acc = []:=List.eq_nil_of_length_eq_zero h0
   have H0:=fun w' (hc:Chg [] w2 w')=>K0 w'
   have H1:=fun w' (hc:Chg [] w2 w')=>K1 w'
   have H2:=fun w' (hc:Chg [] w2 w')=>K2 w'
   refine vm_fragA (X:=⟨w2,[]⟩) kr [(7,3),(7,5),(7,6),(7,9),(7,11),(7,13),(7,14),(7,17),(7,19),(7,21),(7,22),(7,25),(7,27),(7,29),(7,31),(6,1)] gqN [cI (cI gr0)] (ne_nil kr) (fun r=>[(0,(.slice (some ⟨bl,o,none⟩) l.length c,0)),(4,(.slice none 0 0,0)),(5,(.int .i64 ((j:Int)),0))]) (fun r=>[]) 0 (fun _=>(0,0)) (hS2) (memOk0 w2 _) (fun r hr=>⟨rfl,rfl⟩) (keysLt_all kr) [(.p _ true h2)] [lV (Instr.indexAt 48 (.slice (some ⟨bl,o,none⟩) (l.length) (c)) (.int .i64 ((j:Int)))) (.pointer (some ⟨bl,o+j * 4,none⟩)) (fun w hC=>ixM j w (by omega) (by omega) (by omega)),lV (Instr.loadAt 9 (.pointer (some ⟨bl,o+j * 4+0,none⟩))) (.string ⟨(m.nm).toArray⟩) (fun w hC=>ldN (hAj.chg hC)),lV (Op.stringOp .add ⟨(m.nm).toArray⟩ ⟨([32]).toArray⟩) (.string ⟨(T1).toArray⟩) (fun w hC=>A0 w),lV (Instr.indexAt 48 (.slice (some ⟨bl,o,none⟩) (l.length) (c)) (.int .i64 ((j:Int)))) (.pointer (some ⟨bl,o+j * 4,none⟩)) (fun w hC=>ixM j w (by omega) (by omega) (by omega)),lV (Instr.loadAt 3 (.pointer (some ⟨bl,o+j * 4+1,none⟩))) (.int .i64 (m.d)) (fun w hC=>ldI (hAj.chg hC).c1),cW H0,lV (Op.stringOp .add ⟨(T1).toArray⟩ ⟨(D).toArray⟩) (.string ⟨(T2).toArray⟩) (fun w hC=>A1 w),lV (Op.stringOp .add ⟨(T2).toArray⟩ ⟨([32]).toArray⟩) (.string ⟨(T3).toArray⟩) (fun w hC=>A2 w),lV (Instr.indexAt 48 (.slice (some ⟨bl,o,none⟩) (l.length) (c)) (.int .i64 ((j:Int)))) (.pointer (some ⟨bl,o+j * 4,none⟩)) (fun w hC=>ixM j w (by omega) (by omega) (by omega)),lV (Instr.loadAt 3 (.pointer (some ⟨bl,o+j * 4+2,none⟩))) (.int .i64 (m.i)) (fun w hC=>ldI (hAj.chg hC).c2),cW H1,lV (Op.stringOp .add ⟨(T3).toArray⟩ ⟨(I).toArray⟩) (.string ⟨(T4).toArray⟩) (fun w hC=>A3 w),lV (Op.stringOp .add ⟨(T4).toArray⟩ ⟨([32]).toArray⟩) (.string ⟨(T5).toArray⟩) (fun w hC=>A4 w),lV (Instr.indexAt 48 (.slice (some ⟨bl,o,none⟩) (l.length) (c)) (.int .i64 ((j:Int)))) (.pointer (some ⟨bl,o+j * 4,none⟩)) (fun w hC=>ixM j w (by omega) (by omega) (by omega)),lV (Instr.loadAt 3 (.pointer (some ⟨bl,o+j * 4+3,none⟩))) (.int .i64 (m.h)) (fun w hC=>ldI (hAj.chg hC).c3),cW H2,lV (Op.stringOp .add ⟨(T5).toArray⟩ ⟨(E).toArray⟩) (.string ⟨(T6).toArray⟩) (fun w hC=>A5 w),lAN slT_S 34 none 0 0 [] [Value.string ⟨(T6).toArray⟩] (fun w _=>.inl rfl) rfl (fun _=>rfl) rfl rfl (Nat.le_refl 0) (by omega),lE .i64 ((((j:Int)):Int)+((1):Int)) (((j+1:Nat):Int)) (v1)] (VEx.n) (fun r=>[(0,(.slice (some ⟨bl,o,none⟩) l.length c,0)),(4,(.slice (some ⟨(r 35).1,0,none⟩) (0+1) (0+1+(r 35).2),36)),(5,(.int .i64 (((j+1:Nat):Int)),0))]) [] (fun r=>[(35,(9,([] ++ [Value.string ⟨(T6).toArray⟩]++zc zSc (r 35).2).toArray))]) (fun r g=>by kernel_rfl) (fun r g=>by kernel_rfl) ?_
   intro r a3 w3 hr hS3 hK3 hM3
   have hh:=hM3.has 35 _ rfl
   have hb3:=hM3.below.bl0
   exact ⟨l.length - (j+1),by omega,j+1,[T6],_,rfl,by omega,by simp at hacc ⊢;omega,hids2,.inr ⟨(r 35).1,(r 35).2,by simp,rfl,Nat.le_trans hB2.size (own_nil hh.2),hh.1⟩,hS3.re rfl,hB2.trans (hb3.mono hB2.size)⟩
  ·have hcl:∀ w',Chg [b] w2 w'→∀ b' j v,b'≠b→w2.cell? ⟨b',j,none⟩=some v→w'.cell? ⟨b',j,none⟩=some v:=fun w' hC b' j v hne h=>hC.cell (by rw [List.mem_singleton];exact hne) h
   have hAC:∀ w',Chg [b] w2 w'→MAt w' bl (o+j * 4) m:=fun w' hC=>⟨hcl w' hC _ _ _ (by omega) hAj.c0,hcl w' hC _ _ _ (by omega) hAj.c1,hcl w' hC _ _ _ (by omega) hAj.c2,hcl w' hC _ _ _ (by omega) hAj.c3⟩
   have hw3:∀ w',Chg [b] w2 w'→Below w1.heap.size w1 w':=fun w' hC=>hB2.trans (hC.below hB2.size (fun y hy=>by rw [List.mem_singleton] at hy;omega))
   have hlt:=hBk.lt
   have H0:=fun w' (hc:Chg [b] w2 w')=>K0 w'
   have H1:=fun w' (hc:Chg [b] w2 w')=>K1 w'
   have H2:=fun w' (hc:Chg [b] w2 w')=>K2 w'
   cases sp with
   | zero =>
    refine vm_fragA (X:=⟨w2,[b]⟩) kr [(7,3),(7,5),(7,6),(7,9),(7,11),(7,13),(7,14),(7,17),(7,19),(7,21),(7,22),(7,25),(7,27),(7,29),(7,31),(6,1)] gqN [cI (cI gr0)] (ne_nil kr) (fun r=>[(0,(.slice (some ⟨bl,o,none⟩) l.length c,0)),(4,(.slice (some ⟨(r 0).1,0,none⟩) (acc.length) (acc.length+0),1)),(5,(.int .i64 ((j:Int)),0))]) (fun r=>[(0,(9,(encS acc++zc zSc 0).toArray))]) 1 (fun _=>(b,0)) (hS2.re rfl) (memOk1 hBk) (fun r hr=>⟨by simp only [hr 0 (by omega)],rfl⟩) (keysLt_all kr) [(.p _ true h2)] [lV (Instr.indexAt 48 (.slice (some ⟨bl,o,none⟩) (l.length) (c)) (.int .i64 ((j:Int)))) (.pointer (some ⟨bl,o+j * 4,none⟩)) (fun w hC=>ixM j w (by omega) (by omega) (by omega)),lV (Instr.loadAt 9 (.pointer (some ⟨bl,o+j * 4+0,none⟩))) (.string ⟨(m.nm).toArray⟩) (fun w hC=>ldN (hAC w hC)),lV (Op.stringOp .add ⟨(m.nm).toArray⟩ ⟨([32]).toArray⟩) (.string ⟨(T1).toArray⟩) (fun w hC=>A0 w),lV (Instr.indexAt 48 (.slice (some ⟨bl,o,none⟩) (l.length) (c)) (.int .i64 ((j:Int)))) (.pointer (some ⟨bl,o+j * 4,none⟩)) (fun w hC=>ixM j w (by omega) (by omega) (by omega)),lV (Instr.loadAt 3 (.pointer (some ⟨bl,o+j * 4+1,none⟩))) (.int .i64 (m.d)) (fun w hC=>ldI (hAC w hC).c1),cW H0,lV (Op.stringOp .add ⟨(T1).toArray⟩ ⟨(D).toArray⟩) (.string ⟨(T2).toArray⟩) (fun w hC=>A1 w),lV (Op.stringOp .add ⟨(T2).toArray⟩ ⟨([32]).toArray⟩) (.string ⟨(T3).toArray⟩) (fun w hC=>A2 w),lV (Instr.indexAt 48 (.slice (some ⟨bl,o,none⟩) (l.length) (c)) (.int .i64 ((j:Int)))) (.pointer (some ⟨bl,o+j * 4,none⟩)) (fun w hC=>ixM j w (by omega) (by omega) (by omega)),lV (Instr.loadAt 3 (.pointer (some ⟨bl,o+j * 4+2,none⟩))) (.int .i64 (m.i)) (fun w hC=>ldI (hAC w hC).c2),cW H1,lV (Op.stringOp .add ⟨(T3).toArray⟩ ⟨(I).toArray⟩) (.string ⟨(T4).toArray⟩) (fun w hC=>A3 w),lV (Op.stringOp .add ⟨(T4).toArray⟩ ⟨([32]).toArray⟩) (.string ⟨(T5).toArray⟩) (fun w hC=>A4 w),lV (Instr.indexAt 48 (.slice (some ⟨bl,o,none⟩) (l.length) (c)) (.int .i64 ((j:Int)))) (.pointer (some ⟨bl,o+j * 4,none⟩)) (fun w hC=>ixM j w (by omega) (by omega) (by omega)),lV (Instr.loadAt 3 (.pointer (some ⟨bl,o+j * 4+3,none⟩))) (.int .i64 (m.h)) (fun w hC=>ldI (hAC w hC).c3),cW H2,lV (Op.stringOp .add ⟨(T5).toArray⟩ ⟨(E).toArray⟩) (.string ⟨(T6).toArray⟩) (fun w hC=>A5 w),lAF slT_S 0 35 acc.length (acc.length+0) (encS acc) (zc zSc 0) [Value.string ⟨(T6).toArray⟩] (by omega) rfl rfl (by omega) (by omega),lE .i64 ((((j:Int)):Int)+((1):Int)) (((j+1:Nat):Int)) (v1)] (VEx.n) (fun r=>[(0,(.slice (some ⟨bl,o,none⟩) l.length c,0)),(4,(.slice (some ⟨(r 36).1,0,none⟩) (acc.length+1) (acc.length+1+(r 36).2),37)),(5,(.int .i64 (((j+1:Nat):Int)),0))]) [] (fun r=>[(36,(9,(encS acc ++ [Value.string ⟨(T6).toArray⟩]++zc zSc (r 36).2).toArray))]) (fun r g=>by kernel_rfl) (fun r g=>by kernel_rfl) ?_
    intro r a3 w3 hr hS3 hK3 hM3
    have hh:=hM3.has 36 _ rfl
    exact ⟨l.length - (j+1),by omega,j+1,acc ++ [T6],_,rfl,by omega,by omega,hids2,.inr ⟨(r 36).1,(r 36).2,by omega,by rw [hlen],hh.2.elim (fun h=>Nat.le_trans hB2.size h) (fun h=>by rw [List.mem_singleton] at h;rw [show (r 36).1=b from h];exact hbw),by rw [hap];exact hh.1⟩,hS3.re rfl,hw3 w3 hM3.below⟩
   | succ sp =>
    rw [zc_succ,← List.append_assoc] at hBk
    refine vm_fragA (X:=⟨w2,[b]⟩) kr [(7,3),(7,5),(7,6),(7,9),(7,11),(7,13),(7,14),(7,17),(7,19),(7,21),(7,22),(7,25),(7,27),(7,29),(7,31),(6,1)] gqN [cI (cI gr0)] (ne_nil kr) (fun r=>[(0,(.slice (some ⟨bl,o,none⟩) l.length c,0)),(4,(.slice (some ⟨(r 0).1,0,none⟩) (acc.length) (acc.length+(sp+1)),1)),(5,(.int .i64 ((j:Int)),0))]) (fun r=>[(0,(9,(encS acc++zSc.toList++zc zSc sp).toArray))]) 1 (fun _=>(b,0)) (hS2.re rfl) (memOk1 hBk) (fun r hr=>⟨by simp only [hr 0 (by omega)],rfl⟩) (keysLt_all kr) [(.p _ true h2)] [lV (Instr.indexAt 48 (.slice (some ⟨bl,o,none⟩) (l.length) (c)) (.int .i64 ((j:Int)))) (.pointer (some ⟨bl,o+j * 4,none⟩)) (fun w hC=>ixM j w (by omega) (by omega) (by omega)),lV (Instr.loadAt 9 (.pointer (some ⟨bl,o+j * 4+0,none⟩))) (.string ⟨(m.nm).toArray⟩) (fun w hC=>ldN (hAC w hC)),lV (Op.stringOp .add ⟨(m.nm).toArray⟩ ⟨([32]).toArray⟩) (.string ⟨(T1).toArray⟩) (fun w hC=>A0 w),lV (Instr.indexAt 48 (.slice (some ⟨bl,o,none⟩) (l.length) (c)) (.int .i64 ((j:Int)))) (.pointer (some ⟨bl,o+j * 4,none⟩)) (fun w hC=>ixM j w (by omega) (by omega) (by omega)),lV (Instr.loadAt 3 (.pointer (some ⟨bl,o+j * 4+1,none⟩))) (.int .i64 (m.d)) (fun w hC=>ldI (hAC w hC).c1),cW H0,lV (Op.stringOp .add ⟨(T1).toArray⟩ ⟨(D).toArray⟩) (.string ⟨(T2).toArray⟩) (fun w hC=>A1 w),lV (Op.stringOp .add ⟨(T2).toArray⟩ ⟨([32]).toArray⟩) (.string ⟨(T3).toArray⟩) (fun w hC=>A2 w),lV (Instr.indexAt 48 (.slice (some ⟨bl,o,none⟩) (l.length) (c)) (.int .i64 ((j:Int)))) (.pointer (some ⟨bl,o+j * 4,none⟩)) (fun w hC=>ixM j w (by omega) (by omega) (by omega)),lV (Instr.loadAt 3 (.pointer (some ⟨bl,o+j * 4+2,none⟩))) (.int .i64 (m.i)) (fun w hC=>ldI (hAC w hC).c2),cW H1,lV (Op.stringOp .add ⟨(T3).toArray⟩ ⟨(I).toArray⟩) (.string ⟨(T4).toArray⟩) (fun w hC=>A3 w),lV (Op.stringOp .add ⟨(T4).toArray⟩ ⟨([32]).toArray⟩) (.string ⟨(T5).toArray⟩) (fun w hC=>A4 w),lV (Instr.indexAt 48 (.slice (some ⟨bl,o,none⟩) (l.length) (c)) (.int .i64 ((j:Int)))) (.pointer (some ⟨bl,o+j * 4,none⟩)) (fun w hC=>ixM j w (by omega) (by omega) (by omega)),lV (Instr.loadAt 3 (.pointer (some ⟨bl,o+j * 4+3,none⟩))) (.int .i64 (m.h)) (fun w hC=>ldI (hAC w hC).c3),cW H2,lV (Op.stringOp .add ⟨(T5).toArray⟩ ⟨(E).toArray⟩) (.string ⟨(T6).toArray⟩) (fun w hC=>A5 w),lAR slT_S 0 35 acc.length (acc.length+(sp+1)) (encS acc) zSc.toList (zc zSc sp) [Value.string ⟨(T6).toArray⟩] (by omega) rfl rfl rfl (by omega),lE .i64 ((((j:Int)):Int)+((1):Int)) (((j+1:Nat):Int)) (v1)] (VEx.n) (fun r=>[(0,(.slice (some ⟨bl,o,none⟩) l.length c,0)),(4,(.slice (some ⟨(r 0).1,0,none⟩) (acc.length+1) (acc.length+(sp+1)),1)),(5,(.int .i64 (((j+1:Nat):Int)),0))]) [] (fun r=>[(0,(9,(encS acc ++ [Value.string ⟨(T6).toArray⟩]++zc zSc sp).toArray))]) (fun r g=>by kernel_rfl) (fun r g=>by kernel_rfl) ?_
    intro r a3 w3 hr hS3 hK3 hM3
    have hh:=hM3.has 0 _ rfl
    have hr0:(r 0).1=b:=congrArg Prod.fst (hr 0 (by omega))
    exact ⟨l.length - (j+1),by omega,j+1,acc ++ [T6],_,rfl,by omega,by omega,hids2,.inr ⟨(r 0).1,sp,by omega,by rw [hlen,show acc.length+1+sp=acc.length+(sp+1) by omega],by rw [hr0];exact hbw,by rw [hap];exact hh.1⟩,hS3.re rfl,hw3 w3 hM3.below⟩
 ·have h2:decide ((j:Int)<((l.length:Nat):Int))=false:=decide_eq_false (by omega)
  obtain rfl:j=l.length:=by omega
  rw [List.drop_length,List.map_nil,List.append_nil] at hids
  refine vm_piece (E0:=[(0,(.slice base l.length c,0)),(4,(sv,0)),(5,(.int .i64 (((l.length:Nat):Int)),0))]) kr [] gqN [cI (cI gr0)] kr hS2 [(.p _ false h2)] [] (VEx.x 0) [(0,(.slice base l.length c,0)),(4,(sv,0)),(5,(.int .i64 (((l.length:Nat):Int)),0))] [] (hQ:=?_)
  intro a3 w3 hS3 hK3 hM3
  refine exit_n (then_n ?_)
  refine vm_piece (E0:=[(0,(.slice base l.length c,0)),(4,(sv,0)),(5,(.int .i64 (((l.length:Nat):Int)),0))]) kr [] gqN (cPost 0 gqC) kr hS3 [] [] (VEx.r) [(2,(sv,0)),(3,(.int .i64 (0),0))] [] (hQ:=?_)
  intro a4 w4 hS4 hK4 hM4
  have hb4:Below w2.heap.size w2 w4:=(hM3.trans hM4).bl0
  refine vm_out (fn:=Tryz.f20) hS4 (.tuple #[sv,.int .i64 0]) (fun g=>by kernel_rfl) ?_
  rw [hids]
  refine ⟨sv,rfl,SlG.old (hsl.keep (hM3.trans hM4)) hB1.size,?_⟩
  exact hB1.trans ((hB2.trans (hb4.mono hB2.size)).mono hB1.size)
end Go.Proofs.YtlhddcingeneaaaGreatDoor
