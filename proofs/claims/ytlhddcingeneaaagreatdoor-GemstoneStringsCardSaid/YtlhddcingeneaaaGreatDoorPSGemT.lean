/- One line of a table (reference). -/
import Derived.Test.YtlhddcingeneaaaGreatDoorPSGemS
import Derived.Test.YtlhddcingeneaaaGreatDoorPSGemL
namespace Go.Proofs.YtlhddcingeneaaaGreatDoor
open Go Go.RowKit
set_option maxRecDepth 100000
set_option linter.unusedVariables false
set_option linter.unusedSimpArgs false
theorem slice_both (l:List UInt8) (m n:Nat) (hm:m≤n) (h:n≤l.length) (w:World):(Instr.sliceAt 9 (.string ⟨l.toArray⟩) (some (.int .i64 (m:Int))) (some (.int .i64 (n:Int))) none).run Tryz.prog w = .ok (.string ⟨((l.take n).drop m).toArray⟩) w:=by
 have h3:(ByteArray.mk l.toArray).size=l.length:=by simp [ByteArray.size]
 have h2:(n:Int)≤((ByteArray.mk l.toArray).size:Int):=by rw [h3];omega
 have h4:(m:Int)≤(n:Int):=by omega
 have e:(ByteArray.mk l.toArray).extract m n=⟨((l.take n).drop m).toArray⟩:=by
  rw [ByteArray.extract_mk];simp [List.drop_take]
 rw [← e]
 go_simp
def Cut (s:List UInt8) (i f:Nat) (acc:List (List UInt8)):Prop :=
 (i≤s.length∧f≤i∧(∀ c,c ∈ (s.take i).drop f→c≠32)∧spl s=acc++spl (s.drop f))∨(i=s.length+1∧acc=spl s)
theorem Cut.end {s:List UInt8} {f:Nat} {acc:List (List UInt8)} (h:Cut s s.length f acc):Cut s (s.length+1) (s.length+1) (acc ++ [(s.take s.length).drop f]):=by
 rcases h with ⟨-,hf,hn,hs⟩ | ⟨h,-⟩
 ·rw [List.take_length] at hn ⊢
  rw [spl_no _ hn] at hs
  exact .inr ⟨rfl,hs.symm⟩
 ·omega
theorem Cut.sp {s:List UInt8} {i f:Nat} {acc:List (List UInt8)} (h:Cut s i f acc) (hi:i<s.length) (hc:s[i]=32):Cut s (i+1) (i+1) (acc ++ [(s.take i).drop f]):=by
 rcases h with ⟨-,hf,hn,hs⟩ | ⟨h,-⟩
 ·refine .inl ⟨hi,Nat.le_refl _,fun c hm=>?_,?_⟩
  ·rw [List.drop_of_length_le (by rw [List.length_take];omega)] at hm
   cases hm
  ·have e:s.drop f=(s.take i).drop f++32 :: s.drop (i+1):=by
    rw [← hc,← List.drop_eq_getElem_cons hi]
    conv=>lhs;rw [← List.take_append_drop i s]
    rw [List.drop_append_of_le_length (by rw [List.length_take];omega)]
   rw [hs,e,spl_at _ _ hn]
   simp
 ·omega
theorem Cut.no {s:List UInt8} {i f:Nat} {acc:List (List UInt8)} (h:Cut s i f acc) (hi:i<s.length) (hc:s[i]≠32):Cut s (i+1) f acc:=by
 rcases h with ⟨-,hf,hn,hs⟩ | ⟨h,-⟩
 ·refine .inl ⟨hi,by omega,fun c hm=>?_,hs⟩
  rw [List.take_succ_eq_append_getElem hi,List.drop_append_of_le_length (by rw [List.length_take];omega)] at hm
  rcases List.mem_append.1 hm with h | h
  ·exact hn c h
  ·rw [List.mem_singleton] at h;rw [h];exact hc
 ·omega
def lineR (l:List UInt8):Mt × Bool:=match spl l with
 | [a,b,c,d]=>(⟨a,numR b,numR c,numR d⟩,rightM ⟨a,numR b,numR c,numR d⟩)
 | _=>(zM,false)
theorem lineR_no {l:List UInt8} (h:(spl l).length≠4):lineR l=(zM,false):=by
 unfold lineR
 split
 ·rename_i e;rw [e] at h;exact absurd rfl h
 ·rfl
theorem h44:((((4:Nat)):Int) != (4:Int))=false:=by decide
noncomputable def nlN:Nat:=Tryz.f65.ntmps
noncomputable def nlC:Code:=Tryz.f65.body.getD .skip
noncomputable def nl0:Code:=cB 0 nlC
theorem gnline_any (s:List UInt8) (w:World) (hs:s.length≤900000):Calls Tryz.prog 65 #[.string ⟨s.toArray⟩] w (RetV (.tuple #[vMt (lineR s).1,.bool (lineR s).2]) w):=by
 refine vm_start [.string ⟨s.toArray⟩] (fn:=Tryz.f65) (c:=nlC) kr kr nle ?_
 intro a hS
 have hS:St nlN [(0,(.string ⟨s.toArray⟩,0))] a:=hS
 have hsz:(ByteArray.mk s.toArray).size=s.length:=str_size s
 refine wp_cut 0 kr ?_
 refine vm_fragA (X:=⟨w,[]⟩) kr [] nlN (cPre 0 nlC) (ne_nil kr) (fun r=>[(0,(.string ⟨(s).toArray⟩,0))]) (fun r=>[]) 0 (fun _=>(0,0)) (hS) (memOk0 w _) (fun r hr=>⟨rfl,rfl⟩) (keysLt_all kr) [] [] (VEx.n) (fun r=>[(0,(.string ⟨(s).toArray⟩,0)),(2,(.pointer (some ⟨(r 0).1,0,none⟩),1)),(4,(.slice none 0 0,0)),(5,(.int .i64 (((0:Nat):Int)),0)),(6,(.int .i64 (((0:Nat):Int)),0))]) [] (fun r=>[(0,(23,zMc))]) (fun r g=>by kernel_rfl) (fun r g=>by kernel_rfl) ?_
 intro r a1 w1 hr hS1 hK1 hM1
 have hh:=hM1.has 0 _ rfl
 have hB1:=hM1.below.bl0
 have hH:=hh.1
 change Hc w1 (r 0).1 _ _ at hH
 have hbw:w.heap.size≤(r 0).1:=own_nil hh.2
 generalize hrb:(r 0).1=b4 at *
 have l4:=hH.lt
 have hS1:St nlN [(0,(.string ⟨s.toArray⟩,0)),(2,(.pointer (some ⟨b4,0,none⟩),0)),(4,(.slice none 0 0,0)),(5,(.int .i64 ((0:Nat):Int),0)),(6,(.int .i64 ((0:Nat):Int),0))] a1:=hS1.re rfl
 refine wp_for 0 kr kr (fun n a' w'=>∃ i f acc sv,s.length+1 - i=n∧Cut s i f acc∧acc.length≤i∧SlG 9 zSc w1 w' sv acc.length (encS acc)∧St nlN [(0,(.string ⟨s.toArray⟩,0)),(2,(.pointer (some ⟨b4,0,none⟩),0)),(4,(sv,0)),(5,(.int .i64 (f:Int),0)),(6,(.int .i64 (i:Int),0))] a'∧Hc w' b4 23 zMc∧Below w1.heap.size w1 w') (s.length+1 - 0) ⟨0,0,[],.slice none 0 0,rfl,.inl ⟨Nat.zero_le _,Nat.le_refl _,fun c h=>by simp at h,rfl⟩,Nat.le_refl _,.inl ⟨rfl,rfl,rfl⟩,hS1,hH,Below.refl _ _⟩ ?_
 clear hS1 hM1 hS hK1 hr hh hH
 rintro n a2 w2 ⟨i,f,acc,sv,rfl,hcut,hacc,hsl,hS2,hH2,hB2⟩
 have hsz2:=hB2.size
 refine wpL_one ?_
 rcases Nat.lt_or_ge s.length i with hil | hil
 ·have h1:decide ((i:Int)≤((ByteArray.mk s.toArray).size:Int))=false:=decide_eq_false (by omega)
  have hspl:acc=spl s:=by
   rcases hcut with ⟨h,-⟩ | ⟨-,h⟩
   ·omega
   ·exact h
  have hi':i=s.length+1:=by
   rcases hcut with ⟨h,-⟩ | ⟨h,-⟩
   ·omega
   ·exact h
  refine vm_fragA (X:=⟨w2,[]⟩) kr [] nlN [cI (cI nl0)] (ne_nil kr) (fun r=>[(0,(.string ⟨(s).toArray⟩,0)),(2,(.pointer (some ⟨b4,0,none⟩),0)),(4,(sv,0)),(5,(.int .i64 ((f:Int)),0)),(6,(.int .i64 ((i:Int)),0))]) (fun r=>[]) 0 (fun _=>(0,0)) (hS2) (memOk0 w2 _) (fun r hr=>⟨rfl,rfl⟩) (keysLt_all kr) [(.p _ false h1)] [] (VEx.x 0) (fun r=>[(0,(.string ⟨(s).toArray⟩,0)),(2,(.pointer (some ⟨b4,0,none⟩),0)),(4,(sv,0)),(5,(.int .i64 ((f:Int)),0)),(6,(.int .i64 ((i:Int)),0))]) [] (fun r=>[]) (fun r g=>by kernel_rfl) (fun r g=>by kernel_rfl) ?_
  intro r3 a3 w3 hr3 hS3 hK3 hM3
  refine exit_n (then_n ?_)
  have hc3:=hM3.below
  have hH3:Hc w3 b4 23 zMc:=hH2.chg hc3 (by simp)
  have hsl3:=hsl.keep hc3
  have hB3:Below w1.heap.size w1 w3:=hB2.trans (hc3.bl0.mono hB2.size)
  have hS3:St nlN [(0,(.string ⟨s.toArray⟩,0)),(2,(.pointer (some ⟨b4,0,none⟩),1)),(4,(sv,0)),(5,(.int .i64 (f:Int),0)),(6,(.int .i64 (i:Int),0))] a3:=hS3.re rfl
  clear hS2 hH2 hsl hM3 hr3
  have hBw3:Below w.heap.size w w3:=hB1.trans (hB3.mono hB1.size)
  have hw4:∀ w',Chg [b4] w3 w'→Below w.heap.size w w':=fun w' hC=>hBw3.trans (hC.below hBw3.size (fun y hy=>by rw [List.mem_singleton] at hy;omega))
  by_cases h4:acc.length=4
  ·obtain ⟨x0,x1,x2,x3,hx⟩:∃ a b c d,acc = [a,b,c,d]:=by
    match acc,h4 with
    | [a,b,c,d],_=>exact ⟨a,b,c,d,rfl⟩
   rcases hsl3 with ⟨h0,-⟩ | ⟨b,sp,-,rfl,hbw2,hBk⟩
   ·omega
   have hlR:lineR s=(⟨x0,numR x1,numR x2,numR x3⟩,rightM ⟨x0,numR x1,numR x2,numR x3⟩):=by
    unfold lineR;rw [← hspl,hx]
   have hlen:∀ x,x ∈ acc→x.length≤1000000:=fun x hm=>by
    have:=mem_spl (l:=s) (x:=x) (by rw [← hspl];exact hm)
    omega
   subst hx
   have hq0:=hlen x0 (by simp)
   have N1:=fun w=>gnnumber_any x1 w (hlen x1 (by simp))
   have N2:=fun w=>gnnumber_any x2 w (hlen x2 (by simp))
   have N3:=fun w=>gnnumber_any x3 w (hlen x3 (by simp))
   have RR:=fun w=>gnRight_any ⟨x0,numR x1,numR x2,numR x3⟩ w hq0
   have c0:w3.cell? ⟨b,0+0,none⟩=some (.string ⟨x0.toArray⟩):=hBk.cells rfl
   have c1:w3.cell? ⟨b,0+1,none⟩=some (.string ⟨x1.toArray⟩):=hBk.cells rfl
   have c2:w3.cell? ⟨b,0+2,none⟩=some (.string ⟨x2.toArray⟩):=hBk.cells rfl
   have c3:w3.cell? ⟨b,0+3,none⟩=some (.string ⟨x3.toArray⟩):=hBk.cells rfl
   have hcl:∀ w',Chg [b4] w3 w'→∀ j v,w3.cell? ⟨b,j,none⟩=some v→w'.cell? ⟨b,j,none⟩=some v:=fun w' hC j v h=>hC.cell (by rw [List.mem_singleton];show b≠b4;omega) h
   have hS3':St nlN [(0,(.string ⟨s.toArray⟩,0)),(2,(.pointer (some ⟨b4,0,none⟩),1)),(4,(.slice (some ⟨b,0,none⟩) 4 (4+sp),0)),(5,(.int .i64 (f:Int),0)),(6,(.int .i64 (i:Int),0))] a3:=hS3.re rfl
   clear hS3 hlen hspl hcut hi' hacc
   generalize numR x1=n1 at *
   generalize numR x2=n2 at *
   generalize numR x3=n3 at *
   generalize rightM ⟨x0,n1,n2,n3⟩=ok at *
   refine vk (X:=⟨w3,[b4]⟩) [(11,1),(11,2),(11,4),(11,5),(11,8),(11,9),(11,12),(11,13)] nlN (cPost 0 nlC) (fun r=>[(0,(.string ⟨(s).toArray⟩,0)),(2,(.pointer (some ⟨r 0,0,none⟩),1)),(4,(.slice (some ⟨b,0,none⟩) 4 (4+sp),0)),(5,(.int .i64 ((f:Int)),0)),(6,(.int .i64 ((i:Int)),0))]) (fun r=>[(0,(23,zMc))]) 1 (fun _=>b4) (hS3') (memOk1 hH3) [(.p _ false h44)] [lV (Instr.indexAt 49 (.slice (some ⟨b,0,none⟩) (4) (4+sp)) (.int .i64 (0))) (.pointer (some ⟨b,0+0,none⟩)) (fun w hC=>ixS 0 w (by decide) (by decide) rfl),lV (Instr.loadAt 9 (.pointer (some ⟨b,0+0,none⟩))) (.string ⟨(x0).toArray⟩) (fun w hC=>ldS (hcl w hC _ _ c0)),lV (Instr.indexAt 49 (.slice (some ⟨b,0,none⟩) (4) (4+sp)) (.int .i64 (1))) (.pointer (some ⟨b,0+1,none⟩)) (fun w hC=>ixS 1 w (by decide) (by decide) rfl),lV (Instr.loadAt 9 (.pointer (some ⟨b,0+1,none⟩))) (.string ⟨(x1).toArray⟩) (fun w hC=>ldS (hcl w hC _ _ c1)),cV (N1),lV (Instr.indexAt 49 (.slice (some ⟨b,0,none⟩) (4) (4+sp)) (.int .i64 (2))) (.pointer (some ⟨b,0+2,none⟩)) (fun w hC=>ixS 2 w (by decide) (by decide) rfl),lV (Instr.loadAt 9 (.pointer (some ⟨b,0+2,none⟩))) (.string ⟨(x2).toArray⟩) (fun w hC=>ldS (hcl w hC _ _ c2)),cV (N2),lV (Instr.indexAt 49 (.slice (some ⟨b,0,none⟩) (4) (4+sp)) (.int .i64 (3))) (.pointer (some ⟨b,0+3,none⟩)) (fun w hC=>ixS 3 w (by decide) (by decide) rfl),lV (Instr.loadAt 9 (.pointer (some ⟨b,0+3,none⟩))) (.string ⟨(x3).toArray⟩) (fun w hC=>ldS (hcl w hC _ _ c3)),cV (N3),cV (RR)] (VEx.r) (fun r=>[(2,(.pointer (some ⟨r 0,0,none⟩),1)),(3,(.bool ok,0))]) [] (fun r=>[(0,(23,(cellsM ⟨x0,n1,n2,n3⟩).toArray))]) ?_
   intro a4 w4 hS4 hK4 hM4
   exact vm_ret (fn:=Tryz.f65) hS4 hM4 (.tuple #[vMt ⟨x0,n1,n2,n3⟩,.bool ok]) (fun g=>by kernel_rfl) ⟨by rw [hlR],hw4 w4 hM4.below⟩
  ·have hlR:=lineR_no (l:=s) (by rw [← hspl];exact h4)
   have hne:(((acc.length:Nat):Int) != (4:Int))=true:=by rw [bne_iff_ne];omega
   obtain ⟨ba,ca,rfl⟩:∃ ba ca,sv = .slice ba acc.length ca:=by
    rcases hsl3 with ⟨h0,-,rfl⟩ | ⟨b,sp,-,rfl,-⟩
    ·exact ⟨none,0,by rw [h0]⟩
    ·exact ⟨_,_,rfl⟩
   refine vk (X:=⟨w3,[b4]⟩) [] nlN (cPost 0 nlC) (fun r=>[(0,(.string ⟨(s).toArray⟩,0)),(2,(.pointer (some ⟨r 0,0,none⟩),1)),(4,(.slice ba acc.length ca,0)),(5,(.int .i64 ((f:Int)),0)),(6,(.int .i64 ((i:Int)),0))]) (fun r=>[(0,(23,zMc))]) 1 (fun _=>b4) (hS3) (memOk1 hH3) [(.p _ true hne)] [] (VEx.r) (fun r=>[(2,(.pointer (some ⟨r 0,0,none⟩),1)),(3,(.bool false,0))]) [] (fun r=>[(0,(23,zMc))]) ?_
   intro a4 w4 hS4 hK4 hM4
   exact vm_ret (fn:=Tryz.f65) hS4 hM4 (.tuple #[vMt zM,.bool false]) (fun g=>by kernel_rfl) ⟨by rw [hlR],hw4 w4 hM4.below⟩
 ·have h1:decide ((i:Int)≤((ByteArray.mk s.toArray).size:Int))=true:=decide_eq_true (by omega)
  have v1:IntKind.i64.wrap ((i:Int)+1)=((i+1:Nat):Int):=by rw [wr64 (by omega) (by omega)];omega
  rcases Nat.lt_or_ge i s.length with hi | hi
  ·have hq:((i:Int) == ((ByteArray.mk s.toArray).size:Int))=false:=by
    rw [beq_eq_false_iff_ne];omega
   have hB:=byte_l s i hi
   by_cases hc:s[i]=32
   ·have hnew:=hcut.sp hi hc
    have hcc:(((s[i]).toNat:Int) == (32:Int))=true:=by rw [hc];rfl
    generalize (s[i]).toNat=c at *
    have hf:f≤i:=by
     rcases hcut with ⟨-,h,-⟩ | ⟨h,-⟩
     ·exact h
     ·omega
    have SB:=slice_both s f i hf (by omega)
    generalize (s.take i).drop f=pt at *
    have hap:encS (acc ++ [pt])=encS acc ++ [.string ⟨pt.toArray⟩]:=encS_app _ _
    have hlen:(acc ++ [pt]).length=acc.length+1:=by simp
    have hel:=encS_len acc
    have hac:acc.length≤1000000:=by omega
    rcases hsl with ⟨h0,hx0,rfl⟩ | ⟨b,sp,h0,rfl,hbw2,hBk⟩
    ·obtain rfl:acc = []:=List.eq_nil_of_length_eq_zero h0
     refine vm_fragA (X:=⟨w2,[]⟩) kr [(6,7),(7,4),(7,6),(8,1),(5,1)] nlN [cI (cI nl0)] (ne_nil kr) (fun r=>[(0,(.string ⟨(s).toArray⟩,0)),(2,(.pointer (some ⟨b4,0,none⟩),0)),(4,(.slice none 0 0,0)),(5,(.int .i64 ((f:Int)),0)),(6,(.int .i64 ((i:Int)),0))]) (fun r=>[]) 0 (fun _=>(0,0)) (hS2) (memOk0 w2 _) (fun r hr=>⟨rfl,rfl⟩) (keysLt_all kr) [(.p _ true h1),(.p _ false hq),(.p _ false hq),(.p _ false hq),(.p _ false hq),(.p _ false hq),(.p _ true hcc)] [lV (Instr.index 9 (.string ⟨(s).toArray⟩) (.int .i64 ((i:Int)))) (.int .u8 (c:Int)) (fun w hC=>hB w),lV (Instr.sliceAt 9 (.string ⟨s.toArray⟩) (some (.int .i64 (f:Int))) (some (.int .i64 (i:Int))) none) (.string ⟨pt.toArray⟩) (fun w hC=>SB w),lAN slT_S 19 none 0 0 [] [Value.string ⟨pt.toArray⟩] (fun w _=>.inl rfl) rfl (fun _=>rfl) rfl rfl (Nat.le_refl 0) (by omega),lE .i64 ((((i:Int)):Int)+((1):Int)) (((i+1:Nat):Int)) (v1),lE .i64 ((((i:Int)):Int)+((1):Int)) (((i+1:Nat):Int)) (v1)] (VEx.n) (fun r=>[(0,(.string ⟨(s).toArray⟩,0)),(2,(.pointer (some ⟨b4,0,none⟩),0)),(4,(.slice (some ⟨(r 20).1,0,none⟩) (0+1) (0+1+(r 20).2),21)),(5,(.int .i64 (((i+1:Nat):Int)),0)),(6,(.int .i64 (((i+1:Nat):Int)),0))]) [] (fun r=>[(20,(9,([] ++ [Value.string ⟨pt.toArray⟩]++zc zSc (r 20).2).toArray))]) (fun r g=>by kernel_rfl) (fun r g=>by kernel_rfl) ?_
     intro r a3 w3 hr hS3 hK3 hM3
     have hh:=hM3.has 20 _ rfl
     have hc3:=hM3.below
     exact ⟨s.length+1 - (i+1),by omega,i+1,i+1,[pt],_,rfl,hnew,by simp,.inr ⟨(r 20).1,(r 20).2,by simp,rfl,Nat.le_trans hB2.size (own_nil hh.2),hh.1⟩,hS3.re rfl,hH2.chg hc3 (by simp),hB2.trans (hc3.bl0.mono hB2.size)⟩
    ·have hw3:∀ w',Chg [b] w2 w'→Below w1.heap.size w1 w':=fun w' hC=>hB2.trans (hC.below hB2.size (fun y hy=>by rw [List.mem_singleton] at hy;omega))
     have hne4:b4 ∉ [b]:=by rw [List.mem_singleton];omega
     cases sp with
     | zero =>
      refine vm_fragA (X:=⟨w2,[b]⟩) kr [(6,7),(7,4),(7,6),(8,1),(5,1)] nlN [cI (cI nl0)] (ne_nil kr) (fun r=>[(0,(.string ⟨(s).toArray⟩,0)),(2,(.pointer (some ⟨b4,0,none⟩),0)),(4,(.slice (some ⟨(r 0).1,0,none⟩) (acc.length) (acc.length+0),1)),(5,(.int .i64 ((f:Int)),0)),(6,(.int .i64 ((i:Int)),0))]) (fun r=>[(0,(9,(encS acc++zc zSc 0).toArray))]) 1 (fun _=>(b,0)) (hS2.re rfl) (memOk1 hBk) (fun r hr=>⟨by simp only [hr 0 (by omega)],rfl⟩) (keysLt_all kr) [(.p _ true h1),(.p _ false hq),(.p _ false hq),(.p _ false hq),(.p _ false hq),(.p _ false hq),(.p _ true hcc)] [lV (Instr.index 9 (.string ⟨(s).toArray⟩) (.int .i64 ((i:Int)))) (.int .u8 (c:Int)) (fun w hC=>hB w),lV (Instr.sliceAt 9 (.string ⟨s.toArray⟩) (some (.int .i64 (f:Int))) (some (.int .i64 (i:Int))) none) (.string ⟨pt.toArray⟩) (fun w hC=>SB w),lAF slT_S 0 20 acc.length (acc.length+0) (encS acc) (zc zSc 0) [Value.string ⟨pt.toArray⟩] (by omega) rfl rfl (by omega) (by omega),lE .i64 ((((i:Int)):Int)+((1):Int)) (((i+1:Nat):Int)) (v1),lE .i64 ((((i:Int)):Int)+((1):Int)) (((i+1:Nat):Int)) (v1)] (VEx.n) (fun r=>[(0,(.string ⟨(s).toArray⟩,0)),(2,(.pointer (some ⟨b4,0,none⟩),0)),(4,(.slice (some ⟨(r 21).1,0,none⟩) (acc.length+1) (acc.length+1+(r 21).2),22)),(5,(.int .i64 (((i+1:Nat):Int)),0)),(6,(.int .i64 (((i+1:Nat):Int)),0))]) [] (fun r=>[(21,(9,(encS acc ++ [Value.string ⟨pt.toArray⟩]++zc zSc (r 21).2).toArray))]) (fun r g=>by kernel_rfl) (fun r g=>by kernel_rfl) ?_
      intro r a3 w3 hr hS3 hK3 hM3
      have hh:=hM3.has 21 _ rfl
      exact ⟨s.length+1 - (i+1),by omega,i+1,i+1,acc ++ [pt],_,rfl,hnew,by omega,.inr ⟨(r 21).1,(r 21).2,by omega,by rw [hlen],hh.2.elim (fun h=>Nat.le_trans hB2.size h) (fun h=>by rw [List.mem_singleton] at h;rw [show (r 21).1=b from h];exact hbw2),by rw [hap];exact hh.1⟩,hS3.re rfl,hH2.chg hM3.below hne4,hw3 w3 hM3.below⟩
     | succ sp =>
      rw [zc_succ,← List.append_assoc] at hBk
      refine vm_fragA (X:=⟨w2,[b]⟩) kr [(6,7),(7,4),(7,6),(8,1),(5,1)] nlN [cI (cI nl0)] (ne_nil kr) (fun r=>[(0,(.string ⟨(s).toArray⟩,0)),(2,(.pointer (some ⟨b4,0,none⟩),0)),(4,(.slice (some ⟨(r 0).1,0,none⟩) (acc.length) (acc.length+(sp+1)),1)),(5,(.int .i64 ((f:Int)),0)),(6,(.int .i64 ((i:Int)),0))]) (fun r=>[(0,(9,(encS acc++zSc.toList++zc zSc sp).toArray))]) 1 (fun _=>(b,0)) (hS2.re rfl) (memOk1 hBk) (fun r hr=>⟨by simp only [hr 0 (by omega)],rfl⟩) (keysLt_all kr) [(.p _ true h1),(.p _ false hq),(.p _ false hq),(.p _ false hq),(.p _ false hq),(.p _ false hq),(.p _ true hcc)] [lV (Instr.index 9 (.string ⟨(s).toArray⟩) (.int .i64 ((i:Int)))) (.int .u8 (c:Int)) (fun w hC=>hB w),lV (Instr.sliceAt 9 (.string ⟨s.toArray⟩) (some (.int .i64 (f:Int))) (some (.int .i64 (i:Int))) none) (.string ⟨pt.toArray⟩) (fun w hC=>SB w),lAR slT_S 0 20 acc.length (acc.length+(sp+1)) (encS acc) zSc.toList (zc zSc sp) [Value.string ⟨pt.toArray⟩] (by omega) rfl rfl rfl (by omega),lE .i64 ((((i:Int)):Int)+((1):Int)) (((i+1:Nat):Int)) (v1),lE .i64 ((((i:Int)):Int)+((1):Int)) (((i+1:Nat):Int)) (v1)] (VEx.n) (fun r=>[(0,(.string ⟨(s).toArray⟩,0)),(2,(.pointer (some ⟨b4,0,none⟩),0)),(4,(.slice (some ⟨(r 0).1,0,none⟩) (acc.length+1) (acc.length+(sp+1)),1)),(5,(.int .i64 (((i+1:Nat):Int)),0)),(6,(.int .i64 (((i+1:Nat):Int)),0))]) [] (fun r=>[(0,(9,(encS acc ++ [Value.string ⟨pt.toArray⟩]++zc zSc sp).toArray))]) (fun r g=>by kernel_rfl) (fun r g=>by kernel_rfl) ?_
      intro r a3 w3 hr hS3 hK3 hM3
      have hh:=hM3.has 0 _ rfl
      have hr0:(r 0).1=b:=congrArg Prod.fst (hr 0 (by omega))
      exact ⟨s.length+1 - (i+1),by omega,i+1,i+1,acc ++ [pt],_,rfl,hnew,by omega,.inr ⟨(r 0).1,sp,by omega,by rw [hlen,show acc.length+1+sp=acc.length+(sp+1) by omega],by rw [hr0];exact hbw2,by rw [hap];exact hh.1⟩,hS3.re rfl,hH2.chg hM3.below hne4,hw3 w3 hM3.below⟩
   ·have hnew:=hcut.no hi hc
    have hcc:(((s[i]).toNat:Int) == (32:Int))=false:=by
     rw [beq_eq_false_iff_ne]
     intro h
     exact hc (UInt8.toNat_inj.1 (by have:(32:UInt8).toNat=32:=rfl;omega))
    generalize (s[i]).toNat=c at *
    refine vm_fragA (X:=⟨w2,[]⟩) kr [(6,7),(5,1)] nlN [cI (cI nl0)] (ne_nil kr) (fun r=>[(0,(.string ⟨(s).toArray⟩,0)),(2,(.pointer (some ⟨b4,0,none⟩),0)),(4,(sv,0)),(5,(.int .i64 ((f:Int)),0)),(6,(.int .i64 ((i:Int)),0))]) (fun r=>[]) 0 (fun _=>(0,0)) (hS2) (memOk0 w2 _) (fun r hr=>⟨rfl,rfl⟩) (keysLt_all kr) [(.p _ true h1),(.p _ false hq),(.p _ false hq),(.p _ false hq),(.p _ false hq),(.p _ false hq),(.p _ false hcc)] [lV (Instr.index 9 (.string ⟨(s).toArray⟩) (.int .i64 ((i:Int)))) (.int .u8 (c:Int)) (fun w hC=>hB w),lE .i64 ((((i:Int)):Int)+((1):Int)) (((i+1:Nat):Int)) (v1)] (VEx.n) (fun r=>[(0,(.string ⟨(s).toArray⟩,0)),(2,(.pointer (some ⟨b4,0,none⟩),0)),(4,(sv,0)),(5,(.int .i64 ((f:Int)),0)),(6,(.int .i64 (((i+1:Nat):Int)),0))]) [] (fun r=>[]) (fun r g=>by kernel_rfl) (fun r g=>by kernel_rfl) ?_
    intro r a3 w3 hr hS3 hK3 hM3
    have hc3:=hM3.below
    exact ⟨s.length+1 - (i+1),by omega,i+1,f,acc,sv,rfl,hnew,by omega,hsl.keep hc3,hS3.re rfl,hH2.chg hc3 (by simp),hB2.trans (hc3.bl0.mono hB2.size)⟩
  ·obtain rfl:i=s.length:=by omega
   have hq:(((s.length:Nat):Int) == ((ByteArray.mk s.toArray).size:Int))=true:=by rw [hsz];simp
   have hnew:=hcut.end
   obtain ⟨i,hie⟩:∃ i,i=s.length:=⟨_,rfl⟩
   rw [← hie] at hnew hcut hS2 hacc h1 v1 hq
   have hf:f≤i:=by
    rcases hcut with ⟨-,h,-⟩ | ⟨h,-⟩
    ·exact h
    ·omega
   have SB:=slice_both s f i hf (by omega)
   generalize (s.take i).drop f=pt at *
   have hap:encS (acc ++ [pt])=encS acc ++ [.string ⟨pt.toArray⟩]:=encS_app _ _
   have hlen:(acc ++ [pt]).length=acc.length+1:=by simp
   have hel:=encS_len acc
   have hac:acc.length≤1000000:=by omega
   rcases hsl with ⟨h0,hx0,rfl⟩ | ⟨b,sp,h0,rfl,hbw2,hBk⟩
   ·obtain rfl:acc = []:=List.eq_nil_of_length_eq_zero h0
    refine vm_fragA (X:=⟨w2,[]⟩) kr [(7,4),(7,6),(8,1),(5,1)] nlN [cI (cI nl0)] (ne_nil kr) (fun r=>[(0,(.string ⟨(s).toArray⟩,0)),(2,(.pointer (some ⟨b4,0,none⟩),0)),(4,(.slice none 0 0,0)),(5,(.int .i64 ((f:Int)),0)),(6,(.int .i64 ((i:Int)),0))]) (fun r=>[]) 0 (fun _=>(0,0)) (hS2) (memOk0 w2 _) (fun r hr=>⟨rfl,rfl⟩) (keysLt_all kr) [(.p _ true h1),(.p _ true hq),(.p _ true hq),(.p _ true hq),(.p _ true hq),(.p _ true hq),.t] [lV (Instr.sliceAt 9 (.string ⟨s.toArray⟩) (some (.int .i64 (f:Int))) (some (.int .i64 (i:Int))) none) (.string ⟨pt.toArray⟩) (fun w hC=>SB w),lAN slT_S 19 none 0 0 [] [Value.string ⟨pt.toArray⟩] (fun w _=>.inl rfl) rfl (fun _=>rfl) rfl rfl (Nat.le_refl 0) (by omega),lE .i64 ((((i:Int)):Int)+((1):Int)) (((i+1:Nat):Int)) (v1),lE .i64 ((((i:Int)):Int)+((1):Int)) (((i+1:Nat):Int)) (v1)] (VEx.n) (fun r=>[(0,(.string ⟨(s).toArray⟩,0)),(2,(.pointer (some ⟨b4,0,none⟩),0)),(4,(.slice (some ⟨(r 20).1,0,none⟩) (0+1) (0+1+(r 20).2),21)),(5,(.int .i64 (((i+1:Nat):Int)),0)),(6,(.int .i64 (((i+1:Nat):Int)),0))]) [] (fun r=>[(20,(9,([] ++ [Value.string ⟨pt.toArray⟩]++zc zSc (r 20).2).toArray))]) (fun r g=>by kernel_rfl) (fun r g=>by kernel_rfl) ?_
    intro r a3 w3 hr hS3 hK3 hM3
    have hh:=hM3.has 20 _ rfl
    have hc3:=hM3.below
    exact ⟨s.length+1 - (i+1),by omega,i+1,i+1,[pt],_,rfl,hnew,by simp,.inr ⟨(r 20).1,(r 20).2,by simp,rfl,Nat.le_trans hB2.size (own_nil hh.2),hh.1⟩,hS3.re rfl,hH2.chg hc3 (by simp),hB2.trans (hc3.bl0.mono hB2.size)⟩
   ·have hw3:∀ w',Chg [b] w2 w'→Below w1.heap.size w1 w':=fun w' hC=>hB2.trans (hC.below hB2.size (fun y hy=>by rw [List.mem_singleton] at hy;omega))
    have hne4:b4 ∉ [b]:=by rw [List.mem_singleton];omega
    cases sp with
    | zero =>
     refine vm_fragA (X:=⟨w2,[b]⟩) kr [(7,4),(7,6),(8,1),(5,1)] nlN [cI (cI nl0)] (ne_nil kr) (fun r=>[(0,(.string ⟨(s).toArray⟩,0)),(2,(.pointer (some ⟨b4,0,none⟩),0)),(4,(.slice (some ⟨(r 0).1,0,none⟩) (acc.length) (acc.length+0),1)),(5,(.int .i64 ((f:Int)),0)),(6,(.int .i64 ((i:Int)),0))]) (fun r=>[(0,(9,(encS acc++zc zSc 0).toArray))]) 1 (fun _=>(b,0)) (hS2.re rfl) (memOk1 hBk) (fun r hr=>⟨by simp only [hr 0 (by omega)],rfl⟩) (keysLt_all kr) [(.p _ true h1),(.p _ true hq),(.p _ true hq),(.p _ true hq),(.p _ true hq),(.p _ true hq),.t] [lV (Instr.sliceAt 9 (.string ⟨s.toArray⟩) (some (.int .i64 (f:Int))) (some (.int .i64 (i:Int))) none) (.string ⟨pt.toArray⟩) (fun w hC=>SB w),lAF slT_S 0 20 acc.length (acc.length+0) (encS acc) (zc zSc 0) [Value.string ⟨pt.toArray⟩] (by omega) rfl rfl (by omega) (by omega),lE .i64 ((((i:Int)):Int)+((1):Int)) (((i+1:Nat):Int)) (v1),lE .i64 ((((i:Int)):Int)+((1):Int)) (((i+1:Nat):Int)) (v1)] (VEx.n) (fun r=>[(0,(.string ⟨(s).toArray⟩,0)),(2,(.pointer (some ⟨b4,0,none⟩),0)),(4,(.slice (some ⟨(r 21).1,0,none⟩) (acc.length+1) (acc.length+1+(r 21).2),22)),(5,(.int .i64 (((i+1:Nat):Int)),0)),(6,(.int .i64 (((i+1:Nat):Int)),0))]) [] (fun r=>[(21,(9,(encS acc ++ [Value.string ⟨pt.toArray⟩]++zc zSc (r 21).2).toArray))]) (fun r g=>by kernel_rfl) (fun r g=>by kernel_rfl) ?_
     intro r a3 w3 hr hS3 hK3 hM3
     have hh:=hM3.has 21 _ rfl
     exact ⟨s.length+1 - (i+1),by omega,i+1,i+1,acc ++ [pt],_,rfl,hnew,by omega,.inr ⟨(r 21).1,(r 21).2,by omega,by rw [hlen],hh.2.elim (fun h=>Nat.le_trans hB2.size h) (fun h=>by rw [List.mem_singleton] at h;rw [show (r 21).1=b from h];exact hbw2),by rw [hap];exact hh.1⟩,hS3.re rfl,hH2.chg hM3.below hne4,hw3 w3 hM3.below⟩
    | succ sp =>
     rw [zc_succ,← List.append_assoc] at hBk
     refine vm_fragA (X:=⟨w2,[b]⟩) kr [(7,4),(7,6),(8,1),(5,1)] nlN [cI (cI nl0)] (ne_nil kr) (fun r=>[(0,(.string ⟨(s).toArray⟩,0)),(2,(.pointer (some ⟨b4,0,none⟩),0)),(4,(.slice (some ⟨(r 0).1,0,none⟩) (acc.length) (acc.length+(sp+1)),1)),(5,(.int .i64 ((f:Int)),0)),(6,(.int .i64 ((i:Int)),0))]) (fun r=>[(0,(9,(encS acc++zSc.toList++zc zSc sp).toArray))]) 1 (fun _=>(b,0)) (hS2.re rfl) (memOk1 hBk) (fun r hr=>⟨by simp only [hr 0 (by omega)],rfl⟩) (keysLt_all kr) [(.p _ true h1),(.p _ true hq),(.p _ true hq),(.p _ true hq),(.p _ true hq),(.p _ true hq),.t] [lV (Instr.sliceAt 9 (.string ⟨s.toArray⟩) (some (.int .i64 (f:Int))) (some (.int .i64 (i:Int))) none) (.string ⟨pt.toArray⟩) (fun w hC=>SB w),lAR slT_S 0 20 acc.length (acc.length+(sp+1)) (encS acc) zSc.toList (zc zSc sp) [Value.string ⟨pt.toArray⟩] (by omega) rfl rfl rfl (by omega),lE .i64 ((((i:Int)):Int)+((1):Int)) (((i+1:Nat):Int)) (v1),lE .i64 ((((i:Int)):Int)+((1):Int)) (((i+1:Nat):Int)) (v1)] (VEx.n) (fun r=>[(0,(.string ⟨(s).toArray⟩,0)),(2,(.pointer (some ⟨b4,0,none⟩),0)),(4,(.slice (some ⟨(r 0).1,0,none⟩) (acc.length+1) (acc.length+(sp+1)),1)),(5,(.int .i64 (((i+1:Nat):Int)),0)),(6,(.int .i64 (((i+1:Nat):Int)),0))]) [] (fun r=>[(0,(9,(encS acc ++ [Value.string ⟨pt.toArray⟩]++zc zSc sp).toArray))]) (fun r g=>by kernel_rfl) (fun r g=>by kernel_rfl) ?_
     intro r a3 w3 hr hS3 hK3 hM3
     have hh:=hM3.has 0 _ rfl
     have hr0:(r 0).1=b:=congrArg Prod.fst (hr 0 (by omega))
     exact ⟨s.length+1 - (i+1),by omega,i+1,i+1,acc ++ [pt],_,rfl,hnew,by omega,.inr ⟨(r 0).1,sp,by omega,by rw [hlen,show acc.length+1+sp=acc.length+(sp+1) by omega],by rw [hr0];exact hbw2,by rw [hap];exact hh.1⟩,hS3.re rfl,hH2.chg hM3.below hne4,hw3 w3 hM3.below⟩
end Go.Proofs.YtlhddcingeneaaaGreatDoor
