/- Numbers of both sides; the lines of a table (reference): Parse. -/
import Derived.Test.YtlhddcingeneaaaGreatDoorPSGemT
import Derived.Test.YtlhddcingeneaaaGreatDoorPSY
namespace Go.Proofs.YtlhddcingeneaaaGreatDoor
open Go Go.RowKit
set_option maxRecDepth 100000
set_option linter.unusedVariables false
set_option linter.unusedSimpArgs false
theorem decFrom_snoc:∀ (l:List UInt8) (a n d:Nat) (c:UInt8),Lib.decFrom a l=some n→Lib.digitVal c=some d→Lib.decFrom a (l ++ [c])=some (n * 10+d)
 | [],a,n,d,c,h,hd=>by
  simp only [Lib.decFrom,Option.some.injEq] at h
  subst h
  simp [Lib.decFrom,hd]
 | b :: r,a,n,d,c,h,hd=>by
  rw [List.cons_append]
  simp only [Lib.decFrom] at h ⊢
  cases hb:Lib.digitVal b with
  | none=>rw [hb] at h;cases h
  | some e =>
   rw [hb] at h
   exact decFrom_snoc r _ n d c h hd
theorem decFrom_dg:∀ k:Nat,Lib.decFrom 0 (dgN k)=some k:=by
 intro k
 induction k using Nat.strongRecOn with
 | _ k ih =>
  by_cases h:0<k
  ·rw [dgN_step h,decFrom_snoc _ _ _ (k % 10) _ (ih (k / 10) (by omega)) (by
    have e:(UInt8.ofNat (48+k % 10)).toNat=48+k % 10:=UInt8.toNat_ofNat_of_lt' (by show _<256;omega)
    unfold Lib.digitVal
    rw [e,if_pos (by omega)]
    congr 1
    omega)]
   congr 1
   omega
  ·obtain rfl:k=0:=by omega
   rfl
theorem dgN_short:∀ (n k:Nat),k<10 ^ n→(dgN k).length≤n
 | 0,k,h=>by
  obtain rfl:k=0:=by simpa using h
  exact Nat.le_refl _
 | n+1,k,h=>by
  by_cases hk:0<k
  ·rw [dgN_step hk,List.length_append]
   have:=dgN_short n (k / 10) (by rw [Nat.pow_succ] at h;omega)
   simpa using this
  ·obtain rfl:k=0:=by omega
   exact Nat.zero_le _
theorem num_yes {s:List UInt8} (h:okV s=true) (h1:1≤numV s) (h2:numV s≤99999):numR s=numV s:=by
 unfold okV at h
 unfold numV at *
 cases hv:Lib.atoiAll s with
 | ok v =>
  rw [hv] at h h1 h2
  simp only [beq_iff_eq] at h h1 h2 ⊢
  rw [itoa_dg h1] at h
  have hl:s.length≤5:=by rw [← h];exact dgN_short 5 _ (by omega)
  have hd:Lib.decFrom 0 s=some v.toNat:=by rw [← h];exact decFrom_dg _
  unfold numR
  rw [if_pos hl,hd]
  simp only [h,if_true]
  omega
 | «syntax»=>rw [hv] at h;cases h
 | range=>rw [hv] at h;cases h
theorem num_no {s:List UInt8} (h:1≤numR s):okV s=true∧numV s=numR s:=by
 unfold numR at h ⊢
 by_cases hl:s.length≤5
 ·rw [if_pos hl] at h ⊢
  cases hd:Lib.decFrom 0 s with
  | none=>rw [hd] at h;simp at h
  | some n =>
   rw [hd] at h
   simp only at h ⊢
   by_cases he:dgN n=s
   ·rw [if_pos he] at h ⊢
    have ha:Lib.atoiAll s = .ok (n:Int):=by
     rw [Lib.atoiAll_short s (by omega)]
     cases s with
     | nil =>
      simp only [Lib.decFrom,Option.some.injEq] at hd
      omega
     | cons b r =>
      obtain ⟨d,hb⟩:=Lib.digit_of_decFrom (b :: r) 0 n hd 0 b rfl
      have hb':48≤b.toNat:=by
       unfold Lib.digitVal at hb
       split at hb
       ·omega
       ·cases hb
      have n1:(b == 45)=false:=by
       rw [beq_eq_false_iff_ne];intro e;subst e;exact absurd hb' (by decide)
      have n2:(b == 43)=false:=by
       rw [beq_eq_false_iff_ne];intro e;subst e;exact absurd hb' (by decide)
      unfold Lib.atoi
      simp only [n1,n2]
      unfold Lib.decNat
      rw [if_neg (by simp),hd]
      rfl
    unfold okV numV
    rw [ha]
    simp only [beq_iff_eq]
    refine ⟨?_,trivial⟩
    rw [itoa_dg h];exact he
   ·rw [if_neg he] at h;omega
 ·rw [if_neg hl] at h;omega
theorem line_same (s:List UInt8):(lineM s).2=(lineR s).2∧((lineM s).2=true→lineM s=lineR s):=by
 unfold lineM lineR
 generalize spl s=p
 match p with
 | [a,b,c,d] =>
  simp only
  by_cases h:(okV b && okV c && okV d && rightM ⟨a,numV b,numV c,numV d⟩)=true
  ·simp only [Bool.and_eq_true] at h
   obtain ⟨⟨⟨hb,hc⟩,hd⟩,hr⟩:=h
   have hbd:=right_bd hr
   simp only at hbd
   rw [num_yes hb hbd.1.1 (by omega),num_yes hc hbd.2.1.1 (by omega),num_yes hd hbd.2.2.1 (by omega),hb,hc,hd,hr]
   exact ⟨rfl,fun _=>rfl⟩
  ·refine ⟨?_,fun h'=>absurd h' h⟩
   rw [Bool.not_eq_true] at h
   rw [h]
   cases hr:rightM ⟨a,numR b,numR c,numR d⟩ with
   | false=>rfl
   | true =>
    have hbd:=right_bd hr
    simp only at hbd
    obtain ⟨b1,b2⟩:=num_no hbd.1.1
    obtain ⟨c1,c2⟩:=num_no hbd.2.1.1
    obtain ⟨d1,d2⟩:=num_no hbd.2.2.1
    rw [b1,c1,d1,b2,c2,d2,hr] at h
    cases h
 | []=>exact ⟨rfl,fun h=>by cases h⟩
 | [_]=>exact ⟨rfl,fun h=>by cases h⟩
 | [_,_]=>exact ⟨rfl,fun h=>by cases h⟩
 | [_,_,_]=>exact ⟨rfl,fun h=>by cases h⟩
 | _ :: _ :: _ :: _ :: _ :: _=>exact ⟨rfl,fun h=>by cases h⟩
theorem parT_R (p:Option (List UInt8)) (acc:List Mt) (i:Nat) (l:List UInt8) (r:List (List UInt8)):parT p acc i (l :: r)=if (lineR l).2=true then (if geqP p (lineR l).1.nm=true then ([],i,8) else parT (some (lineR l).1.nm) (acc ++ [(lineR l).1]) (i+1) r) else ([],i,4):=by
 rw [parT]
 obtain ⟨h1,h2⟩:=line_same l
 cases h:(lineM l).2 with
 | true=>rw [← h1,h,← h2 h]
 | false=>rw [← h1,h];rfl
noncomputable def pbN:Nat:=Tryz.f22.ntmps
noncomputable def pbC:Code:=Tryz.f22.body.getD .skip
noncomputable def pb0:Code:=cB 0 pbC
theorem gnParse_any (ls:List (List UInt8)) (base:Option Addr) (c:Nat) (w:World) (hR:RdS w base (encS ls)) (hn:ls.length≤1000000) (hm:∀ l,l ∈ ls→l.length≤900000):Calls Tryz.prog 22 #[.slice base ls.length c] w (RetPa (parseT ls) w):=by
 unfold parseT
 refine vm_start [.slice base ls.length c] (fn:=Tryz.f22) (c:=pbC) kr kr nle ?_
 intro a hS
 have hS:St pbN [(0,(.slice base ls.length c,0))] a:=hS
 by_cases h100:100<ls.length
 ·rw [if_pos h100]
  have h1:decide ((100:Int)<((ls.length:Nat):Int))=true:=decide_eq_true (by omega)
  refine wpL_one ?_
  refine vm_piece (E0:=[(0,(.slice base ls.length c,0))]) kr [] pbN [pbC] kr hS [(.p _ true h1)] [] (VEx.r) [(2,(.slice none 0 0,0)),(3,(.int .i64 (0),0)),(4,(.int .i64 (3),0))] [] (hQ:=?_)
  intro a1 w1 hS1 hK1 hM1
  exact vm_out (fn:=Tryz.f22) hS1 (.tuple #[.slice none 0 0,.int .i64 0,.int .i64 3]) (fun g=>by kernel_rfl) ⟨.slice none 0 0,rfl,.inl ⟨rfl,rfl,rfl⟩,hM1.bl0⟩
 rw [if_neg h100]
 have h1:decide ((100:Int)<((ls.length:Nat):Int))=false:=decide_eq_false (by omega)
 refine wp_cut 0 kr ?_
 refine vm_piece (E0:=[(0,(.slice base ls.length c,0))]) kr [] pbN (cPre 0 pbC) kr hS [(.p _ false h1)] [] (VEx.n) [(0,(.slice base ls.length c,0)),(5,(.slice none 0 0,0)),(6,(.int .i64 (((0:Nat):Int)),0))] [] (hQ:=?_)
 intro a1 w1 hS1 hK1 hM1
 refine wp_for 0 kr kr (fun n a' w'=>∃ j acc sv,ls.length - j=n∧j≤ls.length∧acc.length=j∧parT none [] 0 ls=parT (prevN acc j) acc j (ls.drop j)∧SlG 23 zMc w w' sv acc.length (encM acc)∧St pbN [(0,(.slice base ls.length c,0)),(5,(sv,0)),(6,(.int .i64 (j:Int),0))] a'∧Below w.heap.size w w') (ls.length - 0) ⟨0,[],.slice none 0 0,rfl,by omega,rfl,rfl,.inl ⟨rfl,rfl,rfl⟩,hS1,hM1.bl0⟩ ?_
 clear hS1 hM1 hS hK1
 rintro n a2 w2 ⟨j,acc,sv,rfl,hj,hacc,hpar,hsl,hS2,hB2⟩
 refine wpL_one ?_
 rcases Nat.lt_or_ge j ls.length with hjl | hjl
 ·have h2:decide ((j:Int)<((ls.length:Nat):Int))=true:=decide_eq_true (by omega)
  obtain ⟨bl,o,rfl,hbl,hA⟩:=hR.atS j hjl
  have hc:=below_cell hB2 (hA j hjl) hbl
  have hbl2:bl<w2.heap.size:=by have:=hB2.size;omega
  have hs:=hm _ (List.getElem_mem hjl)
  rw [List.drop_eq_getElem_cons hjl] at hpar
  generalize ls[j]=s at *
  obtain ⟨m,x,hlm⟩:∃ m x,lineR s=(m,x):=⟨_,_,rfl⟩
  have hP:∀ w',Below w2.heap.size w2 w'∨Below w.heap.size w w'→Below w.heap.size w w'→Calls Tryz.prog 65 #[.string ⟨s.toArray⟩] w' (RetV (.tuple #[vMt m,.bool x]) w'):=fun w' _ h=>by
   have:=gnline_any s w' hs
   rw [hlm] at this;exact this
  have v1:IntKind.i64.wrap ((j:Int)+1)=((j+1:Nat):Int):=by rw [wr64 (by omega) (by omega)];omega
  rw [parT_R,hlm] at hpar
  rcases hsl with ⟨h0,hx0,rfl⟩ | ⟨b,sp,h0,rfl,hbw,hBk⟩
  ·obtain rfl:j=0:=by omega
   obtain rfl:acc = []:=List.eq_nil_of_length_eq_zero h0
   have hP0:∀ w',Chg [] w2 w'→Calls Tryz.prog 65 #[.string ⟨s.toArray⟩] w' (RetV (.tuple #[vMt m,.bool x]) w'):=fun w' hc=>hP w' (.inl hc.bl0) (hB2.trans (hc.bl0.mono hB2.size))
   simp only [prevN,geqP,List.nil_append] at hpar
   cases q0:(x) with
   | true =>
    refine vm_fragA (X:=⟨w2,[]⟩) kr [(7,2),(7,3),(12,3),(6,1)] pbN [cI (cI pb0)] (ne_nil kr) (fun r=>[(0,(.slice (some ⟨bl,o,none⟩) ls.length c,0)),(5,(.slice none 0 0,0)),(6,(.int .i64 (((0:Nat):Int)),0))]) (fun r=>[]) 0 (fun _=>(0,0)) (hS2) (memOk0 w2 _) (fun r hr=>⟨rfl,rfl⟩) (keysLt_all kr) [(.p _ true h2),dF (nT q0),.f,.f,.f,.f,.f,.f,.f,.f,.f,.f,.f] [lV (Instr.indexAt 49 (.slice (some ⟨bl,o,none⟩) (ls.length) (c)) (.int .i64 (((0:Nat):Int)))) (.pointer (some ⟨bl,o+0,none⟩)) (fun w hC=>ixS 0 w (by omega) (by omega) (by omega)),lV (Instr.loadAt 9 (.pointer (some ⟨bl,o+0,none⟩))) (.string ⟨(s).toArray⟩) (fun w hC=>ldS (hC.cell0 hc)),cW hP0,lAN slT_M 32 none 0 0 [] (cellsM m) (fun w _=>.inl rfl) rfl (fun _=>rfl) rfl rfl (Nat.le_refl 0) (by omega),lE .i64 (((((0:Nat):Int)):Int)+((1):Int)) (((0+1:Nat):Int)) (v1)] (VEx.n) (fun r=>[(0,(.slice (some ⟨bl,o,none⟩) ls.length c,0)),(5,(.slice (some ⟨(r 33).1,0,none⟩) (0+1) (0+1+(r 33).2),34)),(6,(.int .i64 (((0+1:Nat):Int)),0))]) [] (fun r=>[(33,(23,([]++cellsM m++zc zMc (r 33).2).toArray))]) (fun r g=>by kernel_rfl) (fun r g=>by kernel_rfl) ?_
    intro r a3 w3 hr hS3 hK3 hM3
    have hh:=hM3.has 33 _ rfl
    have hb3:=hM3.below.bl0
    refine ⟨ls.length - (0+1),by omega,0+1,[m],_,rfl,by omega,rfl,?_,.inr ⟨(r 33).1,(r 33).2,by simp,rfl,Nat.le_trans hB2.size (own_nil hh.2),hh.1⟩,hS3.re rfl,hB2.trans (hb3.mono hB2.size)⟩
    rw [hpar];simp [q0,prevN]
   | false =>
    refine vm_fragA (X:=⟨w2,[]⟩) kr [(7,2),(7,3)] pbN [cI (cI pb0)] (ne_nil kr) (fun r=>[(0,(.slice (some ⟨bl,o,none⟩) ls.length c,0)),(5,(.slice none 0 0,0)),(6,(.int .i64 (((0:Nat):Int)),0))]) (fun r=>[]) 0 (fun _=>(0,0)) (hS2) (memOk0 w2 _) (fun r hr=>⟨rfl,rfl⟩) (keysLt_all kr) [(.p _ true h2),dT (nF q0)] [lV (Instr.indexAt 49 (.slice (some ⟨bl,o,none⟩) (ls.length) (c)) (.int .i64 (((0:Nat):Int)))) (.pointer (some ⟨bl,o+0,none⟩)) (fun w hC=>ixS 0 w (by omega) (by omega) (by omega)),lV (Instr.loadAt 9 (.pointer (some ⟨bl,o+0,none⟩))) (.string ⟨(s).toArray⟩) (fun w hC=>ldS (hC.cell0 hc)),cW hP0] (VEx.r) (fun r=>[(2,(.slice none 0 0,0)),(3,(.int .i64 (((0:Nat):Int)),0)),(4,(.int .i64 (4),0))]) [] (fun r=>[]) (fun r g=>by kernel_rfl) (fun r g=>by kernel_rfl) ?_
    intro r a3 w3 hr hS3 hK3 hM3
    exact ret_r (vm_out (fn:=Tryz.f22) hS3 (.tuple #[.slice none 0 0,.int .i64 ((0:Nat):Int),.int .i64 4]) (fun g=>by kernel_rfl) (by rw [hpar];simp only [q0];exact ⟨.slice none 0 0,rfl,.inl ⟨rfl,rfl,rfl⟩,hB2.trans (hM3.below.bl0.mono hB2.size)⟩))
  ·obtain ⟨k,rfl⟩:∃ k,j=k+1:=⟨j - 1,by omega⟩
   have hk:k<acc.length:=by omega
   have hprev:prevN acc (k+1)=some acc[k].nm:=prevN_succ k hk
   rw [hprev] at hpar
   have hsz2:=hB2.size
   have hlt:=hBk.lt
   have hP1:∀ w',Chg [b] w2 w'→Calls Tryz.prog 65 #[.string ⟨s.toArray⟩] w' (RetV (.tuple #[vMt m,.bool x]) w'):=fun w' hc=>by
    have h3:Below w.heap.size w w':=hB2.trans (hc.below hB2.size (fun y hy=>by rw [List.mem_singleton] at hy;omega))
    exact hP w' (.inr h3) h3
   have hcl:∀ w',Chg [b] w2 w'→w'.cell? ⟨bl,o+(k+1),none⟩=some (.string ⟨s.toArray⟩):=fun w' hC=>hC.cell (by simp;omega) hc
   have hw3:∀ w',Chg [b] w2 w'→Below w.heap.size w w':=fun w' hC=>hB2.trans (hC.below hB2.size (fun y hy=>by rw [List.mem_singleton] at hy;omega))
   have v2:IntKind.i64.wrap (((k+1:Nat):Int) - 1)=(k:Int):=by rw [wr64 (by omega) (by omega)];omega
   have g0:decide ((0:Int)<((k+1:Nat):Int))=true:=decide_eq_true (by omega)
   have hMk:∀ (sp:List Value) (b:Nat) (w:World),Hc w b 23 (encM acc++sp).toArray→MAt w b (k * 4) acc[k]:=fun sp b w h=>h.atM k hk
   have hel:=encM_len acc
   have hap:encM (acc ++ [m])=encM acc++cellsM m:=by rw [encM_app];simp [encM]
   have hpv:prevN (acc ++ [m]) (k+1+1)=some m.nm:=by
    rw [prevN_succ (k+1) (by simp;omega)]
    simp [List.getElem_append_right,hacc]
   have hlen:(acc ++ [m]).length=k+1+1:=by simp [hacc]
   generalize hp:acc[k]=p at *
   simp only [geqP] at hpar
   rw [hacc] at hS2
   cases sp with
   | zero =>
    cases q0:(x) with
    | true =>
     cases q1:(sLt (p.nm) (m.nm)) with
     | true =>
      refine vm_fragA (X:=⟨w2,[b]⟩) kr [(7,2),(7,3),(10,5),(10,6),(10,8),(12,3),(6,1)] pbN [cI (cI pb0)] (ne_nil kr) (fun r=>[(0,(.slice (some ⟨bl,o,none⟩) ls.length c,0)),(5,(.slice (some ⟨(r 0).1,0,none⟩) (k+1) (k+1+0),1)),(6,(.int .i64 (((k+1:Nat):Int)),0))]) (fun r=>[(0,(23,(encM acc++zc zMc 0).toArray))]) 1 (fun _=>(b,0)) (hS2.re rfl) (memOk1 hBk) (fun r hr=>⟨by simp only [hr 0 (by omega)],rfl⟩) (keysLt_all kr) [(.p _ true h2),dF (nT q0),(.p _ true g0),(.p _ true g0),(.p _ true g0),(.p _ true g0),(.p _ true g0),(.p _ true g0),(.p _ true g0),(.p _ true g0),(.p _ true g0),(.p _ true g0),dF (nT q1)] [lV (Instr.indexAt 49 (.slice (some ⟨bl,o,none⟩) (ls.length) (c)) (.int .i64 (((k+1:Nat):Int)))) (.pointer (some ⟨bl,o+(k+1),none⟩)) (fun w hC=>ixS (k+1) w (by omega) (by omega) (by omega)),lV (Instr.loadAt 9 (.pointer (some ⟨bl,o+(k+1),none⟩))) (.string ⟨(s).toArray⟩) (fun w hC=>ldS (hcl w hC)),cW hP1,lE .i64 (((((k+1:Nat):Int)):Int) - ((1):Int)) ((k:Int)) (v2),lB 0 23 (encM acc++zc zMc 0).toArray (fun b=>Instr.indexAt 48 (.slice (some ⟨b,0,none⟩) (k+1) (k+1+0)) (.int .i64 ((k:Int)))) (fun b=>.pointer (some ⟨b,k * 4,none⟩)) 1 (fun b w hC hB=>ixM0 k w (by omega) (by omega) (by omega)),lB 0 23 (encM acc++zc zMc 0).toArray (fun b=>Instr.loadAt 9 (.pointer (some ⟨b,k * 4+0,none⟩))) (fun b=>.string ⟨(p.nm).toArray⟩) 0 (fun b w hC hB=>ldN (hMk _ b w hB)),lAF slT_M 0 33 (k+1) (k+1+0) (encM acc) (zc zMc 0) (cellsM m) (by omega) rfl rfl (by omega) (by omega),lE .i64 (((((k+1:Nat):Int)):Int)+((1):Int)) (((k+1+1:Nat):Int)) (v1)] (VEx.n) (fun r=>[(0,(.slice (some ⟨bl,o,none⟩) ls.length c,0)),(5,(.slice (some ⟨(r 34).1,0,none⟩) (k+1+1) (k+1+1+(r 34).2),35)),(6,(.int .i64 (((k+1+1:Nat):Int)),0))]) [] (fun r=>[(34,(23,(encM acc++cellsM m++zc zMc (r 34).2).toArray))]) (fun r g=>by kernel_rfl) (fun r g=>by kernel_rfl) ?_
      intro r a3 w3 hr hS3 hK3 hM3
      have hh:=hM3.has 34 _ rfl
      refine ⟨ls.length - (k+1+1),by omega,k+1+1,acc ++ [m],_,rfl,by omega,hlen,?_,.inr ⟨(r 34).1,(r 34).2,by omega,by rw [hlen],hh.2.elim (fun h=>Nat.le_trans hB2.size h) (fun h=>by rw [List.mem_singleton] at h;rw [show (r 34).1=b from h];exact hbw),by rw [hap];exact hh.1⟩,hS3.re rfl,hw3 w3 hM3.below⟩
      rw [hpar,hpv];simp [q0,q1]
     | false =>
      refine vm_fragA (X:=⟨w2,[b]⟩) kr [(7,2),(7,3),(10,5),(10,6),(10,8)] pbN [cI (cI pb0)] (ne_nil kr) (fun r=>[(0,(.slice (some ⟨bl,o,none⟩) ls.length c,0)),(5,(.slice (some ⟨(r 0).1,0,none⟩) (k+1) (k+1+0),1)),(6,(.int .i64 (((k+1:Nat):Int)),0))]) (fun r=>[(0,(23,(encM acc++zc zMc 0).toArray))]) 1 (fun _=>(b,0)) (hS2.re rfl) (memOk1 hBk) (fun r hr=>⟨by simp only [hr 0 (by omega)],rfl⟩) (keysLt_all kr) [(.p _ true h2),dF (nT q0),(.p _ true g0),(.p _ true g0),(.p _ true g0),(.p _ true g0),(.p _ true g0),(.p _ true g0),(.p _ true g0),(.p _ true g0),(.p _ true g0),(.p _ true g0),dT (nF q1)] [lV (Instr.indexAt 49 (.slice (some ⟨bl,o,none⟩) (ls.length) (c)) (.int .i64 (((k+1:Nat):Int)))) (.pointer (some ⟨bl,o+(k+1),none⟩)) (fun w hC=>ixS (k+1) w (by omega) (by omega) (by omega)),lV (Instr.loadAt 9 (.pointer (some ⟨bl,o+(k+1),none⟩))) (.string ⟨(s).toArray⟩) (fun w hC=>ldS (hcl w hC)),cW hP1,lE .i64 (((((k+1:Nat):Int)):Int) - ((1):Int)) ((k:Int)) (v2),lB 0 23 (encM acc++zc zMc 0).toArray (fun b=>Instr.indexAt 48 (.slice (some ⟨b,0,none⟩) (k+1) (k+1+0)) (.int .i64 ((k:Int)))) (fun b=>.pointer (some ⟨b,k * 4,none⟩)) 1 (fun b w hC hB=>ixM0 k w (by omega) (by omega) (by omega)),lB 0 23 (encM acc++zc zMc 0).toArray (fun b=>Instr.loadAt 9 (.pointer (some ⟨b,k * 4+0,none⟩))) (fun b=>.string ⟨(p.nm).toArray⟩) 0 (fun b w hC hB=>ldN (hMk _ b w hB))] (VEx.r) (fun r=>[(2,(.slice none 0 0,0)),(3,(.int .i64 (((k+1:Nat):Int)),0)),(4,(.int .i64 (8),0))]) [] (fun r=>[]) (fun r g=>by kernel_rfl) (fun r g=>by kernel_rfl) ?_
      intro r a3 w3 hr hS3 hK3 hM3
      exact ret_r (vm_out (fn:=Tryz.f22) hS3 (.tuple #[.slice none 0 0,.int .i64 ((k+1:Nat):Int),.int .i64 8]) (fun g=>by kernel_rfl) (by rw [hpar];simp [q0,q1];exact ⟨.slice none 0 0,rfl,.inl ⟨rfl,rfl,rfl⟩,hw3 w3 hM3.below⟩))
    | false =>
     refine vm_fragA (X:=⟨w2,[b]⟩) kr [(7,2),(7,3)] pbN [cI (cI pb0)] (ne_nil kr) (fun r=>[(0,(.slice (some ⟨bl,o,none⟩) ls.length c,0)),(5,(.slice (some ⟨(r 0).1,0,none⟩) (k+1) (k+1+0),1)),(6,(.int .i64 (((k+1:Nat):Int)),0))]) (fun r=>[(0,(23,(encM acc++zc zMc 0).toArray))]) 1 (fun _=>(b,0)) (hS2.re rfl) (memOk1 hBk) (fun r hr=>⟨by simp only [hr 0 (by omega)],rfl⟩) (keysLt_all kr) [(.p _ true h2),dT (nF q0)] [lV (Instr.indexAt 49 (.slice (some ⟨bl,o,none⟩) (ls.length) (c)) (.int .i64 (((k+1:Nat):Int)))) (.pointer (some ⟨bl,o+(k+1),none⟩)) (fun w hC=>ixS (k+1) w (by omega) (by omega) (by omega)),lV (Instr.loadAt 9 (.pointer (some ⟨bl,o+(k+1),none⟩))) (.string ⟨(s).toArray⟩) (fun w hC=>ldS (hcl w hC)),cW hP1] (VEx.r) (fun r=>[(2,(.slice none 0 0,0)),(3,(.int .i64 (((k+1:Nat):Int)),0)),(4,(.int .i64 (4),0))]) [] (fun r=>[]) (fun r g=>by kernel_rfl) (fun r g=>by kernel_rfl) ?_
     intro r a3 w3 hr hS3 hK3 hM3
     exact ret_r (vm_out (fn:=Tryz.f22) hS3 (.tuple #[.slice none 0 0,.int .i64 ((k+1:Nat):Int),.int .i64 4]) (fun g=>by kernel_rfl) (by rw [hpar];simp [q0];exact ⟨.slice none 0 0,rfl,.inl ⟨rfl,rfl,rfl⟩,hw3 w3 hM3.below⟩))
   | succ sp =>
    rw [zc_succ,← List.append_assoc] at hBk
    cases q0:(x) with
    | true =>
     cases q1:(sLt (p.nm) (m.nm)) with
     | true =>
      refine vm_fragA (X:=⟨w2,[b]⟩) kr [(7,2),(7,3),(10,5),(10,6),(10,8),(12,3),(6,1)] pbN [cI (cI pb0)] (ne_nil kr) (fun r=>[(0,(.slice (some ⟨bl,o,none⟩) ls.length c,0)),(5,(.slice (some ⟨(r 0).1,0,none⟩) (k+1) (k+1+(sp+1)),1)),(6,(.int .i64 (((k+1:Nat):Int)),0))]) (fun r=>[(0,(23,(encM acc++zMc.toList++zc zMc sp).toArray))]) 1 (fun _=>(b,0)) (hS2.re rfl) (memOk1 hBk) (fun r hr=>⟨by simp only [hr 0 (by omega)],rfl⟩) (keysLt_all kr) [(.p _ true h2),dF (nT q0),(.p _ true g0),(.p _ true g0),(.p _ true g0),(.p _ true g0),(.p _ true g0),(.p _ true g0),(.p _ true g0),(.p _ true g0),(.p _ true g0),(.p _ true g0),dF (nT q1)] [lV (Instr.indexAt 49 (.slice (some ⟨bl,o,none⟩) (ls.length) (c)) (.int .i64 (((k+1:Nat):Int)))) (.pointer (some ⟨bl,o+(k+1),none⟩)) (fun w hC=>ixS (k+1) w (by omega) (by omega) (by omega)),lV (Instr.loadAt 9 (.pointer (some ⟨bl,o+(k+1),none⟩))) (.string ⟨(s).toArray⟩) (fun w hC=>ldS (hcl w hC)),cW hP1,lE .i64 (((((k+1:Nat):Int)):Int) - ((1):Int)) ((k:Int)) (v2),lB 0 23 (encM acc++zMc.toList++zc zMc sp).toArray (fun b=>Instr.indexAt 48 (.slice (some ⟨b,0,none⟩) (k+1) (k+1+(sp+1))) (.int .i64 ((k:Int)))) (fun b=>.pointer (some ⟨b,k * 4,none⟩)) 1 (fun b w hC hB=>ixM0 k w (by omega) (by omega) (by omega)),lB 0 23 (encM acc++zMc.toList++zc zMc sp).toArray (fun b=>Instr.loadAt 9 (.pointer (some ⟨b,k * 4+0,none⟩))) (fun b=>.string ⟨(p.nm).toArray⟩) 0 (fun b w hC hB=>ldN (hMk _ b w (by rw [← List.append_assoc];exact hB))),lAR slT_M 0 33 (k+1) (k+1+(sp+1)) (encM acc) zMc.toList (zc zMc sp) (cellsM m) (by omega) rfl rfl rfl (by omega),lE .i64 (((((k+1:Nat):Int)):Int)+((1):Int)) (((k+1+1:Nat):Int)) (v1)] (VEx.n) (fun r=>[(0,(.slice (some ⟨bl,o,none⟩) ls.length c,0)),(5,(.slice (some ⟨(r 0).1,0,none⟩) (k+1+1) (k+1+(sp+1)),1)),(6,(.int .i64 (((k+1+1:Nat):Int)),0))]) [] (fun r=>[(0,(23,(encM acc++cellsM m++zc zMc sp).toArray))]) (fun r g=>by kernel_rfl) (fun r g=>by kernel_rfl) ?_
      intro r a3 w3 hr hS3 hK3 hM3
      have hh:=hM3.has 0 _ rfl
      have hr0:(r 0).1=b:=congrArg Prod.fst (hr 0 (by omega))
      refine ⟨ls.length - (k+1+1),by omega,k+1+1,acc ++ [m],_,rfl,by omega,hlen,?_,.inr ⟨(r 0).1,sp,by omega,by rw [hlen,show k+1+1+sp=k+1+(sp+1) by omega],by rw [hr0];exact hbw,by rw [hap];exact hh.1⟩,hS3.re rfl,hw3 w3 hM3.below⟩
      rw [hpar,hpv];simp [q0,q1]
     | false =>
      refine vm_fragA (X:=⟨w2,[b]⟩) kr [(7,2),(7,3),(10,5),(10,6),(10,8)] pbN [cI (cI pb0)] (ne_nil kr) (fun r=>[(0,(.slice (some ⟨bl,o,none⟩) ls.length c,0)),(5,(.slice (some ⟨(r 0).1,0,none⟩) (k+1) (k+1+(sp+1)),1)),(6,(.int .i64 (((k+1:Nat):Int)),0))]) (fun r=>[(0,(23,(encM acc++zMc.toList++zc zMc sp).toArray))]) 1 (fun _=>(b,0)) (hS2.re rfl) (memOk1 hBk) (fun r hr=>⟨by simp only [hr 0 (by omega)],rfl⟩) (keysLt_all kr) [(.p _ true h2),dF (nT q0),(.p _ true g0),(.p _ true g0),(.p _ true g0),(.p _ true g0),(.p _ true g0),(.p _ true g0),(.p _ true g0),(.p _ true g0),(.p _ true g0),(.p _ true g0),dT (nF q1)] [lV (Instr.indexAt 49 (.slice (some ⟨bl,o,none⟩) (ls.length) (c)) (.int .i64 (((k+1:Nat):Int)))) (.pointer (some ⟨bl,o+(k+1),none⟩)) (fun w hC=>ixS (k+1) w (by omega) (by omega) (by omega)),lV (Instr.loadAt 9 (.pointer (some ⟨bl,o+(k+1),none⟩))) (.string ⟨(s).toArray⟩) (fun w hC=>ldS (hcl w hC)),cW hP1,lE .i64 (((((k+1:Nat):Int)):Int) - ((1):Int)) ((k:Int)) (v2),lB 0 23 (encM acc++zMc.toList++zc zMc sp).toArray (fun b=>Instr.indexAt 48 (.slice (some ⟨b,0,none⟩) (k+1) (k+1+(sp+1))) (.int .i64 ((k:Int)))) (fun b=>.pointer (some ⟨b,k * 4,none⟩)) 1 (fun b w hC hB=>ixM0 k w (by omega) (by omega) (by omega)),lB 0 23 (encM acc++zMc.toList++zc zMc sp).toArray (fun b=>Instr.loadAt 9 (.pointer (some ⟨b,k * 4+0,none⟩))) (fun b=>.string ⟨(p.nm).toArray⟩) 0 (fun b w hC hB=>ldN (hMk _ b w (by rw [← List.append_assoc];exact hB)))] (VEx.r) (fun r=>[(2,(.slice none 0 0,0)),(3,(.int .i64 (((k+1:Nat):Int)),0)),(4,(.int .i64 (8),0))]) [] (fun r=>[]) (fun r g=>by kernel_rfl) (fun r g=>by kernel_rfl) ?_
      intro r a3 w3 hr hS3 hK3 hM3
      exact ret_r (vm_out (fn:=Tryz.f22) hS3 (.tuple #[.slice none 0 0,.int .i64 ((k+1:Nat):Int),.int .i64 8]) (fun g=>by kernel_rfl) (by rw [hpar];simp [q0,q1];exact ⟨.slice none 0 0,rfl,.inl ⟨rfl,rfl,rfl⟩,hw3 w3 hM3.below⟩))
    | false =>
     refine vm_fragA (X:=⟨w2,[b]⟩) kr [(7,2),(7,3)] pbN [cI (cI pb0)] (ne_nil kr) (fun r=>[(0,(.slice (some ⟨bl,o,none⟩) ls.length c,0)),(5,(.slice (some ⟨(r 0).1,0,none⟩) (k+1) (k+1+(sp+1)),1)),(6,(.int .i64 (((k+1:Nat):Int)),0))]) (fun r=>[(0,(23,(encM acc++zMc.toList++zc zMc sp).toArray))]) 1 (fun _=>(b,0)) (hS2.re rfl) (memOk1 hBk) (fun r hr=>⟨by simp only [hr 0 (by omega)],rfl⟩) (keysLt_all kr) [(.p _ true h2),dT (nF q0)] [lV (Instr.indexAt 49 (.slice (some ⟨bl,o,none⟩) (ls.length) (c)) (.int .i64 (((k+1:Nat):Int)))) (.pointer (some ⟨bl,o+(k+1),none⟩)) (fun w hC=>ixS (k+1) w (by omega) (by omega) (by omega)),lV (Instr.loadAt 9 (.pointer (some ⟨bl,o+(k+1),none⟩))) (.string ⟨(s).toArray⟩) (fun w hC=>ldS (hcl w hC)),cW hP1] (VEx.r) (fun r=>[(2,(.slice none 0 0,0)),(3,(.int .i64 (((k+1:Nat):Int)),0)),(4,(.int .i64 (4),0))]) [] (fun r=>[]) (fun r g=>by kernel_rfl) (fun r g=>by kernel_rfl) ?_
     intro r a3 w3 hr hS3 hK3 hM3
     exact ret_r (vm_out (fn:=Tryz.f22) hS3 (.tuple #[.slice none 0 0,.int .i64 ((k+1:Nat):Int),.int .i64 4]) (fun g=>by kernel_rfl) (by rw [hpar];simp [q0];exact ⟨.slice none 0 0,rfl,.inl ⟨rfl,rfl,rfl⟩,hw3 w3 hM3.below⟩))
 ·have h2:decide ((j:Int)<((ls.length:Nat):Int))=false:=decide_eq_false (by omega)
  obtain rfl:j=ls.length:=by omega
  rw [List.drop_length,parT] at hpar
  refine vm_piece (E0:=[(0,(.slice base ls.length c,0)),(5,(sv,0)),(6,(.int .i64 (((ls.length:Nat):Int)),0))]) kr [] pbN [cI (cI pb0)] kr hS2 [(.p _ false h2)] [] (VEx.x 0) [(0,(.slice base ls.length c,0)),(5,(sv,0)),(6,(.int .i64 (((ls.length:Nat):Int)),0))] [] (hQ:=?_)
  intro a3 w3 hS3 hK3 hM3
  refine exit_n (then_n ?_)
  refine vm_piece (E0:=[(0,(.slice base ls.length c,0)),(5,(sv,0)),(6,(.int .i64 (((ls.length:Nat):Int)),0))]) kr [] pbN (cPost 0 pbC) kr hS3 [] [] (VEx.r) [(2,(sv,0)),(3,(.int .i64 (0),0)),(4,(.int .i64 (0),0))] [] (hQ:=?_)
  intro a4 w4 hS4 hK4 hM4
  have hb4:Below w2.heap.size w2 w4:=(hM3.trans hM4).bl0
  refine vm_out (fn:=Tryz.f22) hS4 (.tuple #[sv,.int .i64 0,.int .i64 0]) (fun g=>by kernel_rfl) ?_
  rw [hpar]
  refine ⟨sv,rfl,?_,hB2.trans (hb4.mono hB2.size)⟩
  rcases hsl with h | ⟨b,m,g1,g2,g3,g4⟩
  ·exact .inl h
  ·exact .inr ⟨b,m,g1,g2,g3,g4.chg (Chg.of_below hb4 []) (by simp)⟩
end Go.Proofs.YtlhddcingeneaaaGreatDoor
