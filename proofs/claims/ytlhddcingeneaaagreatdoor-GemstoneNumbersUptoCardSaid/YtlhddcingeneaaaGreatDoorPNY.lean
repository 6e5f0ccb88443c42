import Derived.Test.YtlhddcingeneaaaGreatDoorPNX
import Derived.Test.YtlhddcingeneaaaGreatDoorPNL
import Derived.Test.YtlhddcingeneaaaGreatDoorPNJ
/- Weights and densities (program). -/
set_option linter.unusedVariables false
set_option linter.unusedSimpArgs false
set_option maxRecDepth 100000
set_option maxHeartbeats 8000000
namespace Go.Proofs.YtlhddcingeneaaaGreatDoor
open Go Go.RowKit
theorem mquo_run (a b q:Int) (w:World) (h:b≠0) (e:a.tdiv b=q) (h0:-9223372036854775808≤q) (h1:q≤9223372036854775807):(Op.intDiv .quo .i64 a b).run Tryz.prog w = .ok (.int .i64 q) w:=by
 unfold Op.intDiv
 rw [if_neg h]
 have e1:IntKind.i64.wrap (a.tdiv b)=q:=by rw [e];exact wr64 h0 h1
 simp only [e1]
 rfl
def qz:Mt:=⟨[113,117,97,114,116,122],2650,1544,70⟩
theorem gaquartz_any (w:World):Calls Tryz.prog 39 #[] w (RetV (vMt qz) w):=by
 exact vm_pure kr Tryz.func39 rfl [] nle [] [] []
def denOk (a b:Int):Bool:=decide (1≤a) && decide (1≤b) && decide (a≤1000000000000) && decide (b<a)
def denV (a b:Int):Value:=if denOk a b=true then .tuple #[.agg #[.int .i64 (a * 1000 / (a - b)),.int .i64 ((a * 1000+(a - b) - 1) / (a - b))],.int .i64 0] else .tuple #[.agg #[.int .i64 0,.int .i64 0],.int .i64 2]
theorem ediv_small {x y:Int} (hx:0≤x) (hy:1≤y) (hb:x≤2000000000000000):0≤x / y∧x / y≤2000000000000000:=by
 refine ⟨Int.ediv_nonneg hx (by omega),?_⟩
 have:=Int.ediv_le_self y hx
 omega
theorem gmDensity_any (a b:Int) (w:World) (a0:-9223372036854775808≤a) (a1:a≤9223372036854775807) (b0:-9223372036854775808≤b) (b1:b≤9223372036854775807):Calls Tryz.prog 17 #[.int .i64 a,.int .i64 b] w (RetV (denV a b) w):=by
 unfold denV
 cases hd:denOk a b with
 | true =>
  rw [if_pos rfl]
  unfold denOk at hd
  simp only [Bool.and_eq_true,decide_eq_true_eq] at hd
  obtain ⟨⟨⟨g1,g2⟩,g3⟩,g4⟩:=hd
  have h1:decide (a<(1:Int))=false:=decide_eq_false (by omega)
  have h2:decide (b<(1:Int))=false:=decide_eq_false (by omega)
  have h3:decide ((1000000000000:Int)<a)=false:=decide_eq_false (by omega)
  have h4:decide (a≤b)=false:=decide_eq_false (by omega)
  have v1:IntKind.i64.wrap (a * 1000)=a * 1000:=wr64 (by omega) (by omega)
  have v2:IntKind.i64.wrap (a - b)=a - b:=wr64 (by omega) (by omega)
  have v3:IntKind.i64.wrap (a * 1000+(a - b))=a * 1000+(a - b):=wr64 (by omega) (by omega)
  have v4:IntKind.i64.wrap (a * 1000+(a - b) - 1)=a * 1000+(a - b) - 1:=wr64 (by omega) (by omega)
  have e1:=ediv_small (x:=a * 1000) (y:=a - b) (by omega) (by omega) (by omega)
  have e2:=ediv_small (x:=a * 1000+(a - b) - 1) (y:=a - b) (by omega) (by omega) (by omega)
  have q1:=fun w=>mquo_run (a * 1000) (a - b) (a * 1000 / (a - b)) w (by omega) (Int.tdiv_eq_ediv_of_nonneg (by omega)) (by omega) (by omega)
  have q2:=fun w=>mquo_run (a * 1000+(a - b) - 1) (a - b) ((a * 1000+(a - b) - 1) / (a - b)) w (by omega) (Int.tdiv_eq_ediv_of_nonneg (by omega)) (by omega) (by omega)
  generalize a * 1000 / (a - b)=lo at *
  generalize (a * 1000+(a - b) - 1) / (a - b)=hi at *
  exact vm_pure kr Tryz.func17 rfl [.int .i64 a,.int .i64 b] nle [(3,1),(3,4),(4,2),(4,5),(4,6),(4,8)] [(.p _ false h1),(.p _ false h1),(.p _ false h1),(.p _ false h2),(.p _ false h2),(.p _ false h2),(.p _ false h3),(.p _ false h3),(.p _ false h3),(.p _ false h3),(.p _ false h4)] [lE .i64 (((a):Int) * ((1000):Int)) (a * 1000) (v1),lE .i64 (((a):Int) - ((b):Int)) (a - b) (v2),lV (Op.intDiv .quo .i64 ((a * 1000):Int) ((a - b):Int)) (.int .i64 (lo)) (fun w hC=>q1 w),lE .i64 (((a * 1000):Int)+((a - b):Int)) (a * 1000+(a - b)) (v3),lE .i64 (((a * 1000+(a - b)):Int) - ((1):Int)) (a * 1000+(a - b) - 1) (v4),lV (Op.intDiv .quo .i64 ((a * 1000+(a - b) - 1):Int) ((a - b):Int)) (.int .i64 (hi)) (fun w hC=>q2 w)]
 | false =>
  rw [if_neg (by decide)]
  cases q0:(decide (a<(1:Int))) with
  | true =>
   exact vm_pure kr Tryz.func17 rfl [.int .i64 a,.int .i64 b] nle [] [dT q0,dT q0,dT q0,.t,.t,.t,.t,.t,.t,.t,.t] []
  | false =>
   cases q1:(decide (b<(1:Int))) with
   | true =>
    exact vm_pure kr Tryz.func17 rfl [.int .i64 a,.int .i64 b] nle [] [dF q0,dF q0,dF q0,dT q1,dT q1,dT q1,.t,.t,.t,.t,.t] []
   | false =>
    cases q2:(decide ((1000000000000:Int)<a)) with
    | true =>
     exact vm_pure kr Tryz.func17 rfl [.int .i64 a,.int .i64 b] nle [] [dF q0,dF q0,dF q0,dF q1,dF q1,dF q1,dT q2,dT q2,dT q2,dT q2,.t] []
    | false =>
     cases q3:(decide (a≤b)) with
     | true =>
      exact vm_pure kr Tryz.func17 rfl [.int .i64 a,.int .i64 b] nle [] [dF q0,dF q0,dF q0,dF q1,dF q1,dF q1,dF q2,dF q2,dF q2,dF q2,dT q3] []
     | false =>
      exact absurd hd (by unfold denOk;simp only [Bool.not_eq_false,Bool.and_eq_true,decide_eq_true_eq];have:=of_decide_eq_false q0;have:=of_decide_eq_false q1;have:=of_decide_eq_false q2;have:=of_decide_eq_false q3;omega)
def zI:Value:=.agg #[.bool false,.string ⟨#[]⟩]
def dnN (m:Mt):Nm:=low ⟨m.d,0,0,0,1000⟩
theorem rightM_d {m:Mt} (h:rightM m=true):1≤m.d∧m.d≤30000:=by
 unfold rightM at h
 simp only [Bool.and_eq_true,decide_eq_true_eq] at h
 omega
theorem dnN_ok (m:Mt):Ok (dnN m):=low_ok (by show (1000:Int)≠0;decide)
theorem dnN_bn {m:Mt} (h:rightM m=true):BN 3 (dnN m):=by
 obtain ⟨h1,h2⟩:=rightM_d h
 exact BN.low ⟨(show Bd 3 m.d by unfold Bd;omega),Bd.zero 3,Bd.zero 3,Bd.zero 3,(show Bd 3 1000 by unfold Bd;omega)⟩ (by show (1000:Int)≠0;decide)
theorem gmMilligrams_arg1 (m:Mt) (r:Rw) (w:World) (hm:rightM m=false) (hl:m.nm.length≤1000000):Calls Tryz.prog 12 #[vMt m,vR r] w (RetV (.tuple #[zI,.int .i64 1]) w):=by
 have M:=fun w=>gmmaterial_any m w hl
 rw [hm] at M
 exact vm_pure kr Tryz.func12 rfl [vMt m,vR r] nle [] [.t,.t,.t,.t,.t] [cV (M)]
theorem gmMilligrams_neg (m:Mt) (x:Nm) (w:World) (hm:rightM m=true) (hl:m.nm.length≤1000000) (hx:BN 1000000 x) (ox:Ok x) (h:sgnN x<0):Calls Tryz.prog 12 #[vMt m,vN x] w (RetV (.tuple #[zI,.int .i64 2]) w):=by
 have M:=fun w=>gmmaterial_any m w hl
 have V:=fun w=>fValid_yes x w (hx.mono (by omega)) ox
 have S:=fun w=>fSign_any x w (hx.mono (by omega)) ox
 have h1:decide (sgnN x<(0:Int))=true:=decide_eq_true h
 rw [hm] at M
 generalize sgnN x=s at *
 exact vm_pure kr Tryz.func12 rfl [vMt m,vN x] nle [] [.f,.f,.f,.f,.f,(.p _ true h1)] [cV (M),cV (V),cV (S)]
theorem gmMilligrams_yes (m:Mt) (x:Nm) (f:Int) (w:World) (hm:rightM m=true) (hl:m.nm.length≤1000000) (hx:BN 1000000 x) (ox:Ok x) (h:0≤sgnN x) (hf:Fl (mulN x (dnN m)) f):Calls Tryz.prog 12 #[vMt m,vN x] w (RetV (.tuple #[vI (f.natAbs:Int),.int .i64 0]) w):=by
 obtain ⟨d1,d2⟩:=rightM_d hm
 have M:=fun w=>gmmaterial_any m w hl
 have V:=fun w=>fValid_yes x w (hx.mono (by omega)) ox
 have S:=fun w=>fSign_any x w (hx.mono (by omega)) ox
 have K:=fun w=>fRatio_any m.d 1000 w (by omega) (by omega) (by omega) (by omega) (by decide)
 have bk:=dnN_bn hm
 have P:=fun w=>fMul_any x (dnN m) w (hx.mono (by omega)) (bk.mono (by omega)) ox (dnN_ok m)
 have F:=fun w=>fFloor_fl (mulN x (dnN m)) f w ((hx.mulN (bk.mono (show 3≤1000000 by omega)) ox.ne (dnN_ok m).ne).mono (by omega)) (mulN_ok ox (dnN_ok m)) hf
 have A:=fun w=>Abs_any f w
 have h1:decide (sgnN x<(0:Int))=false:=decide_eq_false (by omega)
 rw [hm] at M
 unfold RetI at F A
 change ∀ w,Calls Tryz.prog 46 #[.int .i64 m.d,.int .i64 1000] w (RetV (.tuple #[vN (dnN m),.int .i64 0]) w) at K
 generalize sgnN x=s at *
 generalize mulN x (dnN m)=p at *
 generalize dnN m=k at *
 exact vm_pure kr Tryz.func12 rfl [vMt m,vN x] nle [] [.f,.f,.f,.f,.f,(.p _ false h1),.f] [cV (M),cV (V),cV (S),cV (K),cV (P),cV (F),cV (A)]

noncomputable def paN:Nat:=Tryz.f21.ntmps
noncomputable def paC:Code:=Tryz.f21.body.getD .skip
noncomputable def pa0:Code:=cB 0 paC
theorem gmParse_any (ls:List (List UInt8)) (base:Option Addr) (c:Nat) (w:World) (hG:GW w) (hR:RdS w base (encS ls)) (hn:ls.length≤1000000) (hm:∀ l,l ∈ ls→l.length≤1000000):Calls Tryz.prog 21 #[.slice base ls.length c] w (RetPa (parseT ls) w):=by
 unfold parseT
 refine vm_start [.slice base ls.length c] (fn:=Tryz.f21) (c:=paC) kr kr nle ?_
 intro a hS
 have hS:St paN [(0,(.slice base ls.length c,0))] a:=hS
 by_cases h100:100<ls.length
 ·rw [if_pos h100]
  have h1:decide ((100:Int)<((ls.length:Nat):Int))=true:=decide_eq_true (by omega)
  refine wpL_one ?_
  refine vm_piece (E0:=[(0,(.slice base ls.length c,0))]) kr [] paN [paC] kr hS [(.p _ true h1)] [] (VEx.r) [(2,(.slice none 0 0,0)),(3,(.int .i64 (0),0)),(4,(.int .i64 (3),0))] [] (hQ:=?_)
  intro a1 w1 hS1 hK1 hM1
  exact vm_out (fn:=Tryz.f21) hS1 (.tuple #[.slice none 0 0,.int .i64 0,.int .i64 3]) (fun g=>by kernel_rfl) ⟨.slice none 0 0,rfl,.inl ⟨rfl,rfl,rfl⟩,hM1.bl0⟩
 rw [if_neg h100]
 have h1:decide ((100:Int)<((ls.length:Nat):Int))=false:=decide_eq_false (by omega)
 refine wp_cut 0 kr ?_
 refine vm_piece (E0:=[(0,(.slice base ls.length c,0))]) kr [] paN (cPre 0 paC) kr hS [(.p _ false h1)] [] (VEx.n) [(0,(.slice base ls.length c,0)),(2,(.slice none 0 0,0)),(12,(.slice base ls.length c,0)),(13,(.int .i64 (((ls.length:Nat):Int)),0)),(14,(.int .i64 (((0:Nat):Int)),0))] [] (hQ:=?_)
 intro a1 w1 hS1 hK1 hM1
 refine wp_for 0 kr kr (fun n a' w'=>∃ j acc sv,ls.length - j=n∧j≤ls.length∧acc.length=j∧parT none [] 0 ls=parT (prevN acc j) acc j (ls.drop j)∧SlG 23 zMc w w' sv acc.length (encM acc)∧St paN [(0,(.slice base ls.length c,0)),(2,(sv,0)),(12,(.slice base ls.length c,0)),(13,(.int .i64 ((ls.length:Nat):Int),0)),(14,(.int .i64 (j:Int),0))] a'∧Below w.heap.size w w') (ls.length - 0) ⟨0,[],.slice none 0 0,rfl,by omega,rfl,rfl,.inl ⟨rfl,rfl,rfl⟩,hS1,hM1.bl0⟩ ?_
 clear hS1 hM1 hS hK1
 rintro n a2 w2 ⟨j,acc,sv,rfl,hj,hacc,hpar,hsl,hS2,hB2⟩
 refine wpL_one ?_
 rcases Nat.lt_or_ge j ls.length with hjl | hjl
 ·have h2:decide ((j:Int)<((ls.length:Nat):Int))=true:=decide_eq_true (by omega)
  obtain ⟨bl,o,rfl,hbl,hA⟩:=hR.atS j hjl
  have hc:=below_cell hB2 (hA j hjl) hbl
  have hbl2:bl<w2.heap.size:=by have:=hB2.size;omega
  have hs:=hm _ (List.getElem_mem hjl)
  rw [List.drop_eq_getElem_cons hjl] at hpar
  generalize ls[j]=s at *
  obtain ⟨m,x,hlm⟩:∃ m x,lineM s=(m,x):=⟨_,_,rfl⟩
  have hP:∀ w',Below w2.heap.size w2 w'∨Below w.heap.size w w'→Below w.heap.size w w'→Calls Tryz.prog 64 #[.string ⟨s.toArray⟩] w' (RetV (.tuple #[vMt m,.bool x]) w'):=fun w' _ h=>by
   have:=gmparse_any s w' (hG.below h) hs
   rw [hlm] at this;exact this
  have v1:IntKind.i64.wrap ((j:Int)+1)=((j+1:Nat):Int):=by rw [wr64 (by omega) (by omega)];omega
  rw [parT,hlm] at hpar
  rcases hsl with ⟨h0,hx0,rfl⟩ | ⟨b,sp,h0,rfl,hbw,hBk⟩
  ·obtain rfl:j=0:=by omega
   obtain rfl:acc = []:=List.eq_nil_of_length_eq_zero h0
   have hP0:∀ w',Chg [] w2 w'→Calls Tryz.prog 64 #[.string ⟨s.toArray⟩] w' (RetV (.tuple #[vMt m,.bool x]) w'):=fun w' hc=>hP w' (.inl hc.bl0) (hB2.trans (hc.bl0.mono hB2.size))
   simp only [prevN,geqP,List.nil_append] at hpar
   cases q0:(x) with
   | true =>
    refine vm_fragA (X:=⟨w2,[]⟩) kr [(5,1),(5,2),(11,3),(12,0)] paN [cI (cI pa0)] (ne_nil kr) (fun r=>[(0,(.slice (some ⟨bl,o,none⟩) ls.length c,0)),(2,(.slice none 0 0,0)),(12,(.slice (some ⟨bl,o,none⟩) ls.length c,0)),(13,(.int .i64 (((ls.length:Nat):Int)),0)),(14,(.int .i64 (((0:Nat):Int)),0))]) (fun r=>[]) 0 (fun _=>(0,0)) (hS2) (memOk0 w2 _) (fun r hr=>⟨rfl,rfl⟩) (keysLt_all kr) [(.p _ true h2),dF (nT q0),.f,.f,.f,.f,.f,.f,.f,.f,.f,.f,.f] [lV (Instr.indexAt 49 (.slice (some ⟨bl,o,none⟩) (ls.length) (c)) (.int .i64 (((0:Nat):Int)))) (.pointer (some ⟨bl,o+0,none⟩)) (fun w hC=>ixS 0 w (by omega) (by omega) (by omega)),lV (Instr.loadAt 9 (.pointer (some ⟨bl,o+0,none⟩))) (.string ⟨(s).toArray⟩) (fun w hC=>ldS (hC.cell0 hc)),cW hP0,lAN slT_M 33 none 0 0 [] (cellsM m) (fun w _=>.inl rfl) rfl (fun _=>rfl) rfl rfl (Nat.le_refl 0) (by omega),lE .i64 (((((0:Nat):Int)):Int)+((1):Int)) (((0+1:Nat):Int)) (v1)] (VEx.n) (fun r=>[(0,(.slice (some ⟨bl,o,none⟩) ls.length c,0)),(2,(.slice (some ⟨(r 34).1,0,none⟩) (0+1) (0+1+(r 34).2),35)),(12,(.slice (some ⟨bl,o,none⟩) ls.length c,0)),(13,(.int .i64 (((ls.length:Nat):Int)),0)),(14,(.int .i64 (((0+1:Nat):Int)),0))]) [] (fun r=>[(34,(23,([]++cellsM m++zc zMc (r 34).2).toArray))]) (fun r g=>by kernel_rfl) (fun r g=>by kernel_rfl) ?_
    intro r a3 w3 hr hS3 hK3 hM3
    have hh:=hM3.has 34 _ rfl
    have hb3:=hM3.below.bl0
    refine ⟨ls.length - (0+1),by omega,0+1,[m],_,rfl,by omega,rfl,?_,.inr ⟨(r 34).1,(r 34).2,by simp,rfl,Nat.le_trans hB2.size (own_nil hh.2),hh.1⟩,hS3.re rfl,hB2.trans (hb3.mono hB2.size)⟩
    rw [hpar];simp [q0,prevN]
   | false =>
    refine vm_fragA (X:=⟨w2,[]⟩) kr [(5,1),(5,2)] paN [cI (cI pa0)] (ne_nil kr) (fun r=>[(0,(.slice (some ⟨bl,o,none⟩) ls.length c,0)),(2,(.slice none 0 0,0)),(12,(.slice (some ⟨bl,o,none⟩) ls.length c,0)),(13,(.int .i64 (((ls.length:Nat):Int)),0)),(14,(.int .i64 (((0:Nat):Int)),0))]) (fun r=>[]) 0 (fun _=>(0,0)) (hS2) (memOk0 w2 _) (fun r hr=>⟨rfl,rfl⟩) (keysLt_all kr) [(.p _ true h2),dT (nF q0)] [lV (Instr.indexAt 49 (.slice (some ⟨bl,o,none⟩) (ls.length) (c)) (.int .i64 (((0:Nat):Int)))) (.pointer (some ⟨bl,o+0,none⟩)) (fun w hC=>ixS 0 w (by omega) (by omega) (by omega)),lV (Instr.loadAt 9 (.pointer (some ⟨bl,o+0,none⟩))) (.string ⟨(s).toArray⟩) (fun w hC=>ldS (hC.cell0 hc)),cW hP0] (VEx.r) (fun r=>[(2,(.slice none 0 0,0)),(3,(.int .i64 (((0:Nat):Int)),0)),(4,(.int .i64 (4),0))]) [] (fun r=>[]) (fun r g=>by kernel_rfl) (fun r g=>by kernel_rfl) ?_
    intro r a3 w3 hr hS3 hK3 hM3
    exact ret_r (vm_out (fn:=Tryz.f21) hS3 (.tuple #[.slice none 0 0,.int .i64 ((0:Nat):Int),.int .i64 4]) (fun g=>by kernel_rfl) (by rw [hpar];simp only [q0];exact ⟨.slice none 0 0,rfl,.inl ⟨rfl,rfl,rfl⟩,hB2.trans (hM3.below.bl0.mono hB2.size)⟩))
  ·obtain ⟨k,rfl⟩:∃ k,j=k+1:=⟨j - 1,by omega⟩
   have hk:k<acc.length:=by omega
   have hprev:prevN acc (k+1)=some acc[k].nm:=prevN_succ k hk
   rw [hprev] at hpar
   have hsz2:=hB2.size
   have hlt:=hBk.lt
   have hP1:∀ w',Chg [b] w2 w'→Calls Tryz.prog 64 #[.string ⟨s.toArray⟩] w' (RetV (.tuple #[vMt m,.bool x]) w'):=fun w' hc=>by
    have h3:Below w.heap.size w w':=hB2.trans (hc.below hB2.size (fun y hy=>by rw [List.mem_singleton] at hy;omega))
    exact hP w' (.inr h3) h3
   have hcl:∀ w',Chg [b] w2 w'→w'.cell? ⟨bl,o+(k+1),none⟩=some (.string ⟨s.toArray⟩):=fun w' hC=>hC.cell (by simp;omega) hc
   have hw3:∀ w',Chg [b] w2 w'→Below w.heap.size w w':=fun w' hC=>hB2.trans (hC.below hB2.size (fun y hy=>by rw [List.mem_singleton] at hy;omega))
   have v2:IntKind.i64.wrap (((k+1:Nat):Int) - 1)=(k:Int):=by rw [wr64 (by omega) (by omega)];omega
   have g0:decide ((0:Int)<((k+1:Nat):Int))=true:=decide_eq_true (by omega)
   have hMk:∀ (sp:List Value) (b:Nat) (w:World),Hc w b 23 (encM acc++sp).toArray→MAt w b (k * 4) acc[k]:=fun sp b w h=>h.atM k hk
   have hel:=encM_len acc
   have hap:encM (acc ++ [m])=encM acc++cellsM m:=by rw [encM_app];simp [encM]
   have hpv:prevN (acc ++ [m]) (k+1+1)=some m.nm:=by
    rw [prevN_succ (k+1) (by simp;omega)]
    simp [List.getElem_append_right,hacc]
   have hlen:(acc ++ [m]).length=k+1+1:=by simp [hacc]
   generalize hp:acc[k]=p at *
   simp only [geqP] at hpar
   rw [hacc] at hS2
   cases sp with
   | zero =>
    cases q0:(x) with
    | true =>
     cases q1:(sLt (p.nm) (m.nm)) with
     | true =>
      refine vm_fragA (X:=⟨w2,[b]⟩) kr [(5,1),(5,2),(9,5),(9,6),(9,8),(11,3),(12,0)] paN [cI (cI pa0)] (ne_nil kr) (fun r=>[(0,(.slice (some ⟨bl,o,none⟩) ls.length c,0)),(2,(.slice (some ⟨(r 0).1,0,none⟩) (k+1) (k+1+0),1)),(12,(.slice (some ⟨bl,o,none⟩) ls.length c,0)),(13,(.int .i64 (((ls.length:Nat):Int)),0)),(14,(.int .i64 (((k+1:Nat):Int)),0))]) (fun r=>[(0,(23,(encM acc++zc zMc 0).toArray))]) 1 (fun _=>(b,0)) (hS2.re rfl) (memOk1 hBk) (fun r hr=>⟨by simp only [hr 0 (by omega)],rfl⟩) (keysLt_all kr) [(.p _ true h2),dF (nT q0),(.p _ true g0),(.p _ true g0),(.p _ true g0),(.p _ true g0),(.p _ true g0),(.p _ true g0),(.p _ true g0),(.p _ true g0),(.p _ true g0),(.p _ true g0),dF (nT q1)] [lV (Instr.indexAt 49 (.slice (some ⟨bl,o,none⟩) (ls.length) (c)) (.int .i64 (((k+1:Nat):Int)))) (.pointer (some ⟨bl,o+(k+1),none⟩)) (fun w hC=>ixS (k+1) w (by omega) (by omega) (by omega)),lV (Instr.loadAt 9 (.pointer (some ⟨bl,o+(k+1),none⟩))) (.string ⟨(s).toArray⟩) (fun w hC=>ldS (hcl w hC)),cW hP1,lE .i64 (((((k+1:Nat):Int)):Int) - ((1):Int)) ((k:Int)) (v2),lB 0 23 (encM acc++zc zMc 0).toArray (fun b=>Instr.indexAt 48 (.slice (some ⟨b,0,none⟩) (k+1) (k+1+0)) (.int .i64 ((k:Int)))) (fun b=>.pointer (some ⟨b,k * 4,none⟩)) 1 (fun b w hC hB=>ixM0 k w (by omega) (by omega) (by omega)),lB 0 23 (encM acc++zc zMc 0).toArray (fun b=>Instr.loadAt 9 (.pointer (some ⟨b,k * 4+0,none⟩))) (fun b=>.string ⟨(p.nm).toArray⟩) 0 (fun b w hC hB=>ldN (hMk _ b w hB)),lAF slT_M 0 34 (k+1) (k+1+0) (encM acc) (zc zMc 0) (cellsM m) (by omega) rfl rfl (by omega) (by omega),lE .i64 (((((k+1:Nat):Int)):Int)+((1):Int)) (((k+1+1:Nat):Int)) (v1)] (VEx.n) (fun r=>[(0,(.slice (some ⟨bl,o,none⟩) ls.length c,0)),(2,(.slice (some ⟨(r 35).1,0,none⟩) (k+1+1) (k+1+1+(r 35).2),36)),(12,(.slice (some ⟨bl,o,none⟩) ls.length c,0)),(13,(.int .i64 (((ls.length:Nat):Int)),0)),(14,(.int .i64 (((k+1+1:Nat):Int)),0))]) [] (fun r=>[(35,(23,(encM acc++cellsM m++zc zMc (r 35).2).toArray))]) (fun r g=>by kernel_rfl) (fun r g=>by kernel_rfl) ?_
      intro r a3 w3 hr hS3 hK3 hM3
      have hh:=hM3.has 35 _ rfl
      refine ⟨ls.length - (k+1+1),by omega,k+1+1,acc ++ [m],_,rfl,by omega,hlen,?_,.inr ⟨(r 35).1,(r 35).2,by omega,by rw [hlen],hh.2.elim (fun h=>Nat.le_trans hB2.size h) (fun h=>by rw [List.mem_singleton] at h;rw [show (r 35).1=b from h];exact hbw),by rw [hap];exact hh.1⟩,hS3.re rfl,hw3 w3 hM3.below⟩
      rw [hpar,hpv];simp [q0,q1]
     | false =>
      refine vm_fragA (X:=⟨w2,[b]⟩) kr [(5,1),(5,2),(9,5),(9,6),(9,8)] paN [cI (cI pa0)] (ne_nil kr) (fun r=>[(0,(.slice (some ⟨bl,o,none⟩) ls.length c,0)),(2,(.slice (some ⟨(r 0).1,0,none⟩) (k+1) (k+1+0),1)),(12,(.slice (some ⟨bl,o,none⟩) ls.length c,0)),(13,(.int .i64 (((ls.length:Nat):Int)),0)),(14,(.int .i64 (((k+1:Nat):Int)),0))]) (fun r=>[(0,(23,(encM acc++zc zMc 0).toArray))]) 1 (fun _=>(b,0)) (hS2.re rfl) (memOk1 hBk) (fun r hr=>⟨by simp only [hr 0 (by omega)],rfl⟩) (keysLt_all kr) [(.p _ true h2),dF (nT q0),(.p _ true g0),(.p _ true g0),(.p _ true g0),(.p _ true g0),(.p _ true g0),(.p _ true g0),(.p _ true g0),(.p _ true g0),(.p _ true g0),(.p _ true g0),dT (nF q1)] [lV (Instr.indexAt 49 (.slice (some ⟨bl,o,none⟩) (ls.length) (c)) (.int .i64 (((k+1:Nat):Int)))) (.pointer (some ⟨bl,o+(k+1),none⟩)) (fun w hC=>ixS (k+1) w (by omega) (by omega) (by omega)),lV (Instr.loadAt 9 (.pointer (some ⟨bl,o+(k+1),none⟩))) (.string ⟨(s).toArray⟩) (fun w hC=>ldS (hcl w hC)),cW hP1,lE .i64 (((((k+1:Nat):Int)):Int) - ((1):Int)) ((k:Int)) (v2),lB 0 23 (encM acc++zc zMc 0).toArray (fun b=>Instr.indexAt 48 (.slice (some ⟨b,0,none⟩) (k+1) (k+1+0)) (.int .i64 ((k:Int)))) (fun b=>.pointer (some ⟨b,k * 4,none⟩)) 1 (fun b w hC hB=>ixM0 k w (by omega) (by omega) (by omega)),lB 0 23 (encM acc++zc zMc 0).toArray (fun b=>Instr.loadAt 9 (.pointer (some ⟨b,k * 4+0,none⟩))) (fun b=>.string ⟨(p.nm).toArray⟩) 0 (fun b w hC hB=>ldN (hMk _ b w hB))] (VEx.r) (fun r=>[(2,(.slice none 0 0,0)),(3,(.int .i64 (((k+1:Nat):Int)),0)),(4,(.int .i64 (8),0))]) [] (fun r=>[]) (fun r g=>by kernel_rfl) (fun r g=>by kernel_rfl) ?_
      intro r a3 w3 hr hS3 hK3 hM3
      exact ret_r (vm_out (fn:=Tryz.f21) hS3 (.tuple #[.slice none 0 0,.int .i64 ((k+1:Nat):Int),.int .i64 8]) (fun g=>by kernel_rfl) (by rw [hpar];simp [q0,q1];exact ⟨.slice none 0 0,rfl,.inl ⟨rfl,rfl,rfl⟩,hw3 w3 hM3.below⟩))
    | false =>
     refine vm_fragA (X:=⟨w2,[b]⟩) kr [(5,1),(5,2)] paN [cI (cI pa0)] (ne_nil kr) (fun r=>[(0,(.slice (some ⟨bl,o,none⟩) ls.length c,0)),(2,(.slice (some ⟨(r 0).1,0,none⟩) (k+1) (k+1+0),1)),(12,(.slice (some ⟨bl,o,none⟩) ls.length c,0)),(13,(.int .i64 (((ls.length:Nat):Int)),0)),(14,(.int .i64 (((k+1:Nat):Int)),0))]) (fun r=>[(0,(23,(encM acc++zc zMc 0).toArray))]) 1 (fun _=>(b,0)) (hS2.re rfl) (memOk1 hBk) (fun r hr=>⟨by simp only [hr 0 (by omega)],rfl⟩) (keysLt_all kr) [(.p _ true h2),dT (nF q0)] [lV (Instr.indexAt 49 (.slice (some ⟨bl,o,none⟩) (ls.length) (c)) (.int .i64 (((k+1:Nat):Int)))) (.pointer (some ⟨bl,o+(k+1),none⟩)) (fun w hC=>ixS (k+1) w (by omega) (by omega) (by omega)),lV (Instr.loadAt 9 (.pointer (some ⟨bl,o+(k+1),none⟩))) (.string ⟨(s).toArray⟩) (fun w hC=>ldS (hcl w hC)),cW hP1] (VEx.r) (fun r=>[(2,(.slice none 0 0,0)),(3,(.int .i64 (((k+1:Nat):Int)),0)),(4,(.int .i64 (4),0))]) [] (fun r=>[]) (fun r g=>by kernel_rfl) (fun r g=>by kernel_rfl) ?_
     intro r a3 w3 hr hS3 hK3 hM3
     exact ret_r (vm_out (fn:=Tryz.f21) hS3 (.tuple #[.slice none 0 0,.int .i64 ((k+1:Nat):Int),.int .i64 4]) (fun g=>by kernel_rfl) (by rw [hpar];simp [q0];exact ⟨.slice none 0 0,rfl,.inl ⟨rfl,rfl,rfl⟩,hw3 w3 hM3.below⟩))
   | succ sp =>
    rw [zc_succ,← List.append_assoc] at hBk
    cases q0:(x) with
    | true =>
     cases q1:(sLt (p.nm) (m.nm)) with
     | true =>
      refine vm_fragA (X:=⟨w2,[b]⟩) kr [(5,1),(5,2),(9,5),(9,6),(9,8),(11,3),(12,0)] paN [cI (cI pa0)] (ne_nil kr) (fun r=>[(0,(.slice (some ⟨bl,o,none⟩) ls.length c,0)),(2,(.slice (some ⟨(r 0).1,0,none⟩) (k+1) (k+1+(sp+1)),1)),(12,(.slice (some ⟨bl,o,none⟩) ls.length c,0)),(13,(.int .i64 (((ls.length:Nat):Int)),0)),(14,(.int .i64 (((k+1:Nat):Int)),0))]) (fun r=>[(0,(23,(encM acc++zMc.toList++zc zMc sp).toArray))]) 1 (fun _=>(b,0)) (hS2.re rfl) (memOk1 hBk) (fun r hr=>⟨by simp only [hr 0 (by omega)],rfl⟩) (keysLt_all kr) [(.p _ true h2),dF (nT q0),(.p _ true g0),(.p _ true g0),(.p _ true g0),(.p _ true g0),(.p _ true g0),(.p _ true g0),(.p _ true g0),(.p _ true g0),(.p _ true g0),(.p _ true g0),dF (nT q1)] [lV (Instr.indexAt 49 (.slice (some ⟨bl,o,none⟩) (ls.length) (c)) (.int .i64 (((k+1:Nat):Int)))) (.pointer (some ⟨bl,o+(k+1),none⟩)) (fun w hC=>ixS (k+1) w (by omega) (by omega) (by omega)),lV (Instr.loadAt 9 (.pointer (some ⟨bl,o+(k+1),none⟩))) (.string ⟨(s).toArray⟩) (fun w hC=>ldS (hcl w hC)),cW hP1,lE .i64 (((((k+1:Nat):Int)):Int) - ((1):Int)) ((k:Int)) (v2),lB 0 23 (encM acc++zMc.toList++zc zMc sp).toArray (fun b=>Instr.indexAt 48 (.slice (some ⟨b,0,none⟩) (k+1) (k+1+(sp+1))) (.int .i64 ((k:Int)))) (fun b=>.pointer (some ⟨b,k * 4,none⟩)) 1 (fun b w hC hB=>ixM0 k w (by omega) (by omega) (by omega)),lB 0 23 (encM acc++zMc.toList++zc zMc sp).toArray (fun b=>Instr.loadAt 9 (.pointer (some ⟨b,k * 4+0,none⟩))) (fun b=>.string ⟨(p.nm).toArray⟩) 0 (fun b w hC hB=>ldN (hMk _ b w (by rw [← List.append_assoc];exact hB))),lAR slT_M 0 34 (k+1) (k+1+(sp+1)) (encM acc) zMc.toList (zc zMc sp) (cellsM m) (by omega) rfl rfl rfl (by omega),lE .i64 (((((k+1:Nat):Int)):Int)+((1):Int)) (((k+1+1:Nat):Int)) (v1)] (VEx.n) (fun r=>[(0,(.slice (some ⟨bl,o,none⟩) ls.length c,0)),(2,(.slice (some ⟨(r 0).1,0,none⟩) (k+1+1) (k+1+(sp+1)),1)),(12,(.slice (some ⟨bl,o,none⟩) ls.length c,0)),(13,(.int .i64 (((ls.length:Nat):Int)),0)),(14,(.int .i64 (((k+1+1:Nat):Int)),0))]) [] (fun r=>[(0,(23,(encM acc++cellsM m++zc zMc sp).toArray))]) (fun r g=>by kernel_rfl) (fun r g=>by kernel_rfl) ?_
      intro r a3 w3 hr hS3 hK3 hM3
      have hh:=hM3.has 0 _ rfl
      have hr0:(r 0).1=b:=congrArg Prod.fst (hr 0 (by omega))
      refine ⟨ls.length - (k+1+1),by omega,k+1+1,acc ++ [m],_,rfl,by omega,hlen,?_,.inr ⟨(r 0).1,sp,by omega,by rw [hlen,show k+1+1+sp=k+1+(sp+1) by omega],by rw [hr0];exact hbw,by rw [hap];exact hh.1⟩,hS3.re rfl,hw3 w3 hM3.below⟩
      rw [hpar,hpv];simp [q0,q1]
     | false =>
      refine vm_fragA (X:=⟨w2,[b]⟩) kr [(5,1),(5,2),(9,5),(9,6),(9,8)] paN [cI (cI pa0)] (ne_nil kr) (fun r=>[(0,(.slice (some ⟨bl,o,none⟩) ls.length c,0)),(2,(.slice (some ⟨(r 0).1,0,none⟩) (k+1) (k+1+(sp+1)),1)),(12,(.slice (some ⟨bl,o,none⟩) ls.length c,0)),(13,(.int .i64 (((ls.length:Nat):Int)),0)),(14,(.int .i64 (((k+1:Nat):Int)),0))]) (fun r=>[(0,(23,(encM acc++zMc.toList++zc zMc sp).toArray))]) 1 (fun _=>(b,0)) (hS2.re rfl) (memOk1 hBk) (fun r hr=>⟨by simp only [hr 0 (by omega)],rfl⟩) (keysLt_all kr) [(.p _ true h2),dF (nT q0),(.p _ true g0),(.p _ true g0),(.p _ true g0),(.p _ true g0),(.p _ true g0),(.p _ true g0),(.p _ true g0),(.p _ true g0),(.p _ true g0),(.p _ true g0),dT (nF q1)] [lV (Instr.indexAt 49 (.slice (some ⟨bl,o,none⟩) (ls.length) (c)) (.int .i64 (((k+1:Nat):Int)))) (.pointer (some ⟨bl,o+(k+1),none⟩)) (fun w hC=>ixS (k+1) w (by omega) (by omega) (by omega)),lV (Instr.loadAt 9 (.pointer (some ⟨bl,o+(k+1),none⟩))) (.string ⟨(s).toArray⟩) (fun w hC=>ldS (hcl w hC)),cW hP1,lE .i64 (((((k+1:Nat):Int)):Int) - ((1):Int)) ((k:Int)) (v2),lB 0 23 (encM acc++zMc.toList++zc zMc sp).toArray (fun b=>Instr.indexAt 48 (.slice (some ⟨b,0,none⟩) (k+1) (k+1+(sp+1))) (.int .i64 ((k:Int)))) (fun b=>.pointer (some ⟨b,k * 4,none⟩)) 1 (fun b w hC hB=>ixM0 k w (by omega) (by omega) (by omega)),lB 0 23 (encM acc++zMc.toList++zc zMc sp).toArray (fun b=>Instr.loadAt 9 (.pointer (some ⟨b,k * 4+0,none⟩))) (fun b=>.string ⟨(p.nm).toArray⟩) 0 (fun b w hC hB=>ldN (hMk _ b w (by rw [← List.append_assoc];exact hB)))] (VEx.r) (fun r=>[(2,(.slice none 0 0,0)),(3,(.int .i64 (((k+1:Nat):Int)),0)),(4,(.int .i64 (8),0))]) [] (fun r=>[]) (fun r g=>by kernel_rfl) (fun r g=>by kernel_rfl) ?_
      intro r a3 w3 hr hS3 hK3 hM3
      exact ret_r (vm_out (fn:=Tryz.f21) hS3 (.tuple #[.slice none 0 0,.int .i64 ((k+1:Nat):Int),.int .i64 8]) (fun g=>by kernel_rfl) (by rw [hpar];simp [q0,q1];exact ⟨.slice none 0 0,rfl,.inl ⟨rfl,rfl,rfl⟩,hw3 w3 hM3.below⟩))
    | false =>
     refine vm_fragA (X:=⟨w2,[b]⟩) kr [(5,1),(5,2)] paN [cI (cI pa0)] (ne_nil kr) (fun r=>[(0,(.slice (some ⟨bl,o,none⟩) ls.length c,0)),(2,(.slice (some ⟨(r 0).1,0,none⟩) (k+1) (k+1+(sp+1)),1)),(12,(.slice (some ⟨bl,o,none⟩) ls.length c,0)),(13,(.int .i64 (((ls.length:Nat):Int)),0)),(14,(.int .i64 (((k+1:Nat):Int)),0))]) (fun r=>[(0,(23,(encM acc++zMc.toList++zc zMc sp).toArray))]) 1 (fun _=>(b,0)) (hS2.re rfl) (memOk1 hBk) (fun r hr=>⟨by simp only [hr 0 (by omega)],rfl⟩) (keysLt_all kr) [(.p _ true h2),dT (nF q0)] [lV (Instr.indexAt 49 (.slice (some ⟨bl,o,none⟩) (ls.length) (c)) (.int .i64 (((k+1:Nat):Int)))) (.pointer (some ⟨bl,o+(k+1),none⟩)) (fun w hC=>ixS (k+1) w (by omega) (by omega) (by omega)),lV (Instr.loadAt 9 (.pointer (some ⟨bl,o+(k+1),none⟩))) (.string ⟨(s).toArray⟩) (fun w hC=>ldS (hcl w hC)),cW hP1] (VEx.r) (fun r=>[(2,(.slice none 0 0,0)),(3,(.int .i64 (((k+1:Nat):Int)),0)),(4,(.int .i64 (4),0))]) [] (fun r=>[]) (fun r g=>by kernel_rfl) (fun r g=>by kernel_rfl) ?_
     intro r a3 w3 hr hS3 hK3 hM3
     exact ret_r (vm_out (fn:=Tryz.f21) hS3 (.tuple #[.slice none 0 0,.int .i64 ((k+1:Nat):Int),.int .i64 4]) (fun g=>by kernel_rfl) (by rw [hpar];simp [q0];exact ⟨.slice none 0 0,rfl,.inl ⟨rfl,rfl,rfl⟩,hw3 w3 hM3.below⟩))
 ·have h2:decide ((j:Int)<((ls.length:Nat):Int))=false:=decide_eq_false (by omega)
  obtain rfl:j=ls.length:=by omega
  rw [List.drop_length,parT] at hpar
  refine vm_piece (E0:=[(0,(.slice base ls.length c,0)),(2,(sv,0)),(12,(.slice base ls.length c,0)),(13,(.int .i64 (((ls.length:Nat):Int)),0)),(14,(.int .i64 (((ls.length:Nat):Int)),0))]) kr [] paN [cI (cI pa0)] kr hS2 [(.p _ false h2)] [] (VEx.x 0) [(0,(.slice base ls.length c,0)),(2,(sv,0)),(12,(.slice base ls.length c,0)),(13,(.int .i64 (((ls.length:Nat):Int)),0)),(14,(.int .i64 (((ls.length:Nat):Int)),0))] [] (hQ:=?_)
  intro a3 w3 hS3 hK3 hM3
  refine exit_n (then_n ?_)
  refine vm_piece (E0:=[(0,(.slice base ls.length c,0)),(2,(sv,0)),(12,(.slice base ls.length c,0)),(13,(.int .i64 (((ls.length:Nat):Int)),0)),(14,(.int .i64 (((ls.length:Nat):Int)),0))]) kr [] paN (cPost 0 paC) kr hS3 [] [] (VEx.r) [(2,(sv,0)),(3,(.int .i64 (0),0)),(4,(.int .i64 (0),0))] [] (hQ:=?_)
  intro a4 w4 hS4 hK4 hM4
  have hb4:Below w2.heap.size w2 w4:=(hM3.trans hM4).bl0
  refine vm_out (fn:=Tryz.f21) hS4 (.tuple #[sv,.int .i64 0,.int .i64 0]) (fun g=>by kernel_rfl) ?_
  rw [hpar]
  refine ⟨sv,rfl,?_,hB2.trans (hb4.mono hB2.size)⟩
  rcases hsl with h | ⟨b,m,g1,g2,g3,g4⟩
  ·exact .inl h
  ·exact .inr ⟨b,m,g1,g2,g3,g4.chg (Chg.of_below hb4 []) (by simp)⟩

theorem Mt.ext' {x y:Mt} (h0:x.nm=y.nm) (h1:x.d=y.d) (h2:x.i=y.i) (h3:x.h=y.h):x=y:=by
 cases x;cases y;simp only at *;subst h0 h1 h2 h3;rfl
theorem neM_same (x:Mt) (p q:Operand) (w:World):(eqT .neq 23 p q (vMt x) (vMt x)).run Tryz.prog w = .ok (.bool false) w:=by
 unfold eqT vMt
 go_simp
theorem neM_diff (x y:Mt) (h:x≠y) (p q:Operand) (w:World):(eqT .neq 23 p q (vMt x) (vMt y)).run Tryz.prog w = .ok (.bool true) w:=by
 have e0:((ByteArray.mk x.nm.toArray).toList == (ByteArray.mk y.nm.toArray).toList)=(x.nm == y.nm):=str_beq _ _
 have e1:(ByteArray.mk x.nm.toArray).toList=x.nm:=by rw [ByteArray.toList_eq]
 have e2:(ByteArray.mk y.nm.toArray).toList=y.nm:=by rw [ByteArray.toList_eq]
 unfold eqT vMt
 by_cases h0:x.nm=y.nm
 ·by_cases h1:x.d=y.d
  ·by_cases h2:x.i=y.i
   ·by_cases h3:x.h=y.h
    ·exact absurd (Mt.ext' h0 h1 h2 h3) h
    ·go_simp
   ·go_simp
  ·go_simp
 ·have h0':¬ (ByteArray.mk x.nm.toArray).toList=(ByteArray.mk y.nm.toArray).toList:=by rw [e1,e2];exact h0
  go_simp
noncomputable def smN:Nat:=Tryz.f24.ntmps
noncomputable def smC:Code:=Tryz.f24.body.getD .skip
noncomputable def sm0:Code:=cB 0 smC
theorem gnSame_any (x y:List Mt) (base1 base2:Option Addr) (c1 c2:Nat) (w:World) (hx:RdS w base1 (encM x)) (hy:RdS w base2 (encM y)) (hn:x.length≤1000000):Calls Tryz.prog 24 #[.slice base1 x.length c1,.slice base2 y.length c2] w (RetV (.bool (decide (x=y))) w):=by
 refine vm_start [.slice base1 x.length c1,.slice base2 y.length c2] (fn:=Tryz.f24) (c:=smC) kr kr nle ?_
 intro a hS
 have hS:St smN [(0,(.slice base1 x.length c1,0)),(1,(.slice base2 y.length c2,0))] a:=hS
 by_cases hl:x.length=y.length
 ·have h1:(((x.length:Nat):Int) != ((y.length:Nat):Int))=false:=by rw [hl];simp
  refine wp_cut 0 kr ?_
  refine vm_piece (E0:=[(0,(.slice base1 x.length c1,0)),(1,(.slice base2 y.length c2,0))]) kr [] smN (cPre 0 smC) kr hS [(.p _ false h1)] [] (VEx.n) [(0,(.slice base1 x.length c1,0)),(1,(.slice base2 y.length c2,0)),(5,(.int .i64 (((0:Nat):Int)),0))] [] (hQ:=?_)
  intro a1 w1 hS1 hK1 hM1
  refine wp_for 0 kr kr (fun n a' w'=>∃ j,x.length - j=n∧j≤x.length∧x.take j=y.take j∧St smN [(0,(.slice base1 x.length c1,0)),(1,(.slice base2 y.length c2,0)),(5,(.int .i64 (j:Int),0))] a'∧Chg [] w w') (x.length - 0) ⟨0,rfl,by omega,rfl,hS1,hM1⟩ ?_
  clear hS1 hM1 hS hK1
  rintro n a2 w2 ⟨j,rfl,hj,ht,hS2,hM2⟩
  refine wpL_one ?_
  rcases Nat.lt_or_ge j x.length with hjl | hjl
  ·have h2:decide ((j:Int)<((x.length:Nat):Int))=true:=decide_eq_true (by omega)
   have hjy:j<y.length:=by omega
   obtain ⟨b1,o1,rfl,hA⟩:=hx.at j hjl
   obtain ⟨b2,o2,rfl,hB⟩:=hy.at j hjy
   have hAj:=hA j hjl
   have hBj:=hB j hjy
   have v1:IntKind.i64.wrap ((j:Int)+1)=((j+1:Nat):Int):=by rw [wr64 (by omega) (by omega)];omega
   by_cases he:x[j]=y[j]
   ·have ht':x.take (j+1)=y.take (j+1):=by
     rw [List.take_succ_eq_append_getElem hjl,List.take_succ_eq_append_getElem hjy,ht,he]
    rw [← he] at hBj
    generalize x[j]=m at *
    refine vm_piece (E0:=[(0,(.slice (some ⟨b1,o1,none⟩) x.length c1,0)),(1,(.slice (some ⟨b2,o2,none⟩) y.length c2,0)),(5,(.int .i64 ((j:Int)),0))]) kr [(6,2),(6,3),(6,6),(6,7),(6,8),(5,1)] smN [cI (cI sm0)] kr hS2 [(.p _ true h2),.f] [lV (Instr.indexAt 48 (.slice (some ⟨b1,o1,none⟩) (x.length) (c1)) (.int .i64 ((j:Int)))) (.pointer (some ⟨b1,o1+j * 4,none⟩)) (fun w hC=>ixM j w (by omega) (by omega) (by omega)),lV (Instr.loadAt 23 (.pointer (some ⟨b1,o1+j * 4,none⟩))) (vMt m) (fun w hC=>ldM (hAj.chg (hM2.trans hC))),lV (Instr.indexAt 48 (.slice (some ⟨b2,o2,none⟩) (y.length) (c2)) (.int .i64 ((j:Int)))) (.pointer (some ⟨b2,o2+j * 4,none⟩)) (fun w hC=>ixM j w (by omega) (by omega) (by omega)),lV (Instr.loadAt 23 (.pointer (some ⟨b2,o2+j * 4,none⟩))) (vMt m) (fun w hC=>ldM (hBj.chg (hM2.trans hC))),lV _ (.bool false) (fun w hC=>neM_same (m) (.tmp 20) (.tmp 24) w),lE .i64 ((((j:Int)):Int)+((1):Int)) (((j+1:Nat):Int)) (v1)] (VEx.n) [(0,(.slice (some ⟨b1,o1,none⟩) x.length c1,0)),(1,(.slice (some ⟨b2,o2,none⟩) y.length c2,0)),(5,(.int .i64 (((j+1:Nat):Int)),0))] [] (hQ:=?_)
    intro a3 w3 hS3 hK3 hM3
    exact ⟨x.length - (j+1),by omega,j+1,rfl,by omega,ht',hS3,hM2.trans hM3⟩
   ·have hne:x≠y:=fun e=>he (by subst e;rfl)
    generalize x[j]=m at *
    generalize y[j]=p at *
    refine vm_piece (E0:=[(0,(.slice (some ⟨b1,o1,none⟩) x.length c1,0)),(1,(.slice (some ⟨b2,o2,none⟩) y.length c2,0)),(5,(.int .i64 ((j:Int)),0))]) kr [(6,2),(6,3),(6,6),(6,7),(6,8)] smN [cI (cI sm0)] kr hS2 [(.p _ true h2),.t] [lV (Instr.indexAt 48 (.slice (some ⟨b1,o1,none⟩) (x.length) (c1)) (.int .i64 ((j:Int)))) (.pointer (some ⟨b1,o1+j * 4,none⟩)) (fun w hC=>ixM j w (by omega) (by omega) (by omega)),lV (Instr.loadAt 23 (.pointer (some ⟨b1,o1+j * 4,none⟩))) (vMt m) (fun w hC=>ldM (hAj.chg (hM2.trans hC))),lV (Instr.indexAt 48 (.slice (some ⟨b2,o2,none⟩) (y.length) (c2)) (.int .i64 ((j:Int)))) (.pointer (some ⟨b2,o2+j * 4,none⟩)) (fun w hC=>ixM j w (by omega) (by omega) (by omega)),lV (Instr.loadAt 23 (.pointer (some ⟨b2,o2+j * 4,none⟩))) (vMt p) (fun w hC=>ldM (hBj.chg (hM2.trans hC))),lV _ (.bool true) (fun w hC=>neM_diff (m) (p) (he) (.tmp 20) (.tmp 24) w)] (VEx.r) [(4,(.bool false,0))] [] (hQ:=?_)
    intro a3 w3 hS3 hK3 hM3
    exact ret_r (vm_out (fn:=Tryz.f24) hS3 (.bool false) (fun g=>by kernel_rfl) ⟨by rw [decide_eq_false hne],(hM2.trans hM3).bl0⟩)
  ·have h2:decide ((j:Int)<((x.length:Nat):Int))=false:=decide_eq_false (by omega)
   obtain rfl:j=x.length:=by omega
   have hxy:x=y:=by rw [List.take_length,hl,List.take_length] at ht;exact ht
   refine vm_piece (E0:=[(0,(.slice base1 x.length c1,0)),(1,(.slice base2 y.length c2,0)),(5,(.int .i64 (((x.length:Nat):Int)),0))]) kr [] smN [cI (cI sm0)] kr hS2 [(.p _ false h2)] [] (VEx.x 0) [(0,(.slice base1 x.length c1,0)),(1,(.slice base2 y.length c2,0)),(5,(.int .i64 (((x.length:Nat):Int)),0))] [] (hQ:=?_)
   intro a3 w3 hS3 hK3 hM3
   refine exit_n (then_n ?_)
   refine vm_piece (E0:=[(0,(.slice base1 x.length c1,0)),(1,(.slice base2 y.length c2,0)),(5,(.int .i64 (((x.length:Nat):Int)),0))]) kr [] smN (cPost 0 smC) kr hS3 [] [] (VEx.r) [(4,(.bool true,0))] [] (hQ:=?_)
   intro a4 w4 hS4 hK4 hM4
   exact vm_out (fn:=Tryz.f24) hS4 (.bool true) (fun g=>by kernel_rfl) ⟨by rw [decide_eq_true hxy],((hM2.trans hM3).trans hM4).bl0⟩
 ·have h1:(((x.length:Nat):Int) != ((y.length:Nat):Int))=true:=by rw [bne_iff_ne];omega
  have hne:x≠y:=fun e=>hl (by rw [e])
  refine wpL_one ?_
  refine vm_piece (E0:=[(0,(.slice base1 x.length c1,0)),(1,(.slice base2 y.length c2,0))]) kr [] smN [smC] kr hS [(.p _ true h1)] [] (VEx.r) [(4,(.bool false,0))] [] (hQ:=?_)
  intro a1 w1 hS1 hK1 hM1
  exact vm_out (fn:=Tryz.f24) hS1 (.bool false) (fun g=>by kernel_rfl) ⟨by rw [decide_eq_false hne],hM1.bl0⟩
def fewM (l:List Mt):Bool:=l.all (fun m=>decide (m.nm.length≤40)) && decide (l.length≤110)
noncomputable def fmN:Nat:=Tryz.f18.ntmps
noncomputable def fmC:Code:=Tryz.f18.body.getD .skip
noncomputable def fm0:Code:=cB 0 fmC

def qLine:List UInt8:=[113,117,97,114,116,122,32,50,54,53,48,32,49,53,52,52,32,55,48]
theorem parse_qz:parseT [qLine]=([qz],0,0):=by decide +kernel
theorem den_ex:denV 265 165 = .tuple #[.agg #[.int .i64 2650,.int .i64 2650],.int .i64 0]:=by kernel_rfl
theorem right_qz:rightM qz=true:=by decide +kernel
theorem fl_ex:Fl (mulN (intN 10) (dnN qz)) 26:=⟨by decide +kernel,by decide +kernel⟩
theorem sgn_ten:0≤sgnN (intN 10):=by decide +kernel
noncomputable def gkN:Nat:=Tryz.f10.ntmps
noncomputable def gkC:Code:=Tryz.f10.body.getD .skip
theorem rds_hc {w:World} {b:Nat} {t:TypeId} {xs sp:List Value} (h:Hc w b t (xs++sp).toArray):RdS w (some ⟨b,0,none⟩) xs:=.inr ⟨b,0,rfl,fun j v hv=>by
 rw [Nat.zero_add]
 exact h.cell (by rw [List.getElem?_append_left (List.getElem?_eq_some_iff.1 hv).1];exact hv)⟩
theorem parse_ex (b:Nat) (w:World) (hG:GW w) (hB:Hc w b 9 #[.string ⟨qLine.toArray⟩]):Calls Tryz.prog 21 #[.slice (some ⟨b,0,none⟩) 1 1] w (fun e w'=>∃ n m,w.heap.size≤n∧e = .returned (.tuple #[.slice (some ⟨n,0,none⟩) 1 (1+m),.int .i64 0,.int .i64 0])∧Hc w' n 23 (encM [qz]++zc zMc m).toArray∧Below w.heap.size w w'):=by
 have h:=gmParse_any [qLine] (some ⟨b,0,none⟩) 1 w hG (rds_hc (sp:=[]) (by rw [List.append_nil];exact hB)) (by decide) (by intro l hl;rw [List.mem_singleton] at hl;subst hl;decide)
 rw [parse_qz] at h
 refine Calls.mono h ?_
 rintro e w' ⟨sv,rfl,hs,hb⟩
 rcases hs with ⟨h0,-⟩ | ⟨n,m,-,rfl,hn,hH⟩
 ·cases h0
 ·exact ⟨n,m,hn,rfl,hH,hb⟩
theorem gaawake_any (w:World) (hG:GW w):Calls Tryz.prog 10 #[] w (RetV (.bool true) w):=by
 refine vm_start [] (fn:=Tryz.f10) (c:=gkC) kr kr nle ?_
 intro a hS
 have hS:St gkN [] a:=hS
 refine wp_flat _ (wp_part 2 ?_)
 have PA:=fun b w' (hc:Chg [] w w') hB=>parse_ex b w' (hG.below hc.bl0) hB
 refine vm_fragA (X:=⟨w,[]⟩) kr [] gkN ((flat gkC).take 2) (ne_nil kr) (fun r=>[]) (fun r=>[]) 0 (fun _=>(0,0)) (hS) (memOk0 w _) (fun r hr=>⟨rfl,rfl⟩) (keysLt_all kr) [] [cK 1 9 #[.string ⟨qLine.toArray⟩] (args:=fun b=>#[.slice (some ⟨b,0,none⟩) 1 1]) 23 (fun m=>(encM [qz]++zc zMc m).toArray) (fun n m=>.tuple #[.slice (some ⟨n,0,none⟩) 1 (1+m),.int .i64 0,.int .i64 0]) PA] (VEx.n) (fun r=>[(1,(.slice (some ⟨(r 2).1,0,none⟩) (1) (1+(r 2).2),3)),(3,(.int .i64 (0),0))]) [] (fun r=>[(2,(23,(encM [qz]++zc zMc (r 2).2).toArray))]) (fun r g=>by kernel_rfl) (fun r g=>by kernel_rfl) ?_
 intro r a1 w1 hr hS1 hK1 hM1
 refine then_n ?_
 have hw1:=hM1.below.bl0
 have hh:=(hM1.has 2 _ rfl).1
 have hR:RdS w1 (some ⟨(r 2).1,0,none⟩) (encM [qz]):=rds_hc hh
 clear hM1 hK1 hr PA hS
 generalize hb:(r 2).1=b at *
 generalize hm:(r 2).2=m at *
 have hS1:St gkN [(1,(.slice (some ⟨b,0,none⟩) 1 (1+m),0)),(3,(.int .i64 0,0))] a1:=hS1.re rfl
 have Q:=gaquartz_any
 have O:=fun w=>gOf_any 10 w (by omega) (by omega)
 have M:=fun w=>gmMilligrams_yes qz (intN 10) 26 w right_qz (by decide) (BN.int (show Bd 1000000 10 by exact (bd1 1000000 (by omega) (by decide))) (by omega)) (intN_ok 10) sgn_ten fl_ex
 rw [show vI (((26:Int).natAbs:Nat):Int)=vI 26 from rfl] at M
 have D:=fun w=>gmDensity_any 265 165 w (by omega) (by omega) (by omega) (by omega)
 rw [den_ex] at D
 have S:∀ k w',Chg [] w1 w'→Hc w' k 23 (encM [qz] ++ []).toArray→Calls Tryz.prog 24 #[.slice (some ⟨b,0,none⟩) 1 (1+m),.slice (some ⟨k,0,none⟩) 1 1] w' (RetV (.bool true) w'):=fun k w' hc hB=>by
  have:=gnSame_any [qz] [qz] (some ⟨b,0,none⟩) (some ⟨k,0,none⟩) (1+m) 1 w' (hR.chg hc) (rds_hc hB) (by decide)
  rwa [decide_eq_true rfl] at this
 have R:=fun w=>ROf_any 26 w (by omega) (by omega)
 generalize intN 10=ten at *
 refine vm_piece (E0:=[(1,(.slice (some ⟨b,0,none⟩) 1 (1+m),0)),(3,(.int .i64 (0),0))]) kr [(4,19)] gkN ((flat gkC).drop 2) kr hS1 [.t,.t,.t,.t,.t,.t,.t,.t,.t,.t,.t,.t,.t,.t,.t,.t,.t,.t,.t] [cV (Q),cV (O),cV (M),cV (D),cV (Q),cM 29 23 ((encM [qz] ++ []).toArray) (args:=fun k=>#[.slice (some ⟨b,0,none⟩) 1 (1+m),.slice (some ⟨k,0,none⟩) 1 1]) S,cV (R),lV _ (.bool true) (fun w hC=>eqI_same (26) (.tmp 41) (.tmp 42) w)] (VEx.r) [(0,(.bool true,0))] [] (hQ:=?_)
 intro a2 w2 hS2 hK2 hM2
 exact vm_out (fn:=Tryz.f10) hS2 (.bool true) (fun g=>by kernel_rfl) ⟨rfl,hw1.trans (hM2.bl0.mono hw1.size)⟩
end Go.Proofs.YtlhddcingeneaaaGreatDoor
