/- Lists of materials and ranges as arguments. -/
import Derived.Test.YtlhddcingeneaaaGreatDoorPPRowG
import Derived.Test.YtlhddcingeneaaaGreatDoorPPX
import Derived.Carry
import Derived.Deep.Slices
import Derived.Lib.SmallJoins
namespace Go.Proofs.YtlhddcingeneaaaGreatDoor
open Go.ChangeShapes Go.WideShapes Go.ChangeAt Go.RowKit Go.Joins
set_option maxRecDepth 100000
set_option linter.unusedVariables false
set_option linter.unusedSimpArgs false
theorem glaid:laidOutB Tryz.prog=true:=by kernel_rfl
theorem back_arg {H:Type} {enc:TypeId × Value→H} {t:TypeId} {W W':World} {v:Value} {d:DataW H} {p:List MemPlace} (hr:Tryz.prog.readableRec t=true) (hrow:Nat.blt t Tryz.prog.types.size=true) (h:DataW.Trod enc Tryz.prog W 0 (fun _=>true) true t v d p) (hb:Below W.heap.size W W') :
  DataW.Trod enc Tryz.prog W' 0 (fun b=>decide (b<W.heap.size)) true t v d p :=
 Below.trod glaid hr (Nat.le_of_ble_eq_true hrow) h hb (fun x hx=>by
  obtain ⟨n,hn⟩:=h
  exact DataW.trod_lt n t _ _ hn x hx)
theorem gcellsMat:Tryz.prog.cellsOf 23=4:=by kernel_rfl
theorem gcellsStr:Tryz.prog.cellsOf 9=1:=by kernel_rfl
theorem gcellsI:Tryz.prog.cellsOf 3=1:=by kernel_rfl
theorem open_mat {H:Type} {enc:TypeId × Value→H} {W:World} {bs:Nat} {sp:Nat→Bool} {held:Bool} {n:Nat} {cs:List Value} {x:DataW H × List MemPlace} (h:DataW.trod enc Tryz.prog W bs sp held n 23 cs=some x) :
  ∃ m:Mt,cs=cellsM m:=by
 obtain ⟨y0,y1,y2,y3,k,-,hl,h0,h1,h2,h3⟩:=trod_struct4 Tryz.underlying23 h
 rw [gcellsMat] at hl
 match cs,hl with
 | [c0,c1,c2,c3],_ =>
  have g0:DataW.trod enc Tryz.prog W bs sp held k 9 [c0]=some y0:=by rw [gcellsStr] at h0;exact h0
  have g1:DataW.trod enc Tryz.prog W bs sp held k 3 [c1]=some y1:=by rw [gcellsI] at h1;exact h1
  have g2:DataW.trod enc Tryz.prog W bs sp held k 3 [c2]=some y2:=by rw [gcellsI] at h2;exact h2
  have g3:DataW.trod enc Tryz.prog W bs sp held k 3 [c3]=some y3:=by rw [gcellsI] at h3;exact h3
  obtain ⟨s,e0,-,-⟩:=DataW.trod_string Tryz.underlying9 g0
  obtain ⟨a,e1,-,-⟩:=DataW.trod_int Tryz.underlying3 g1
  obtain ⟨b,e2,-,-⟩:=DataW.trod_int Tryz.underlying3 g2
  obtain ⟨c,e3,-,-⟩:=DataW.trod_int Tryz.underlying3 g3
  simp at e0 e1 e2 e3
  subst e0 e1 e2 e3
  exact ⟨⟨s.data.toList,a,b,c⟩,rfl⟩
theorem open_mats {H:Type} {enc:TypeId × Value→H} {W:World} {base bs:Nat} {sp:Nat→Bool} {held:Bool} {v:Value} {d:DataW H} {p:List MemPlace} (hv:Value.okWide Tryz.prog W .any base 48 v) (h:DataW.Trod enc Tryz.prog W bs sp held 48 v d p) :
  ∃ (l:List Mt) (ba:Option Addr) (c:Nat),v = .slice ba l.length c∧RdS W ba (encM l)∧l.length≤9223372036854775807:=by
 obtain ⟨a0,len,cap,rfl⟩:=okWide_slice Tryz.underlying48 hv
 obtain ⟨fuel,hf⟩:=h
 rcases Go.Deep.open_slice Tryz.underlying48 hf with ⟨e,-⟩ | ⟨a,len',cap',m,n,D,Pl,e,-,hl,hm,hmm,-,hx⟩
 ·simp only [Value.cells,List.cons.injEq,and_true,Value.slice.injEq] at e
  obtain ⟨rfl,rfl,rfl⟩:=e
  exact ⟨[],none,0,rfl,.inl rfl,Nat.zero_le _⟩
 ·simp only [Value.cells,List.cons.injEq,and_true,Value.slice.injEq] at e
  obtain ⟨rfl,rfl,rfl⟩:=e
  have hlm:len≤m:=by rw [hmm];split <;> omega
  rw [gcellsMat] at hx
  have each:∀ i,i<len→∃ q:Mt,∀ k,k<4→W.cell? (a.add (i * 4+k))=(cellsM q)[k]?:=fun i hi=>by
   obtain ⟨cs',h1,h2⟩:=hx i (by omega)
   obtain ⟨q,rfl⟩:=open_mat h2
   obtain ⟨-,-,hcell⟩:=World.cells?_some h1
   exact ⟨q,fun k hk=>by
    have:=hcell k hk
    rwa [Go.Deep.add_add] at this⟩
  have hlist:∀ n,n≤len→∃ l:List Mt,l.length=n∧∀ i (hi:i<l.length) k,k<4→W.cell? (a.add (i * 4+k))=(cellsM l[i])[k]?:=by
   intro n
   induction n with
   | zero=>intro _;exact ⟨[],rfl,fun i hi=>absurd hi (Nat.not_lt_zero i)⟩
   | succ n ih =>
    intro hn
    obtain ⟨l,e,hl⟩:=ih (by omega)
    obtain ⟨q,hq⟩:=each n (by omega)
    refine ⟨l ++ [q],by simp [e],fun i hi k hk=>?_⟩
    by_cases hin:i<l.length
    ·rw [List.getElem_append_left hin];exact hl i hin k hk
    ·obtain rfl:i=n:=by simp at hi;omega
     rw [List.getElem_append_right (by omega)]
     simpa using hq k hk
  obtain ⟨l,rfl,hl2⟩:=hlist len (Nat.le_refl _)
  refine ⟨l,some a,cap,rfl,?_,Nat.le_trans hl (Nat.le_trans hm (by decide))⟩
  by_cases h0:l.length=0
  ·exact .inl (by rw [List.eq_nil_of_length_eq_zero h0];rfl)
  ·have hp:=hl2 0 (by omega) 0 (by omega)
   obtain ⟨b,o,pt⟩:=a
   have hpt:pt=none:=by simpa [Addr.add] using World.cell?_spot (hp.trans rfl:W.cell? _=some (.string ⟨(l[0]'(by omega)).nm.toArray⟩))
   subst hpt
   refine .inr ⟨b,o,rfl,fun j v hj=>?_⟩
   have hlen:=(List.getElem?_eq_some_iff.1 hj).1
   rw [encM_len] at hlen
   have hi:j / 4<l.length:=by omega
   have h1:=hl2 (j / 4) hi (j % 4) (Nat.mod_lt _ (by omega))
   rw [← encM_get l (j / 4) hi (j % 4) (Nat.mod_lt _ (by omega)),show j / 4 * 4+j % 4=j by omega,hj,Go.WideShapes.add_plain] at h1
   exact h1
theorem garray4 {α:Type} {cs:Array α} (h:cs.size=4):∃ a b c d,cs = #[a,b,c,d]:=by
 obtain ⟨l⟩:=cs
 match l,h with
 | [a,b,c,d],_=>exact ⟨a,b,c,d,rfl⟩
end Go.Proofs.YtlhddcingeneaaaGreatDoor
