/- Lists of strings as arguments. -/
import Derived.Test.YtlhddcingeneaaaGreatDoorPSRowM
import Derived.Test.YtlhddcingeneaaaGreatDoorPSX
namespace Go.Proofs.YtlhddcingeneaaaGreatDoor
open Go.ChangeShapes Go.WideShapes Go.ChangeAt Go.RowKit Go.Joins
set_option maxRecDepth 100000
set_option linter.unusedVariables false
set_option linter.unusedSimpArgs false
theorem open_strl {H:Type} {enc:TypeId × Value→H} {W:World} {base bs:Nat} {sp:Nat→Bool} {held:Bool} {v:Value} {d:DataW H} {p:List MemPlace} (hv:Value.okWide Tryz.prog W .any base 49 v) (h:DataW.Trod enc Tryz.prog W bs sp held 49 v d p) :
  ∃ (l:List (List UInt8)) (ba:Option Addr) (c:Nat),v = .slice ba l.length c∧RdS W ba (encS l):=by
 obtain ⟨a0,len,cap,rfl⟩:=okWide_slice Tryz.underlying49 hv
 obtain ⟨fuel,hf⟩:=h
 rcases Go.Deep.open_slice1 Tryz.underlying49 gcellsStr hf with ⟨e,-⟩ | ⟨a,len',cap',m,n,V,D,Pl,e,-,hl,hm,hmm,-,hx⟩
 ·simp only [Value.cells,List.cons.injEq,and_true,Value.slice.injEq] at e
  obtain ⟨rfl,rfl,rfl⟩:=e
  exact ⟨[],none,0,rfl,.inl rfl⟩
 ·simp only [Value.cells,List.cons.injEq,and_true,Value.slice.injEq] at e
  obtain ⟨rfl,rfl,rfl⟩:=e
  have hlm:len≤m:=by rw [hmm];split <;> omega
  have each:∀ i,i<len→∃ q:List UInt8,W.cell? (a.add i)=some (.string ⟨q.toArray⟩):=fun i hi=>by
   obtain ⟨h1,h2⟩:=hx i (by omega)
   obtain ⟨s,e0,-,-⟩:=DataW.trod_string Tryz.underlying9 h2
   simp at e0
   rw [e0] at h1
   exact ⟨s.data.toList,h1⟩
  have hlist:∀ n,n≤len→∃ l:List (List UInt8),l.length=n∧∀ i (hi:i<l.length),W.cell? (a.add i)=some (.string ⟨(l[i]).toArray⟩):=by
   intro n
   induction n with
   | zero=>intro _;exact ⟨[],rfl,fun i hi=>absurd hi (Nat.not_lt_zero i)⟩
   | succ n ih =>
    intro hn
    obtain ⟨l,e,hl⟩:=ih (by omega)
    obtain ⟨q,hq⟩:=each n (by omega)
    refine ⟨l ++ [q],by simp [e],fun i hi=>?_⟩
    by_cases hin:i<l.length
    ·rw [List.getElem_append_left hin];exact hl i hin
    ·obtain rfl:i=n:=by simp at hi;omega
     rw [List.getElem_append_right (by omega)]
     simpa using hq
  obtain ⟨l,rfl,hl2⟩:=hlist len (Nat.le_refl _)
  refine ⟨l,some a,cap,rfl,?_⟩
  by_cases h0:l.length=0
  ·exact .inl (by rw [List.eq_nil_of_length_eq_zero h0];rfl)
  ·have hp:=hl2 0 (by omega)
   obtain ⟨b,o,pt⟩:=a
   have hpt:pt=none:=by simpa [Addr.add] using World.cell?_spot hp
   subst hpt
   refine .inr ⟨b,o,rfl,fun j v hj=>?_⟩
   unfold encS at hj
   rw [List.getElem?_map] at hj
   obtain ⟨q,hq,rfl⟩:=Option.map_eq_some_iff.1 hj
   obtain ⟨hjl,rfl⟩:=List.getElem?_eq_some_iff.1 hq
   have h1:=hl2 j hjl
   rw [Go.WideShapes.add_plain] at h1
   exact h1
end Go.Proofs.YtlhddcingeneaaaGreatDoor
