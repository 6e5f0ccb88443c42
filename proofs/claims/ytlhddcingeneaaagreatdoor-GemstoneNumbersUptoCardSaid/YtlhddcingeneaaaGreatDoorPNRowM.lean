/- Lists of materials and ranges as arguments. -/
import Derived.Test.YtlhddcingeneaaaGreatDoorPNRowG
import Derived.Test.YtlhddcingeneaaaGreatDoorPNX
import Derived.Carry
import Derived.Deep.Slices
import Derived.Lib.SmallJoins
namespace Go.Proofs.YtlhddcingeneaaaGreatDoor
open Go.ChangeShapes Go.WideShapes Go.ChangeAt Go.RowKit Go.Joins
set_option maxRecDepth 100000
set_option linter.unusedVariables false
set_option linter.unusedSimpArgs false
theorem glaid:laidOutB Tryz.prog=true:=by kernel_rfl
theorem back_arg {H:Type} {enc:TypeId × Value→H} {t:TypeId} {W W':World} {v:Value} {d:DataW H} {p:List MemPlace} (hr:Tryz.prog.readableRec t=true) (hrow:Nat.blt t Tryz.prog.types.size=true) (h:DataW.Trod enc Tryz.prog W 0 (fun _=>true) true t v d p) (hb:Below W.heap.size W W') :
  DataW.Trod enc Tryz.prog W' 0 (fun b=>decide (b<W.heap.size)) true t v d p :=
 Below.trod glaid hr (Nat.le_of_ble_eq_true hrow) h hb (fun x hx=>by
  obtain ⟨n,hn⟩:=h
  exact DataW.trod_lt n t _ _ hn x hx)
theorem gcellsMat:Tryz.prog.cellsOf 23=4:=by kernel_rfl
theorem gcellsStr:Tryz.prog.cellsOf 9=1:=by kernel_rfl
theorem gcellsI:Tryz.prog.cellsOf 3=1:=by kernel_rfl
theorem open_mat {H:Type} {enc:TypeId × Value→H} {W:World} {bs:Nat} {sp:Nat→Bool} {held:Bool} {n:Nat} {cs:List Value} {x:DataW H × List MemPlace} (h:DataW.trod enc Tryz.prog W bs sp held n 23 cs=some x) :
  ∃ m:Mt,cs=cellsM m:=by
 obtain ⟨y0,y1,y2,y3,k,-,hl,h0,h1,h2,h3⟩:=trod_struct4 Tryz.underlying23 h
 rw [gcellsMat] at hl
 match cs,hl with
 | [c0,c1,c2,c3],_ =>
  have g0:DataW.trod enc Tryz.prog W bs sp held k 9 [c0]=some y0:=by rw [gcellsStr] at h0;exact h0
  have g1:DataW.trod enc Tryz.prog W bs sp held k 3 [c1]=some y1:=by rw [gcellsI] at h1;exact h1
  have g2:DataW.trod enc Tryz.prog W bs sp held k 3 [c2]=some y2:=by rw [gcellsI] at h2;exact h2
  have g3:DataW.trod enc Tryz.prog W bs sp held k 3 [c3]=some y3:=by rw [gcellsI] at h3;exact h3
  obtain ⟨s,e0,-,-⟩:=DataW.trod_string Tryz.underlying9 g0
  obtain ⟨a,e1,-,-⟩:=DataW.trod_int Tryz.underlying3 g1
  obtain ⟨b,e2,-,-⟩:=DataW.trod_int Tryz.underlying3 g2
  obtain ⟨c,e3,-,-⟩:=DataW.trod_int Tryz.underlying3 g3
  simp at e0 e1 e2 e3
  subst e0 e1 e2 e3
  exact ⟨⟨s.data.toList,a,b,c⟩,rfl⟩
theorem garray4 {α:Type} {cs:Array α} (h:cs.size=4):∃ a b c d,cs = #[a,b,c,d]:=by
 obtain ⟨l⟩:=cs
 match l,h with
 | [a,b,c,d],_=>exact ⟨a,b,c,d,rfl⟩
end Go.Proofs.YtlhddcingeneaaaGreatDoor
