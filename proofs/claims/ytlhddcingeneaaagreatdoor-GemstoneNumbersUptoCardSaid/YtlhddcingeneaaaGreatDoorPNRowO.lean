/- A material, a string as arguments. -/
import Derived.Test.YtlhddcingeneaaaGreatDoorPNRowM
namespace Go.Proofs.YtlhddcingeneaaaGreatDoor
open Go.ChangeShapes Go.WideShapes Go.ChangeAt Go.RowKit Go.Joins
set_option maxRecDepth 100000
set_option linter.unusedVariables false
set_option linter.unusedSimpArgs false
theorem open_Mat {H:Type} {enc:TypeId × Value→H} {W:World} {base bs:Nat} {sp:Nat→Bool} {held:Bool} {v:Value} {d:DataW H} {p:List MemPlace} (hv:Value.okWide Tryz.prog W .any base 23 v) (h:DataW.Trod enc Tryz.prog W bs sp held 23 v d p) :
  ∃ m:Mt,v=vMt m:=by
 obtain ⟨cs,rfl,hsz⟩:=okWide_struct Tryz.underlying23 hv
 obtain ⟨c0,c1,c2,c3,rfl⟩:=garray4 (hsz.trans gcellsMat)
 obtain ⟨fuel,hf⟩:=h
 have hf':DataW.trod enc Tryz.prog W bs sp held fuel 23 [c0,c1,c2,c3]=some (d,p):=hf
 obtain ⟨m,e⟩:=open_mat hf'
 refine ⟨m,?_⟩
 unfold cellsM at e
 simp only [List.cons.injEq,and_true] at e
 obtain ⟨rfl,rfl,rfl,rfl⟩:=e
 rfl
end Go.Proofs.YtlhddcingeneaaaGreatDoor
