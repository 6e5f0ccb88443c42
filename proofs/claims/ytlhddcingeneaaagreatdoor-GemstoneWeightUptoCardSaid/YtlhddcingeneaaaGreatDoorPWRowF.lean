/- Arguments of the field's laws, opened and shut: numbers, rows of integers, pairs of machine integers. -/
import Derived.Test.YtlhddcingeneaaaGreatDoorPWRowA
import Derived.Test.YtlhddcingeneaaaGreatDoorPWI
namespace Go.Proofs.YtlhddcingeneaaaGreatDoor
open Go.ChangeShapes Go.WideShapes Go.ChangeAt Go.RowKit Go.Joins
set_option maxRecDepth 100000
set_option linter.unusedVariables false
set_option linter.unusedSimpArgs false
theorem cellsNum:Tryz.prog.cellsOf 28=10:=by kernel_rfl
theorem cellsA4:Tryz.prog.cellsOf 26=8:=by kernel_rfl
def dI {H:Type} (n:Bool) (s:ByteArray):DataW H:=.agg [.lit (.bool n),.lit (.string s.data.toList)]
def dR {H:Type} (r:Rw):DataW H:=.agg [.agg [dI r.n0 r.s0,dI r.n1 r.s1,dI r.n2 r.s2,dI r.n3 r.s3],dI r.n4 r.s4]
def mxR (r:Rw):Prop:=r.s0.size≤maxLen∧r.s1.size≤maxLen∧r.s2.size≤maxLen∧r.s3.size≤maxLen∧r.s4.size≤maxLen
theorem trod_Int {H:Type} {enc:TypeId × Value→H} {W:World} {bs:Nat} {sp:Nat→Bool} {held:Bool} {n:Nat} {c0 c1:Value} {y:DataW H × List MemPlace} (h:DataW.trod enc Tryz.prog W bs sp held n 25 [c0,c1]=some y) :
  ∃ (b:Bool) (s:ByteArray),c0 = .bool b∧c1 = .string s∧y=(dI b s,[])∧s.size≤maxLen:=by
 obtain ⟨y0,y1,m,hx,-,h0,h1⟩:=trod_struct2 Tryz.underlying25 h
 have g0:DataW.trod enc Tryz.prog W bs sp held m 4 [c0]=some y0:=h0
 have g1:DataW.trod enc Tryz.prog W bs sp held m 9 [c1]=some y1:=h1
 obtain ⟨b,e0,rfl⟩:=DataW.trod_bool Tryz.underlying4 g0
 obtain ⟨s,e1,rfl,hs⟩:=DataW.trod_string Tryz.underlying9 g1
 simp at e0 e1
 exact ⟨b,s,e0,e1,hx,hs⟩
theorem okWide_arr' {W:World} {r:Reach} {b0:Nat} {t e:TypeId} {n:Nat} {v:Value} (hs:Tryz.prog.underlying t=some (.array n e)) (h:Value.okWide Tryz.prog W r b0 t v):∃ xs:Array Value,v = .agg xs∧xs.size=Tryz.prog.cellsOf t:=by
 simp only [Value.okWide,hs] at h
 obtain ⟨cs,h1,h2,_⟩:=h
 exact ⟨cs,h1,h2⟩
theorem list4 {α:Type} {xs:List α} (h:xs.length=4):∃ a b c d,xs = [a,b,c,d]:=by
 match xs,h with
 | [a,b,c,d],_=>exact ⟨a,b,c,d,rfl⟩
theorem trod_A4 {H:Type} {enc:TypeId × Value→H} {W:World} {bs:Nat} {sp:Nat→Bool} {held:Bool} {n:Nat} {c0 c1 c2 c3 c4 c5 c6 c7:Value} {y:DataW H × List MemPlace} (h:DataW.trod enc Tryz.prog W bs sp held n 26 [c0,c1,c2,c3,c4,c5,c6,c7]=some y) :
  ∃ (n0:Bool) (s0:ByteArray) (n1:Bool) (s1:ByteArray) (n2:Bool) (s2:ByteArray) (n3:Bool) (s3:ByteArray),[c0,c1,c2,c3,c4,c5,c6,c7] = [.bool n0,.string s0,.bool n1,.string s1,.bool n2,.string s2,.bool n3,.string s3]∧y=(.agg [dI n0 s0,dI n1 s1,dI n2 s2,dI n3 s3],[])∧s0.size≤maxLen∧s1.size≤maxLen∧s2.size≤maxLen∧s3.size≤maxLen:=by
 obtain ⟨xs,m,-,rfl,-,hl,hf⟩:=DataW.trod_array Tryz.underlying26 h
 obtain ⟨y0,y1,y2,y3,rfl⟩:=list4 hl
 have g0:DataW.trod enc Tryz.prog W bs sp held m 25 [c0,c1]=some y0:=by have:=hf 0 (by omega);rw [cellsInt] at this;exact this
 have g1:DataW.trod enc Tryz.prog W bs sp held m 25 [c2,c3]=some y1:=by have:=hf 1 (by omega);rw [cellsInt] at this;exact this
 have g2:DataW.trod enc Tryz.prog W bs sp held m 25 [c4,c5]=some y2:=by have:=hf 2 (by omega);rw [cellsInt] at this;exact this
 have g3:DataW.trod enc Tryz.prog W bs sp held m 25 [c6,c7]=some y3:=by have:=hf 3 (by omega);rw [cellsInt] at this;exact this
 obtain ⟨n0,s0,rfl,rfl,rfl,h0⟩:=trod_Int g0
 obtain ⟨n1,s1,rfl,rfl,rfl,h1⟩:=trod_Int g1
 obtain ⟨n2,s2,rfl,rfl,rfl,h2⟩:=trod_Int g2
 obtain ⟨n3,s3,rfl,rfl,rfl,h3⟩:=trod_Int g3
 exact ⟨n0,s0,n1,s1,n2,s2,n3,s3,rfl,rfl,h0,h1,h2,h3⟩
def zR:Rw:=⟨false,.empty,false,.empty,false,.empty,false,.empty,false,.empty⟩
def zeroNum:Value:=.agg #[.bool false,.string .empty,.bool false,.string .empty,.bool false,.string .empty,.bool false,.string .empty,.bool false,.string .empty]
def zeroND {H:Type}:DataW H:=.agg [.agg [zeroD,zeroD,zeroD,zeroD],zeroD]
def zeroA4:Value:=.agg #[.bool false,.string .empty,.bool false,.string .empty,.bool false,.string .empty,.bool false,.string .empty]
def zeroA4D {H:Type}:DataW H:=.agg [zeroD,zeroD,zeroD,zeroD]
end Go.Proofs.YtlhddcingeneaaaGreatDoor
