/- Arguments of the field's laws, opened and shut: numbers, rows of integers, pairs of machine integers. -/
import Derived.Test.YtlhddcingeneaaaGreatDoorPPRowA
import Derived.Test.YtlhddcingeneaaaGreatDoorPPI
namespace Go.Proofs.YtlhddcingeneaaaGreatDoor
open Go.ChangeShapes Go.WideShapes Go.ChangeAt Go.RowKit Go.Joins
set_option linter.unusedVariables false
set_option linter.unusedSimpArgs false
def dI {H:Type} (n:Bool) (s:ByteArray):DataW H:=.agg [.lit (.bool n),.lit (.string s.data.toList)]
def dR {H:Type} (r:Rw):DataW H:=.agg [.agg [dI r.n0 r.s0,dI r.n1 r.s1,dI r.n2 r.s2,dI r.n3 r.s3],dI r.n4 r.s4]
def mxR (r:Rw):Prop:=r.s0.size≤maxLen∧r.s1.size≤maxLen∧r.s2.size≤maxLen∧r.s3.size≤maxLen∧r.s4.size≤maxLen
def zR:Rw:=⟨false,.empty,false,.empty,false,.empty,false,.empty,false,.empty⟩
def zeroNum:Value:=.agg #[.bool false,.string .empty,.bool false,.string .empty,.bool false,.string .empty,.bool false,.string .empty,.bool false,.string .empty]
def zeroND {H:Type}:DataW H:=.agg [.agg [zeroD,zeroD,zeroD,zeroD],zeroD]
def zeroA4:Value:=.agg #[.bool false,.string .empty,.bool false,.string .empty,.bool false,.string .empty,.bool false,.string .empty]
def zeroA4D {H:Type}:DataW H:=.agg [zeroD,zeroD,zeroD,zeroD]
end Go.Proofs.YtlhddcingeneaaaGreatDoor
