/- Pairs of numbers as arguments; the bulk of what is read. -/
import Derived.Test.YtlhddcingeneaaaGreatDoorPNRowO
import Derived.Test.YtlhddcingeneaaaGreatDoorPNRowF
namespace Go.Proofs.YtlhddcingeneaaaGreatDoor
open Go.ChangeShapes Go.WideShapes Go.ChangeAt Go.RowKit Go.Joins
set_option linter.unusedVariables false
set_option linter.unusedSimpArgs false
theorem bulk_dI {H:Type} (n:Bool) (s:ByteArray):Rows.uptoBulk (dI n s:DataW H)=1+(s.data.toList.length+1+0)+1:=by kernel_rfl
theorem bulk_dR {H:Type} (r:Rw):Rows.uptoBulk (dR r:DataW H)=(Rows.uptoBulk (dI r.n0 r.s0:DataW H)+(Rows.uptoBulk (dI r.n1 r.s1:DataW H)+(Rows.uptoBulk (dI r.n2 r.s2:DataW H)+(Rows.uptoBulk (dI r.n3 r.s3:DataW H)+0)))+1)+(Rows.uptoBulk (dI r.n4 r.s4:DataW H)+0)+1:=by kernel_rfl
theorem bulk_R {H:Type} {r:Rw} {k:Nat} (h:Rows.uptoBulk (dR r:DataW H)≤k):smallR k r:=by
 have e:∀ s:ByteArray,s.data.toList.length=s.size:=fun s=>rfl
 rw [bulk_dR,bulk_dI,bulk_dI,bulk_dI,bulk_dI,bulk_dI,e,e,e,e,e] at h
 unfold smallR
 omega
theorem small_up {r:Rw} (h:smallR 1048576 r):smallR 80000000 r:=by unfold smallR at *;omega
end Go.Proofs.YtlhddcingeneaaaGreatDoor
