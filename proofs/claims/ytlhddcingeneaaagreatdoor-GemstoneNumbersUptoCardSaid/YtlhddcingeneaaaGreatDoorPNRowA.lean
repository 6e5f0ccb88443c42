import Derived.Test.YtlhddcingeneaaaGreatDoorPNLawA
import Derived.Test.YtlhddcingeneaaaGreatDoorTie
import Derived.Test.YtlhddcingeneaaaGreatDoorCards
import Derived.WalkKit
import Derived.ProofKit
import Derived.OpenShut
import Derived.Deep.DeepHandedRow
import Derived.Lib.LaidTab
import Derived.Lib.SmallJoins
import Derived.LaidMore
import Derived.Lay
import Derived.LaidSub
import Derived.MakeChecks
/-! What every row of this seat shares: the table,a start,an integer's form as an argument. -/
namespace Go.Proofs.YtlhddcingeneaaaGreatDoor
open Go.ChangeShapes Go.WideShapes Go.ChangeAt Go.RowKit Go.Joins
set_option maxRecDepth 100000
set_option linter.unusedVariables false
theorem rowOwn:ownKnob Tryz.prog.godebug=none:=by kernel_rfl
theorem gTab:Tryz.prog.globalNamed "internal/strconv.uint64pow10" = some 1:=by kernel_rfl
theorem gTabType:(Tryz.prog.globals[1]?).map (·.type)=some 210:=by kernel_rfl
theorem cellsTab:Tryz.prog.cellsOf 210=20:=by kernel_rfl
theorem cellsU64:Tryz.prog.cellsOf 100=1:=by kernel_rfl
theorem cellsInt:Tryz.prog.cellsOf 25=2:=by kernel_rfl
theorem tab_of_row {W:World} {l:List (String × DataW Unit)} (hl:l.filter (fun x=>x.1 == "internal/strconv.uint64pow10") = [("internal/strconv.uint64pow10",Rows.laid_internal_strconv_uint64pow10)]) (hp:(l.all fun x=>x.2.handleName?.isNone)=true) (h:laidMetH Tryz.prog l W):HasTab W:=by
 rw [MakeChecks.laidMetH_plain _ _ _ hp] at h
 have h1:=h.filter (fun x=>x.1 == "internal/strconv.uint64pow10")
 rw [hl] at h1
 have e:Rows.laid_internal_strconv_uint64pow10=Lib.tabData (H:=Unit) .u64 Lib.pow10Tab:=by kernel_rfl
 rw [e] at h1
 exact Lib.tabIs_of_head gTab gTabType Tryz.underlying210 Tryz.underlying100 cellsU64 cellsTab h1
def zeroInt:Value:=.agg #[.bool false,.string .empty]
def zeroD {H:Type}:DataW H:=.agg [.lit (.bool false),.lit (.string [])]
end Go.Proofs.YtlhddcingeneaaaGreatDoor
