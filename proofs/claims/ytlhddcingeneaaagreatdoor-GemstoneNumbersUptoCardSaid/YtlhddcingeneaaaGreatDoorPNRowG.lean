/- The laws of materials: the variables of the library, and arguments opened and shut. -/
import Derived.Test.YtlhddcingeneaaaGreatDoorPNRowF
import Derived.Test.YtlhddcingeneaaaGreatDoorPNX
import Derived.Stop.LaidErr
namespace Go.Proofs.YtlhddcingeneaaaGreatDoor
open Go.ChangeShapes Go.WideShapes Go.ChangeAt Go.RowKit Go.Joins
set_option maxRecDepth 100000
set_option linter.unusedVariables false
set_option linter.unusedSimpArgs false
theorem gStar:"*" ++ "errors.errorString" = "*errors.errorString":=by decide
theorem gRowE (u:TypeId) (h:Tryz.prog.typeName? 3 u=some "*errors.errorString"):u=232 :=
 typeName_ptr_named (nm:="errors.errorString") (by rw [gStar];kernel_rfl) (by kernel_rfl) (by decide) u (by rw [gStar];exact h)
theorem gES:Tryz.prog.globalNamed "strconv.ErrSyntax" = some 2:=by kernel_rfl
theorem gER:Tryz.prog.globalNamed "strconv.ErrRange" = some 3:=by kernel_rfl
theorem gw_of_row {W:World} (hL:laidMetH Tryz.prog Rows.gemstoneWeightRow.laid W) (hS:W.ShapedOpen Tryz.prog):GW W:=by
 have hT:HasTab W:=tab_of_row (by kernel_rfl) (by kernel_rfl) hL
 have h:=hL
 rw [MakeChecks.laidMetH_plain _ _ _ (by kernel_rfl)] at h
 have h4:=h.tail.tail.tail.tail
 obtain ⟨a,s,hv,-,-,-⟩:=laid_sentinel (g:=3) h4 gER (by kernel_rfl) Tryz.underlying129 gRowE Tryz.underlying232 Tryz.underlying234 rfl rfl Tryz.underlying9 (by kernel_rfl) (by kernel_rfl)
 obtain ⟨a',s',hv',-,-,-⟩:=laid_sentinel (g:=2) h4.tail gES (by kernel_rfl) Tryz.underlying129 gRowE Tryz.underlying232 Tryz.underlying234 rfl rfl Tryz.underlying9 (by kernel_rfl) (by kernel_rfl)
 refine ⟨hT,?_,⟨_,_,World.var?_cell gES hv' 0⟩,⟨_,_,World.var?_cell gER hv 0⟩⟩
 exact cell_of_shapedOpen_int (zero:=#[.int .i64 0]) (t:=3) hS (of_decide_eq_true (by kernel_rfl)) (by kernel_rfl) rfl (by kernel_rfl) (by kernel_rfl) Tryz.underlying3
end Go.Proofs.YtlhddcingeneaaaGreatDoor
