/- The reference's field: signs, comparisons, absolute values; what is answered for numbers that are not valid. -/
import Derived.Test.YtegnalgjjmpcmaaGreatDoorPUFieU
namespace Go.Proofs.YtegnalgjjmpcmaaGreatDoor
open Go Go.RowKit
set_option linter.unusedVariables false
set_option linter.unusedSimpArgs false
def rZ:Rw:=⟨false,⟨#[]⟩,false,⟨#[]⟩,false,⟨#[]⟩,false,⟨#[]⟩,false,⟨#[]⟩⟩
end Go.Proofs.YtegnalgjjmpcmaaGreatDoor
