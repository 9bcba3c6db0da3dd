/- Walks of Go functions over the frame of this claim: what each computes, for every input of the stated types (Aw). -/
import Derived.Test.YtfgbmegchdjfeaaDoorTy
import Derived.Test.YtfgbmegchdjfeaaDoorSt
import Derived.Test.YtfgbmegchdjfeaaDoorSrt
import Derived.Test.YtfgbmegchdjfeaaDoorR6b
set_option linter.unusedVariables false
set_option linter.unusedSimpArgs false
set_option linter.unnecessarySimpa false
namespace Go.Proofs.YtfgbmegchdjfeaaDoor
open Go.Bil
open Go.RowKit (Below)
open Go.Proofs

end Go.Proofs.YtfgbmegchdjfeaaDoor
