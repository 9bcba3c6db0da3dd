/- Walks of Go functions over the frame of this claim: what each computes, for every input of the stated types (Srt). -/
import Derived.Test.YtfgbmegchdjfeaaDoorTy
import Derived.Test.YtfgbmegchdjfeaaDoorLib
import Derived.Test.YtfgbmegchdjfeaaDoorMd4
set_option linter.unusedVariables false
set_option linter.unusedSimpArgs false
set_option linter.unnecessarySimpa false
namespace Go.Proofs.YtfgbmegchdjfeaaDoor
open Go.Bil
open Go.RowKit (Below)
open Go.Proofs

end Go.Proofs.YtfgbmegchdjfeaaDoor
