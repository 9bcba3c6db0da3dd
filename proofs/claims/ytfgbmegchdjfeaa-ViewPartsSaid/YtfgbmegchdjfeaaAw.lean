/- Walks of Go functions over the frame of this claim: what each computes, for every input of the stated types (Aw). -/
import Derived.Test.YtfgbmegchdjfeaaTy
import Derived.Test.YtfgbmegchdjfeaaSt
import Derived.Test.YtfgbmegchdjfeaaSrt
import Derived.Test.YtfgbmegchdjfeaaR6b
set_option linter.unusedVariables false
set_option linter.unusedSimpArgs false
set_option linter.unnecessarySimpa false
namespace Go.Proofs.Ytfgbmegchdjfeaa
open Go.Bil
open Go.RowKit (Below)
open Go.Proofs

end Go.Proofs.Ytfgbmegchdjfeaa
