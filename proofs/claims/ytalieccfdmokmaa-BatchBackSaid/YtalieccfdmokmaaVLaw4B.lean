/-
  The walks of layer 4's laws, the second part: CmdReqs.
-/
import Derived.Test.YtalieccfdmokmaaVLaw4A
import Derived.Test.YtalieccfdmokmaaVReqA
namespace Go.Proofs.Ytalieccfdmokmaa
set_option linter.unusedSimpArgs false
set_option linter.unusedVariables false
set_option maxRecDepth 20000
open Go.V Go.RowKit

end Go.Proofs.Ytalieccfdmokmaa
