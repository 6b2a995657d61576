/-
  The walks of layer 4's laws, the first part: awake, CmdAll.
-/
import Derived.Test.YtalieccfdmokmaaVCmdC
import Derived.Test.YtalieccfdmokmaaVEq
namespace Go.Proofs.Ytalieccfdmokmaa
set_option linter.unusedSimpArgs false
set_option linter.unusedVariables false
set_option maxRecDepth 20000
open Go.V Go.RowKit

end Go.Proofs.Ytalieccfdmokmaa
