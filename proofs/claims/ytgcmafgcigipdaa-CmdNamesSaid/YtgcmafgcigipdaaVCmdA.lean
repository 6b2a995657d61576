/-
  The walks of layer 4's functions, and of the document's, the first part: names; may a command be.
-/
import Derived.Test.YtgcmafgcigipdaaVOctetF
import Derived.Test.YtgcmafgcigipdaaVMCmd
import Derived.Test.YtgcmafgcigipdaaVPlA
namespace Go.Proofs.Ytgcmafgcigipdaa
set_option linter.unusedSimpArgs false
set_option linter.unusedVariables false
set_option maxRecDepth 20000
open Go.V Go.RowKit

end Go.Proofs.Ytgcmafgcigipdaa
