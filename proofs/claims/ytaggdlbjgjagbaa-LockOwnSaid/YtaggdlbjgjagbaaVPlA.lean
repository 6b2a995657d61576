/-
  The walks of layer 19's functions: may a request be.
-/
import Derived.Test.YtaggdlbjgjagbaaVMin
import Derived.Test.YtaggdlbjgjagbaaVMReq
import Derived.Test.YtaggdlbjgjagbaaChecked
import Derived.Test.YtaggdlbjgjagbaaVPlO
namespace Go.Proofs.Ytaggdlbjgjagbaa
set_option linter.unusedSimpArgs false
set_option linter.unusedVariables false
open Go.V Go.RowKit Go.ChangeShapes Go.WideShapes

end Go.Proofs.Ytaggdlbjgjagbaa
