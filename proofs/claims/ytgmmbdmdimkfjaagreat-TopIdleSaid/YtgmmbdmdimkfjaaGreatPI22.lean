/-
  The evaluation of idle replicas: what is evaluated by itself. No statement of the claim stands here: the kernel evaluates
-/
import Derived.Test.YtgmmbdmdimkfjaaGreatPI13
import Derived.Test.YtgmmbdmdimkfjaaGreatPI14
namespace Go.Proofs.YtgmmbdmdimkfjaaGreat
set_option linter.unusedVariables false
open Go.V
/-- The evaluation, with calls that are looked up. -/
def evO (P : Program) (O : Caller) : Caller := (execO O P plansF (funF P) maskF 200).2
end Go.Proofs.YtgmmbdmdimkfjaaGreat
