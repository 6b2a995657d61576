/-
  Pieces of the evaluation of idle replicas. No statement of the claim stands here: the kernel evaluates
-/
import Derived.Test.YtgmmbdmdimkfjaaGreatPI22
namespace Go.Proofs.YtgmmbdmdimkfjaaGreat
set_option maxRecDepth 100000
open Go.V
theorem hs7_0_0 : okSts (evO Tryz.prog allO) 7 0 (twoOf (states 7 0) 0) = true := by kernel_rfl
theorem hs7_0_1 : okSts (evO Tryz.prog allO) 7 0 (twoOf (states 7 0) 1) = true := by kernel_rfl
theorem hs7_0_2 : okSts (evO Tryz.prog allO) 7 0 (twoOf (states 7 0) 2) = true := by kernel_rfl
theorem hs7_0_3 : okSts (evO Tryz.prog allO) 7 0 (twoOf (states 7 0) 3) = true := by kernel_rfl
theorem hs7_0_4 : okSts (evO Tryz.prog allO) 7 0 (twoOf (states 7 0) 4) = true := by kernel_rfl
theorem hs7_0_5 : okSts (evO Tryz.prog allO) 7 0 (twoOf (states 7 0) 5) = true := by kernel_rfl
end Go.Proofs.YtgmmbdmdimkfjaaGreat
