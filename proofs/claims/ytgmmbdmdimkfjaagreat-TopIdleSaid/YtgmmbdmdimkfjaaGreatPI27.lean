/-
  Pieces of the evaluation of idle replicas. No statement of the claim stands here: the kernel evaluates
-/
import Derived.Test.YtgmmbdmdimkfjaaGreatPI22
namespace Go.Proofs.YtgmmbdmdimkfjaaGreat
set_option maxRecDepth 100000
open Go.V
theorem hs7_0_6 : okSts (evO Tryz.prog allO) 7 0 (twoOf (states 7 0) 6) = true := by kernel_rfl
theorem hs7_0_7 : okSts (evO Tryz.prog allO) 7 0 (twoOf (states 7 0) 7) = true := by kernel_rfl
theorem hs7_0_8 : okSts (evO Tryz.prog allO) 7 0 (twoOf (states 7 0) 8) = true := by kernel_rfl
theorem hs7_0_9 : okSts (evO Tryz.prog allO) 7 0 (twoOf (states 7 0) 9) = true := by kernel_rfl
theorem hs7_0_10 : okSts (evO Tryz.prog allO) 7 0 (twoOf (states 7 0) 10) = true := by kernel_rfl
theorem hs7_0_11 : okSts (evO Tryz.prog allO) 7 0 (twoOf (states 7 0) 11) = true := by kernel_rfl
end Go.Proofs.YtgmmbdmdimkfjaaGreat
