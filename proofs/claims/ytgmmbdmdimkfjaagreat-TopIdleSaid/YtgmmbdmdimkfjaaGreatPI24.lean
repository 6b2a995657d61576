/-
  Pieces of the evaluation of idle replicas. No statement of the claim stands here: the kernel evaluates
-/
import Derived.Test.YtgmmbdmdimkfjaaGreatPI22
namespace Go.Proofs.YtgmmbdmdimkfjaaGreat
set_option maxRecDepth 100000
open Go.V
theorem hs1_0 : okSts (evO Tryz.prog allO) 1 0 (states 1 0) = true := by kernel_rfl
theorem hs3_0_0 : okSts (evO Tryz.prog allO) 3 0 (twoOf (states 3 0) 0) = true := by kernel_rfl
theorem hs3_0_1 : okSts (evO Tryz.prog allO) 3 0 (twoOf (states 3 0) 1) = true := by kernel_rfl
theorem hs3_1 : okSts (evO Tryz.prog allO) 3 1 (states 3 1) = true := by kernel_rfl
theorem hs3_2 : okSts (evO Tryz.prog allO) 3 2 (states 3 2) = true := by kernel_rfl
theorem hs5_0_0 : okSts (evO Tryz.prog allO) 5 0 (twoOf (states 5 0) 0) = true := by kernel_rfl
theorem hs5_0_1 : okSts (evO Tryz.prog allO) 5 0 (twoOf (states 5 0) 1) = true := by kernel_rfl
theorem hs5_0_2 : okSts (evO Tryz.prog allO) 5 0 (twoOf (states 5 0) 2) = true := by kernel_rfl
theorem hs5_0_3 : okSts (evO Tryz.prog allO) 5 0 (twoOf (states 5 0) 3) = true := by kernel_rfl
theorem hs5_1 : okSts (evO Tryz.prog allO) 5 1 (states 5 1) = true := by kernel_rfl
theorem hs5_2 : okSts (evO Tryz.prog allO) 5 2 (states 5 2) = true := by kernel_rfl
theorem hs5_3 : okSts (evO Tryz.prog allO) 5 3 (states 5 3) = true := by kernel_rfl
theorem hs5_4 : okSts (evO Tryz.prog allO) 5 4 (states 5 4) = true := by kernel_rfl
end Go.Proofs.YtgmmbdmdimkfjaaGreat
