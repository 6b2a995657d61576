/-
  Pieces of the evaluation of idle replicas. No statement of the claim stands here: the kernel evaluates
-/
import Derived.Test.YtgmmbdmdimkfjaaGreatPI22
namespace Go.Proofs.YtgmmbdmdimkfjaaGreat
set_option maxRecDepth 100000
open Go.V
theorem hs7_1 : okSts (evO Tryz.prog allO) 7 1 (states 7 1) = true := by kernel_rfl
theorem hs7_2 : okSts (evO Tryz.prog allO) 7 2 (states 7 2) = true := by kernel_rfl
theorem hs7_3 : okSts (evO Tryz.prog allO) 7 3 (states 7 3) = true := by kernel_rfl
theorem hs7_4 : okSts (evO Tryz.prog allO) 7 4 (states 7 4) = true := by kernel_rfl
theorem hs7_5 : okSts (evO Tryz.prog allO) 7 5 (states 7 5) = true := by kernel_rfl
theorem hs7_6 : okSts (evO Tryz.prog allO) 7 6 (states 7 6) = true := by kernel_rfl
theorem hNew : ([(1, 1), (3, 3), (5, 5), (7, 7)] : List (Nat × Nat)).all (fun p => (upTo p.2).all fun i => okNew (evO Tryz.prog noneO) p.1 i factsC) = true := by kernel_rfl
end Go.Proofs.YtgmmbdmdimkfjaaGreat
