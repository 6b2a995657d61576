/-
  Pieces of the evaluation of awake. No statement of the claim stands here: the kernel evaluates
-/
import Derived.Test.YtgmmbdmdimkfjaaGreatPI15
namespace Go.Proofs.YtgmmbdmdimkfjaaGreat
set_option maxRecDepth 100000
theorem ck5 : chkE Tryz.prog en5 = true := by kernel_rfl
theorem ck6 : chkE Tryz.prog en6 = true := by kernel_rfl
theorem ck7 : chkE Tryz.prog en7 = true := by kernel_rfl
end Go.Proofs.YtgmmbdmdimkfjaaGreat
