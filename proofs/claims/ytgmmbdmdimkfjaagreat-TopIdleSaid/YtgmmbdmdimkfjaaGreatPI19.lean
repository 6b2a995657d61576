/-
  Pieces of the evaluation of awake. No statement of the claim stands here: the kernel evaluates
-/
import Derived.Test.YtgmmbdmdimkfjaaGreatPI15
namespace Go.Proofs.YtgmmbdmdimkfjaaGreat
set_option maxRecDepth 100000
theorem ck8 : chkE Tryz.prog en8 = true := by kernel_rfl
theorem ck9 : chkE Tryz.prog en9 = true := by kernel_rfl
theorem ck10 : chkE Tryz.prog en10 = true := by kernel_rfl
end Go.Proofs.YtgmmbdmdimkfjaaGreat
