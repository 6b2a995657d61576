/-
  Pieces of the evaluation of awake. No statement of the claim stands here: the kernel evaluates
-/
import Derived.Test.YtgmmbdmdimkfjaaGreatPI15
namespace Go.Proofs.YtgmmbdmdimkfjaaGreat
set_option maxRecDepth 100000
theorem ck0 : chkE Tryz.prog en0 = true := by kernel_rfl
theorem ck1 : chkE Tryz.prog en1 = true := by kernel_rfl
theorem ck2 : chkE Tryz.prog en2 = true := by kernel_rfl
theorem ck3 : chkE Tryz.prog en3 = true := by kernel_rfl
theorem ck4 : chkE Tryz.prog en4 = true := by kernel_rfl
end Go.Proofs.YtgmmbdmdimkfjaaGreat
