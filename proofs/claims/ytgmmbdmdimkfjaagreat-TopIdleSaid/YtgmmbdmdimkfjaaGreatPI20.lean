/-
  Pieces of the evaluation of awake. No statement of the claim stands here: the kernel evaluates
-/
import Derived.Test.YtgmmbdmdimkfjaaGreatPI15
namespace Go.Proofs.YtgmmbdmdimkfjaaGreat
set_option maxRecDepth 100000
theorem ck11 : chkE Tryz.prog en11 = true := by kernel_rfl
theorem ck12 : chkE Tryz.prog en12 = true := by kernel_rfl
theorem ck13 : chkE Tryz.prog en13 = true := by kernel_rfl
theorem ck14 : chkE Tryz.prog en14 = true := by kernel_rfl
theorem ck15 : chkE Tryz.prog en15 = true := by kernel_rfl
theorem ck16 : chkE Tryz.prog en16 = true := by kernel_rfl
theorem ck17 : chkE Tryz.prog en17 = true := by kernel_rfl
theorem ck18 : chkE Tryz.prog en18 = true := by kernel_rfl
theorem ck19 : chkE Tryz.prog en19 = true := by kernel_rfl
theorem ck20 : chkE Tryz.prog en20 = true := by kernel_rfl
theorem ck21 : chkE Tryz.prog en21 = true := by kernel_rfl
end Go.Proofs.YtgmmbdmdimkfjaaGreat
