/-
  Pieces of the evaluation of idle replicas. No statement of the claim stands here: the kernel evaluates
-/
import Derived.Test.YtgmmbdmdimkfjaaGreatPI22
namespace Go.Proofs.YtgmmbdmdimkfjaaGreat
set_option maxRecDepth 100000
open Go.V
theorem hNums : numsE.all (chkF (evO Tryz.prog noneO)) = true := by kernel_rfl
theorem hMays : maysE.all (chkF (evO Tryz.prog noneO)) = true := by kernel_rfl
theorem hPuts0 : (putsE.take 5).all (chkF (evO Tryz.prog (memo numsE))) = true := by kernel_rfl
theorem hPuts1 : (putsE.drop 5).all (chkF (evO Tryz.prog (memo numsE))) = true := by kernel_rfl
theorem hGets0 : (getsE.take 5).all (chkF (evO Tryz.prog (byF 230 (memo putsE) noneO))) = true := by kernel_rfl
theorem hGets1 : (getsE.drop 5).all (chkF (evO Tryz.prog (byF 230 (memo putsE) noneO))) = true := by kernel_rfl
theorem hMakes0 : (makesE.take 3).all (chkF (evO Tryz.prog noneO)) = true := by kernel_rfl
theorem hMakes1 : (makesE.drop 3).all (chkF (evO Tryz.prog noneO)) = true := by kernel_rfl
theorem hConf : ([1, 3, 5, 7] : List Nat).all (fun R => okPure (evO Tryz.prog noneO) 36 [.agg (confA R)] factsC [.bex (.leq (.sym 2) (.lit 200))]) = true := by kernel_rfl
theorem hBehind : ([1, 3, 5, 7] : List Nat).all (fun R => okPure (evO Tryz.prog noneO) 29 [.agg (confA R), nl] factsC [zeroSnap]) = true := by kernel_rfl
theorem hSnap : okPure (evO Tryz.prog noneO) 28 [zeroSnap, zeroSnap] [] [.bool true] = true := by kernel_rfl
theorem hSame : okPure (evO Tryz.prog noneO) 24 [.agg zeroS, .agg zeroS] [] [.bool true] = true := by kernel_rfl
end Go.Proofs.YtgmmbdmdimkfjaaGreat
