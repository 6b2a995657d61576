/-
  Plain mathematics of layer 4's requests. No program here.
-/
import Derived.Test.YtaggdlbjgjagbaaVMCmd
namespace Go.V
set_option linter.unusedSimpArgs false
set_option linter.unusedVariables false
open Go.RowKit

def mayReqM (c q k n : Int) (s : List UInt8) : Bool := (((decide (0 ≤ c) && decide (c < 8)) && decide (1 ≤ q)) && decide (q ≤ 2305843009213693952)) && mayM k n s
def reqL (c q k n : Int) (s : ByteArray) : List Value := [.int .i64 c, .int .i64 q, .int .i64 k, .int .i64 n, .string s]
def reqV (c q k n : Int) (s : ByteArray) : Value := .agg #[.int .i64 c, .int .i64 q, .int .i64 k, .int .i64 n, .string s]
theorem mayReq_all {c q k n : Int} {s : List UInt8} (h : mayReqM c q k n s = true) : 0 ≤ c ∧ c < 8 ∧ 1 ≤ q ∧ q ≤ 2305843009213693952 ∧ mayM k n s = true := by
  simp [mayReqM] at h
  exact ⟨h.1.1.1.1, h.1.1.1.2, h.1.1.2, h.1.2, h.2⟩
def putReqM (c q k n : Int) (s : List UInt8) : List UInt8 × Int := if mayReqM c q k n s then ([UInt8.ofNat c.toNat] ++ eight q.toNat ++ (putM k n s).1, 0) else ([], 1)
theorem putM_len (k n : Int) (s : List UInt8) : (putM k n s).1.length ≤ 22 := by
  unfold putM
  split
  · rename_i h
    have := (may_all h).2.2.2.2
    simp [eight_len]; omega
  · simp
def getReqM (xs : List UInt8) (at_ : Int) : (Int × Int × Int × Int × List UInt8) × Int × Int :=
  if (byteM xs at_).2.2 ≠ 0 then ((0, 0, 0, 0, []), 0, (byteM xs at_).2.2) else
  if (numM xs (byteM xs at_).2.1).2.2 ≠ 0 then ((0, 0, 0, 0, []), 0, (numM xs (byteM xs at_).2.1).2.2) else
  if (getM xs (numM xs (byteM xs at_).2.1).2.1).2.2 ≠ 0 then ((0, 0, 0, 0, []), 0, (getM xs (numM xs (byteM xs at_).2.1).2.1).2.2) else
  if mayReqM (byteM xs at_).1 (numM xs (byteM xs at_).2.1).1 (getM xs (numM xs (byteM xs at_).2.1).2.1).1.1 (getM xs (numM xs (byteM xs at_).2.1).2.1).1.2.1 (getM xs (numM xs (byteM xs at_).2.1).2.1).1.2.2 then
    (((byteM xs at_).1, (numM xs (byteM xs at_).2.1).1, (getM xs (numM xs (byteM xs at_).2.1).2.1).1), (getM xs (numM xs (byteM xs at_).2.1).2.1).2.1, 0)
  else ((0, 0, 0, 0, []), 0, 4)
theorem getM_len (xs : List UInt8) (at_ : Int) : (getM xs at_).1.2.2.length ≤ 255 := by
  have h := textM_len xs (numM xs (byteM xs at_).2.1).2.1 12
  unfold getM
  split
  · simp
  · split
    · simp
    · split
      · simp
      · split
        · exact h
        · simp
end Go.V
