/-
  Plain mathematics: names by numbers, commands by numbers. No program here.
-/
import Derived.Test.YtaggdlbjgjagbaaVMReq
namespace Go.V
set_option linter.unusedSimpArgs false
set_option linter.unusedVariables false
open Go.RowKit

def names6 : List (List UInt8) := [[97], [98], [99], [100], [107, 101, 121, 45, 49], [116, 104, 101, 45, 108, 97, 115, 116, 45, 111, 110, 101]]
def nameOf (m : Int) : ByteArray := ⟨(names6.getD (m % 6).toNat []).toArray⟩
theorem six (m : Int) (h : 0 ≤ m) : m % 6 = 0 ∨ m % 6 = 1 ∨ m % 6 = 2 ∨ m % 6 = 3 ∨ m % 6 = 4 ∨ m % 6 = 5 := by omega
theorem nameOf_ok (m : Int) (h : 0 ≤ m) : nameM (nameOf m).data.toList = true ∧ (nameOf m).size ≤ 12 := by
  unfold nameOf
  rcases six m h with h | h | h | h | h | h <;> rw [h] <;> decide +kernel
/-- A command that may be, by numbers. -/
def kindN (k : Int) : Int := 1 + k % 6
def sessN (k s : Int) : Int := if kindN k = 1 then 0 else 1 + s % 7
def nameN (k m : Int) : ByteArray := if kindN k = 3 ∨ kindN k = 4 ∨ kindN k = 5 then nameOf m else ⟨#[]⟩
theorem cmdN_may (k s m : Int) (hk : 0 ≤ k) (hs : 0 ≤ s) (hm : 0 ≤ m) : mayM (kindN k) (sessN k s) (nameN k m).data.toList = true := by
  have hn := nameOf_ok m hm
  have h6 := six k hk
  unfold sessN nameN
  rcases h6 with h | h | h | h | h | h <;> (unfold kindN; rw [h])
  · rw [if_pos (by decide), if_neg (by decide)]; rfl
  · rw [if_neg (by decide), if_neg (by decide)]
    rw [may_keep _ ⟨#[]⟩ (by decide)]; simp [highM]; omega
  · rw [if_neg (by decide), if_pos (by decide), may_lock _ _ (by decide), hn.1]; simp [highM]; omega
  · rw [if_neg (by decide), if_pos (by decide), may_lock _ _ (by decide), hn.1]; simp [highM]; omega
  · rw [if_neg (by decide), if_pos (by decide), may_lock _ _ (by decide), hn.1]; simp [highM]; omega
  · rw [if_neg (by decide), if_neg (by decide)]
    rw [may_keep _ ⟨#[]⟩ (by decide)]; simp [highM]; omega
theorem nameN_size (k m : Int) (hm : 0 ≤ m) : (nameN k m).size ≤ 12 := by
  unfold nameN
  split
  · exact (nameOf_ok m hm).2
  · decide

/-- A name, or none. -/
def nameB (b : Bool) (m : Int) : ByteArray := if b then nameOf m else ⟨#[]⟩
theorem nameB_size (b : Bool) (m : Int) (hm : 0 ≤ m) : (nameB b m).size ≤ 9223372036854775807 := by
  unfold nameB
  have := (nameOf_ok m hm).2
  split
  · omega
  · decide
theorem nameB_nil (b : Bool) (m : Int) (hm : 0 ≤ m) : decide (nameB b m = (ByteArray.mk #[])) = !b := by
  cases b
  · rfl
  · have hn : nameB true m = nameOf m := rfl
    rw [hn, ba_nil]
    have h := (nameOf_ok m hm).1
    have : (nameOf m).data.toList ≠ [] := by intro e; rw [e] at h; cases h
    simp only [Bool.not_true, decide_eq_false_iff_not]
    exact this
theorem nameB_name (b : Bool) (m : Int) (hm : 0 ≤ m) : nameM (nameB b m).data.toList = b := by
  cases b
  · rfl
  · exact (nameOf_ok m hm).1
theorem may_w1 {k : Int} (n : Int) (b : Bool) (m : Int) (hm : 0 ≤ m) (h : k = 1) : mayM k n (nameB b m).data.toList = (decide (n = 0) && !b) := by
  subst h; rw [may_one, nameB_nil b m hm]
theorem may_w2 {k : Int} (n : Int) (b : Bool) (m : Int) (hm : 0 ≤ m) (h : k = 2 ∨ k = 6) : mayM k n (nameB b m).data.toList = ((decide (1 ≤ n) && decide (n ≤ 2305843009213693952)) && !b) := by
  rw [may_keep n _ h, nameB_nil b m hm, highM]
theorem may_w3 {k : Int} (n : Int) (b : Bool) (m : Int) (hm : 0 ≤ m) (h : k = 3 ∨ k = 4 ∨ k = 5) : mayM k n (nameB b m).data.toList = ((decide (1 ≤ n) && decide (n ≤ 2305843009213693952)) && b) := by
  rw [may_lock n _ h, nameB_name b m hm, highM]
theorem may_w0 {k : Int} (n : Int) (b : Bool) (m : Int) (h : ¬ (1 ≤ k ∧ k ≤ 6)) : mayM k n (nameB b m).data.toList = false := may_out h
theorem putM_code (k n : Int) (s : List UInt8) : decide ((putM k n s).2 = 0) = mayM k n s := by
  unfold putM
  split
  · rename_i h; rw [h]; rfl
  · rename_i h
    have : mayM k n s = false := by simpa using h
    rw [this]; rfl
theorem putReqM_code (k n : Int) (s : List UInt8) : decide ((putReqM 0 1 k n s).2 = 0) = mayM k n s := by
  have h1 : mayReqM 0 1 k n s = mayM k n s := by simp [mayReqM]
  unfold putReqM
  rw [h1]
  split
  · rename_i h; rw [h]; rfl
  · rename_i h
    have : mayM k n s = false := by simpa using h
    rw [this]; rfl
theorem putReqM_8 (k n : Int) (s : List UInt8) : (putReqM 8 1 k n s).2 = 1 := by
  unfold putReqM
  rw [if_neg (by simp [mayReqM])]
theorem putReqM_0 (k n : Int) (s : List UInt8) : (putReqM 0 0 k n s).2 = 1 := by
  unfold putReqM
  rw [if_neg (by simp [mayReqM])]
end Go.V
