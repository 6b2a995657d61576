/-
  Plain mathematics of layer 4: names, commands, requests. No program here.
-/
import Derived.Test.YtaggdlbjgjagbaaVMLaw1
namespace Go.V
set_option linter.unusedSimpArgs false
set_option linter.unusedVariables false
open Go.RowKit

/-- A sign of a name. -/
def isN (c : UInt8) : Bool := (decide (97 ≤ c.toNat) && decide (c.toNat ≤ 122)) || (decide (48 ≤ c.toNat) && decide (c.toNat ≤ 57)) || decide (c.toNat = 45)
theorem isN_t {c : UInt8} (h : (97 ≤ c.toNat ∧ c.toNat ≤ 122) ∨ (48 ≤ c.toNat ∧ c.toNat ≤ 57) ∨ c.toNat = 45) : isN c = true := by
  simp [isN]; omega
theorem isN_f {c : UInt8} (h : ¬ ((97 ≤ c.toNat ∧ c.toNat ≤ 122) ∨ (48 ≤ c.toNat ∧ c.toNat ≤ 57) ∨ c.toNat = 45)) : isN c = false := by
  rw [Bool.eq_false_iff]; intro h2; simp [isN] at h2; omega
def nameM (s : List UInt8) : Bool := decide (1 ≤ s.length) && decide (s.length ≤ 12) && s.all isN
def namedM (k : Int) : Bool := decide (k = 3) || decide (k = 4) || decide (k = 5)
def highM (v least : Int) : Bool := decide (least ≤ v) && decide (v ≤ 2305843009213693952)
/-- May a command be? -/
def mayM (k n : Int) (s : List UInt8) : Bool :=
  if k < 1 ∨ 6 < k then false else
  if namedM k then highM n 1 && nameM s else
  if s ≠ [] then false else
  if k = 1 then decide (n = 0) else highM n 1
def cmdL (k n : Int) (s : ByteArray) : List Value := [.int .i64 k, .int .i64 n, .string s]
def cmdV (k n : Int) (s : ByteArray) : Value := .agg #[.int .i64 k, .int .i64 n, .string s]
theorem nameM_len (s : List UInt8) : (decide (1 ≤ (s.length : Int)) && decide ((s.length : Int) ≤ 12)) = (decide (1 ≤ s.length) && decide (s.length ≤ 12)) := by
  rw [Bool.eq_iff_iff]; simp; omega
theorem flat_succ (xss : List (List UInt8)) (i : Nat) (h : i < xss.length) : (xss.take (i + 1)).flatten = (xss.take i).flatten ++ xss.getD i [] ∧ (xss.take i).flatten.length + (xss.getD i []).length ≤ xss.flatten.length := by
  have h1 : (xss.take (i + 1)).flatten = (xss.take i).flatten ++ xss.getD i [] := by
    rw [List.take_succ_eq_append_getElem h, List.flatten_append, List.getD_eq_getElem?_getD, List.getElem?_eq_getElem h]
    simp only [List.flatten_cons, List.flatten_nil, List.append_nil, Option.getD_some]
  refine ⟨h1, ?_⟩
  have h2 : xss.flatten = (xss.take (i + 1)).flatten ++ (xss.drop (i + 1)).flatten := by rw [← List.flatten_append, List.take_append_drop]
  rw [h2, h1]
  simp only [List.length_append]
  omega
theorem all_snoc (s : List UInt8) (i : Nat) (h : i < s.length) (p : UInt8 → Bool) : (s.take (i + 1)).all p = ((s.take i).all p && p (s.getD i 0)) := by
  rw [List.take_succ_eq_append_getElem h, List.all_append]
  simp [List.getD_eq_getElem?_getD, List.getElem?_eq_getElem h]
theorem all_cut (s : List UInt8) (i : Nat) (h : i < s.length) (p : UInt8 → Bool) (hf : p (s.getD i 0) = false) : s.all p = false := by
  have : s = s.take (i + 1) ++ s.drop (i + 1) := (List.take_append_drop _ _).symm
  rw [this, List.all_append, all_snoc s i h p, hf]
  simp
theorem ba_get (s : ByteArray) (i : Nat) : s.data.toList.getD i 0 = s.data.getD i 0 := by
  simp [List.getD_eq_getElem?_getD, Array.getD_eq_getD_getElem?]
theorem ba_nil (s : ByteArray) : decide (s = (ByteArray.mk #[])) = decide (s.data.toList = []) := by
  rw [decide_eq_decide]
  constructor
  · rintro rfl; rfl
  · intro h; cases s with | mk d => simp at h; rw [h]
theorem ba_nil' (s : ByteArray) : s = (ByteArray.mk #[]) ↔ s.data.toList = [] := by
  constructor
  · rintro rfl; rfl
  · intro h; cases s with | mk d => simp at h; rw [h]
theorem may_out {k n : Int} {s : ByteArray} (h : ¬ (1 ≤ k ∧ k ≤ 6)) : mayM k n s.data.toList = false := by
  rw [mayM, if_pos (by omega)]
theorem may_bad {k n : Int} {s : ByteArray} (h1 : ¬ k < 1 ∧ ¬ 6 < k) (h : namedM k = true ∧ nameM s.data.toList = false ∨ namedM k = false ∧ ¬ s = (ByteArray.mk #[])) : mayM k n s.data.toList = false := by
  rw [mayM, if_neg (by omega)]
  rcases h with ⟨h2, h3⟩ | ⟨h2, h3⟩
  · rw [if_pos h2, h3, Bool.and_false]
  · rw [if_neg (by rw [h2]; decide), if_pos (fun e => h3 ((ba_nil' s).2 e))]
theorem may_open {k n : Int} {s : ByteArray} (h : (namedM k = false ∨ nameM s.data.toList = true) ∧ (namedM k = true ∨ s = (ByteArray.mk #[]))) (hk : k = 1) : mayM k n s.data.toList = decide (n = 0) := by
  subst hk
  have hs := (ba_nil' s).1 (h.2.resolve_left (by decide))
  rw [mayM, if_neg (by omega), if_neg (by decide), if_neg (by rw [hs]; simp), if_pos rfl]
theorem may_high {k n : Int} {s : ByteArray} (h1 : ¬ k < 1 ∧ ¬ 6 < k) (h : (namedM k = false ∨ nameM s.data.toList = true) ∧ (namedM k = true ∨ s = (ByteArray.mk #[]))) (hk : ¬ k = 1) : mayM k n s.data.toList = highM n 1 := by
  rw [mayM, if_neg (by omega)]
  by_cases hn : namedM k = true
  · rw [if_pos hn, h.1.resolve_left (by rw [hn]; decide), Bool.and_true]
  · have hs := (ba_nil' s).1 (h.2.resolve_left hn)
    rw [if_neg hn, if_neg (by rw [hs]; simp), if_neg hk]
theorem may_one (n : Int) (s : ByteArray) : mayM 1 n s.data.toList = (decide (n = 0) && decide (s = (ByteArray.mk #[]))) := by
  rw [ba_nil, mayM, if_neg (by omega), if_neg (by decide)]
  by_cases h : s.data.toList = []
  · rw [if_neg (by rw [h]; simp), if_pos rfl, h]; simp
  · rw [if_pos h]; simp [h]
theorem may_keep {k : Int} (n : Int) (s : ByteArray) (h : k = 2 ∨ k = 6) : mayM k n s.data.toList = (highM n 1 && decide (s = (ByteArray.mk #[]))) := by
  rw [ba_nil, mayM, if_neg (by omega), if_neg (by rcases h with rfl | rfl <;> decide)]
  by_cases h2 : s.data.toList = []
  · rw [if_neg (by rw [h2]; simp), if_neg (by omega), h2]; simp
  · rw [if_pos h2]; simp [h2]
theorem may_lock {k : Int} (n : Int) (s : ByteArray) (h : k = 3 ∨ k = 4 ∨ k = 5) : mayM k n s.data.toList = (highM n 1 && nameM s.data.toList) := by
  rw [mayM, if_neg (by omega), if_pos (by rcases h with rfl | rfl | rfl <;> decide)]
theorem may_all {k n : Int} {s : List UInt8} (h : mayM k n s = true) : 1 ≤ k ∧ k ≤ 6 ∧ 0 ≤ n ∧ n < 4611686018427387904 ∧ s.length ≤ 12 := by
  unfold mayM at h
  split at h
  · cases h
  · split at h
    · simp [highM, nameM] at h; omega
    · split at h
      · cases h
      · rename_i h1 h2 h3
        have h3' : s = [] := by simpa using h3
        subst h3'
        split at h <;> simp [highM] at h <;> simp <;> omega
/-- What a command is put as. -/
def putM (k n : Int) (s : List UInt8) : List UInt8 × Int := if mayM k n s then ([UInt8.ofNat k.toNat] ++ eight n.toNat ++ (UInt8.ofNat s.length :: s), 0) else ([], 1)
theorem textM_len (xs : List UInt8) (at_ most : Int) : (textM xs at_ most).1.length ≤ 255 := by
  unfold textM
  split
  · simp
  · split
    · simp
    · split
      · rw [List.length_take]
        have : (byteM xs at_).1.toNat ≤ 255 := by
          unfold byteM
          split
          · have := UInt8.toNat_lt (xs.getD at_.toNat 0); simp only []; omega
          · simp
        omega
      · simp
/-- What bytes are read as. -/
def getM (xs : List UInt8) (at_ : Int) : (Int × Int × List UInt8) × Int × Int :=
  if (byteM xs at_).2.2 ≠ 0 then ((0, 0, []), 0, (byteM xs at_).2.2) else
  if (numM xs (byteM xs at_).2.1).2.2 ≠ 0 then ((0, 0, []), 0, (numM xs (byteM xs at_).2.1).2.2) else
  if (textM xs (numM xs (byteM xs at_).2.1).2.1 12).2.2 ≠ 0 then ((0, 0, []), 0, (textM xs (numM xs (byteM xs at_).2.1).2.1 12).2.2) else
  if mayM (byteM xs at_).1 (numM xs (byteM xs at_).2.1).1 (textM xs (numM xs (byteM xs at_).2.1).2.1 12).1 then
    (((byteM xs at_).1, (numM xs (byteM xs at_).2.1).1, (textM xs (numM xs (byteM xs at_).2.1).2.1 12).1), (textM xs (numM xs (byteM xs at_).2.1).2.1 12).2.1, 0)
  else ((0, 0, []), 0, 4)
end Go.V
