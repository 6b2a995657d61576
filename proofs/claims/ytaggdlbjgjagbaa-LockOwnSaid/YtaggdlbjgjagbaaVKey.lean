/-
  Plain mathematics: lists that rise by a number of their things. No program here.
-/
import Derived.Test.YtaggdlbjgjagbaaVCmp
namespace Go.V
set_option linter.unusedSimpArgs false
set_option linter.unusedVariables false
open Go.RowKit

def cmpK (a b : Int) : Int := if a < b then -1 else if b < a then 1 else 0
theorem cmpK_neg {a b : Int} : cmpK a b < 0 ↔ a < b := by unfold cmpK; split <;> (try split) <;> omega
theorem cmpK_zero {a b : Int} : cmpK a b = 0 ↔ a = b := by unfold cmpK; split <;> (try split) <;> omega
section
variable {α : Type} {k : α → Int} {l : List α} {n : Int}
/-- By rising keys. -/
def UpK (k : α → Int) (l : List α) : Prop := ∀ (i j : Nat) (x y : α), i < j → l[i]? = some x → l[j]? = some y → k x < k y
theorem UpK.rising (h : UpK k l) (n : Int) : Rising (fun s => cmpK (k s) n) l := fun i j x y hij hx hy hc => by
  rw [cmpK_neg] at hc ⊢
  rcases Nat.lt_or_ge i j with h2 | h2
  · have := h i j x y h2 hx hy; omega
  · have : i = j := by omega
    subst this
    rw [hx] at hy
    cases hy
    exact hc
theorem UpK.nil : UpK k [] := fun i j x y _ h => by simp at h
theorem UpK.one (x : α) : UpK k [x] := fun i j a b hij ha hb => by
  have := (List.getElem?_eq_some_iff.1 hb).1
  simp at this
  omega
theorem UpK.of (h : l.Pairwise fun x y => k x < k y) : UpK k l := fun i j x y hij hx hy => by
  have hj := lt_of_get hy
  have hi := lt_of_get hx
  have := List.pairwise_iff_getElem.1 h i j hi hj hij
  rw [List.getElem?_eq_getElem hi] at hx
  rw [List.getElem?_eq_getElem hj] at hy
  cases hx; cases hy
  exact this
theorem UpK.pair (h : UpK k l) : l.Pairwise fun x y => k x < k y := List.pairwise_iff_getElem.2 fun i j hi hj hij => h i j _ _ hij (List.getElem?_eq_getElem hi) (List.getElem?_eq_getElem hj)
def atK (k : α → Int) (l : List α) (n : Int) : Nat := lowB (fun s => cmpK (k s) n) l
def inK (k : α → Int) (l : List α) (n : Int) : Bool := hitB (fun s => cmpK (k s) n) l
theorem atK_le (k : α → Int) (l : List α) (n : Int) : atK k l n ≤ l.length := lowB_le _ _
theorem findK_first {p : α → Bool} {i : Nat} {x : α} (hx : l[i]? = some x) (h : (l.take i).find? p = none) (hp : p x = true) : l.find? p = some x := by
  have hl := lt_of_get hx
  have e : l = l.take i ++ x :: l.drop (i + 1) := by
    have h1 : l[i] = x := by rw [List.getElem?_eq_getElem hl] at hx; exact Option.some.inj hx
    rw [← h1, List.getElem_cons_drop, List.take_append_drop]
  rw [e, List.find?_append, h]
  simp [hp]
theorem findK_snoc {p : α → Bool} {i : Nat} {x : α} (hx : l[i]? = some x) (h : (l.take i).find? p = none) (hp : p x = false) : (l.take (i + 1)).find? p = none := by
  rw [V.take_snoc hx, List.find?_append, h]
  simp [hp]
theorem lowK_spec (c : α → Int) (l : List α) : (∀ (k : Nat) (x : α), k < lowB c l → l[k]? = some x → c x < 0) ∧ (∀ x, l[lowB c l]? = some x → 0 ≤ c x) := by
  constructor
  · intro k x hk hx
    have hl := lt_of_get hx
    have := List.not_of_lt_findIdx (p := fun x => decide (0 ≤ c x)) (xs := l) (i := k) hk
    rw [List.getElem?_eq_getElem hl] at hx
    have e := Option.some.inj hx
    simp only [e, decide_eq_false_iff_not] at this
    simpa using this
  · intro x hx
    have hl := lt_of_get hx
    have := List.findIdx_getElem (p := fun x => decide (0 ≤ c x)) (xs := l) (w := hl)
    rw [List.getElem?_eq_getElem hl] at hx
    have e : l[l.findIdx (fun x => decide (0 ≤ c x))]'hl = x := Option.some.inj hx
    have h3 : decide (0 ≤ c (l[l.findIdx (fun x => decide (0 ≤ c x))]'hl)) = true := this
    rw [e] at h3
    simpa using h3
def isK (k : α → Int) (n : Int) (s : α) : Bool := decide (k s = n)
theorem isK_iff {s : α} : isK k n s = true ↔ k s = n := by simp [isK]
/-- Where a key stands, if it is there. -/
theorem findK_place (hup : UpK k l) : (inK k l n = true ∧ ∃ s, l[atK k l n]? = some s ∧ k s = n ∧ l.find? (isK k n) = some s) ∨ (inK k l n = false ∧ l.find? (isK k n) = none ∧ ∀ s ∈ l, k s ≠ n) := by
  obtain ⟨h1, h2⟩ := lowK_spec (fun s => cmpK (k s) n) l
  cases hin : inK k l n
  · right
    have hall : ∀ s ∈ l, k s ≠ n := by
      intro s hs he
      obtain ⟨j, hk⟩ := List.mem_iff_getElem?.1 hs
      have hkl := lt_of_get hk
      rcases Nat.lt_trichotomy j (atK k l n) with h | h | h
      · have := cmpK_neg.1 (h1 j s h hk); omega
      · rw [inK, hitB] at hin
        rw [h, atK] at hk
        rw [hk] at hin
        have : ¬ cmpK (k s) n = 0 := by simpa using hin
        exact this (cmpK_zero.2 he)
      · obtain ⟨y, hy⟩ := get_of_lt (show atK k l n < l.length by omega)
        have hy2 := h2 y hy
        have h3 := hup (atK k l n) j y s h hy hk
        have h4 : ¬ k y < n := fun h => by have := cmpK_neg.2 h; omega
        omega
    exact ⟨rfl, List.find?_eq_none.2 (fun s hs => by simpa [isK] using hall s hs), hall⟩
  · left
    rw [inK, hitB] at hin
    cases hx : l[lowB (fun s => cmpK (k s) n) l]? with
    | none => rw [hx] at hin; cases hin
    | some s =>
      rw [hx] at hin
      have hc : k s = n := cmpK_zero.1 (by simpa using hin)
      refine ⟨rfl, s, hx, hc, findK_first hx (List.find?_eq_none.2 fun x hq => ?_) (isK_iff.2 hc)⟩
      obtain ⟨j, hj, hjx⟩ := List.mem_take_iff_getElem.1 hq
      have := cmpK_neg.1 (h1 j x (by omega) (by rw [← hjx, List.getElem?_eq_getElem]))
      rw [isK_iff]
      omega
theorem partK_in {s : α} (h : UpK k l) (hs : l[atK k l n]? = some s) (hc : k s = n) : (∀ x ∈ l.take (atK k l n), k x < n) ∧ (∀ x ∈ l.drop (atK k l n + 1), n < k x) := by
  constructor
  · intro x hx
    obtain ⟨j, hk⟩ := List.mem_iff_getElem?.1 hx
    rw [List.getElem?_take] at hk
    split at hk
    · rename_i hk1
      exact hc ▸ h j (atK k l n) x s hk1 hk hs
    · cases hk
  · intro x hx
    obtain ⟨j, hk⟩ := List.mem_iff_getElem?.1 hx
    rw [List.getElem?_drop] at hk
    exact hc ▸ h (atK k l n) (atK k l n + 1 + j) s x (by omega) hs hk
theorem partK_out (h : UpK k l) (hno : ∀ s ∈ l, k s ≠ n) : (∀ x ∈ l.take (atK k l n), k x < n) ∧ (∀ x ∈ l.drop (atK k l n), n < k x) := by
  obtain ⟨h1, h2⟩ := lowK_spec (fun s => cmpK (k s) n) l
  constructor
  · intro x hx
    obtain ⟨j, hk⟩ := List.mem_iff_getElem?.1 hx
    rw [List.getElem?_take] at hk
    split at hk
    · rename_i hk1
      exact cmpK_neg.1 (h1 j x hk1 hk)
    · cases hk
  · intro x hx
    obtain ⟨j, hk⟩ := List.mem_iff_getElem?.1 hx
    rw [List.getElem?_drop] at hk
    have hl := lt_of_get hk
    obtain ⟨y, hy⟩ := get_of_lt (show atK k l n < l.length by omega)
    have h3 := h2 y hy
    have h4 : ¬ k y < n := fun h => by have := cmpK_neg.2 h; omega
    have h5 := hno x (List.mem_of_getElem? hk)
    have h6 := hno y (List.mem_of_getElem? hy)
    by_cases e : j = 0
    · subst e
      rw [Nat.add_zero] at hk
      rw [hk] at hy
      cases hy
      omega
    · have := h (atK k l n) (atK k l n + j) y x (by omega) hy hk
      omega
end
end Go.V
