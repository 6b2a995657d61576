/-
  A place in a row that rises, found by halves. No program here.
-/
import Derived.Test.YtaggdlbjgjagbaaVMin
namespace Go.V
set_option linter.unusedSimpArgs false
set_option linter.unusedVariables false
open Go.RowKit
/-- A function value that compares an element with a target. -/
def CmpF {α : Type} (P : Program) (fv : Value) (val : α → Value) (tv : Value) (c : α → Int) : Prop :=
  ∃ f fs cs, fv = .func (.func f) fs.toArray cs.toArray ∧ (∀ (l : Array Value) w, (callFunc f l).run P w = .ok (.enter f l) w) ∧ ∀ x w, Calls P f (fs ++ [val x, tv] ++ cs).toArray w fun e w' => e = .returned (.int .i64 (c x)) ∧ Ext0 w w'
def lowB {α : Type} (c : α → Int) (xs : List α) : Nat := xs.findIdx fun x => decide (0 ≤ c x)
def hitB {α : Type} (c : α → Int) (xs : List α) : Bool := match xs[lowB c xs]? with
  | some x => decide (c x = 0)
  | none => false
theorem lowB_eq {α : Type} {c : α → Int} : ∀ {xs : List α} {i : Nat}, i ≤ xs.length → (∀ (k : Nat) (x : α), k < i → xs[k]? = some x → c x < 0) → (∀ (k : Nat) (x : α), i ≤ k → xs[k]? = some x → 0 ≤ c x) → lowB c xs = i
  | [], i, hi, _, _ => by simp at hi; subst hi; rfl
  | a :: t, 0, _, _, h2 => by
    have := h2 0 a (by omega) rfl
    simp [lowB, List.findIdx_cons, this]
  | a :: t, i + 1, hi, h1, h2 => by
    have ha := h1 0 a (by omega) rfl
    have ih := lowB_eq (c := c) (xs := t) (i := i) (by simpa using hi) (fun k x hk hx => h1 (k + 1) x (by omega) (by simpa using hx)) (fun k x hk hx => h2 (k + 1) x (by omega) (by simpa using hx))
    rw [lowB] at ih ⊢
    rw [List.findIdx_cons, ih]
    simp [show ¬ 0 ≤ c a from by omega]
theorem lowB_le {α : Type} (c : α → Int) (xs : List α) : lowB c xs ≤ xs.length := List.findIdx_le_length
def Rising {α : Type} (c : α → Int) (xs : List α) : Prop := ∀ (i j : Nat) (x y : α), i ≤ j → xs[i]? = some x → xs[j]? = some y → c y < 0 → c x < 0
end Go.V
