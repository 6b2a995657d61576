/-
  Slices of whole numbers, as Bs is for bytes. No program here.
-/
import Derived.Test.YtaggdlbjgjagbaaVMLaw1
namespace Go.V
set_option linter.unusedSimpArgs false
set_option linter.unusedVariables false
open Go.RowKit

def i64v (x : Int) : Value := .int .i64 x
def Is (F : Nat → Prop) (w : World) (v : Value) (xs : List Int) : Prop := Sl F w v xs.length (xs.map i64v)
theorem Is.up {F W : Nat → Prop} {w w' : World} {v : Value} {xs : List Int} (h : Is F w v xs) (e : Ext W w w') (hd : ∀ b, F b → ¬ W b) : Is F w' v xs := Sl.up h e hd
theorem Is.up0 {F : Nat → Prop} {w w' : World} {v : Value} {xs : List Int} (h : Is F w v xs) (e : Ext0 w w') : Is F w' v xs := Sl.up0 h e
theorem Is.nil {F : Nat → Prop} {w : World} : Is F w (.slice none 0 0) [] := Sl.nil
/-- The cell of a number. -/
theorem Is.cell {F : Nat → Prop} {w : World} {v : Value} {xs : List Int} (h : Is F w v xs) : ∃ ao cap, v = .slice ao xs.length cap ∧ xs.length ≤ cap ∧ cap ≤ 9223372036854775807 ∧
    (xs = [] ∨ ∃ b o, ao = some ⟨b, o, none⟩ ∧ F b ∧ ∀ i : Nat, i < xs.length → w.cell? ⟨b, o + i * 1, none⟩ = some (.int .i64 (xs.getD i 0))) := by
  obtain ⟨ao, cap, rfl, h1, h2, h3⟩ := h
  refine ⟨ao, cap, rfl, h1, by simpa [maxLen] using h2, ?_⟩
  rcases h3 with h3 | ⟨b, o, rfl, hF, hc⟩
  · exact .inl (by simpa using h3)
  · refine .inr ⟨b, o, rfl, hF, fun i hi => ?_⟩
    rw [Nat.mul_one]
    exact hc.get i _ (by simp [hi, i64v])
theorem Is.ofBlk {F : Nat → Prop} {w : World} {b E n cap : Nat} {xs : List Int} (h : Blk w b E (xs.map i64v)) (hF : F b) (hn : n = xs.length) (hc : n ≤ cap) (hm : cap ≤ 9223372036854775807) : Is F w (.slice (some ⟨b, 0, none⟩) n cap) xs := by
  subst hn
  exact ⟨_, _, rfl, hc, by simpa [maxLen] using hm, .inr ⟨b, 0, rfl, hF, h.cellsAll⟩⟩
theorem Is.src {P : Program} {F : Nat → Prop} {w : World} {v : Value} {xs : List Int} (h : Is F w v xs) : Src P 1 w v xs.length (xs.map i64v) :=
  Src.slice h (by simp) (by simp [i64v, oneC])
theorem Is.cut {F : Nat → Prop} {w : World} {ao : Option Addr} {cap : Nat} {xs : List Int} (h : Is F w (.slice ao xs.length cap) xs) (l k : Nat) (h1 : l ≤ k) (h2 : k ≤ xs.length) :
    Is F w (.slice (if cap = l then ao else ao.map (·.add (l * 1))) (k - l) (cap - l)) ((xs.drop l).take (k - l)) := by
  have hc := Sl.cut (s := 1) h (by simp) l k h1 h2
  unfold Is
  rw [show ((xs.drop l).take (k - l)).length = k - l from by simp; omega, List.map_take, List.map_drop]
  simpa only [Nat.mul_one] using hc
/-- A slice of numbers that came in. -/
theorem rowIs {w : World} {a : Option Addr} {len cap : Nat} {zs : List Int}
    (h : (a = none ∧ len = 0 ∧ cap = 0 ∧ zs = []) ∨ ∃ x, a = some x ∧ len ≤ cap ∧ cap ≤ maxLen ∧ zs.length = cap ∧ (∀ i, i < zs.length → w.cell? (x.add i) = some (.int .i64 (zs.getD i 0))) ∧ ∀ n ∈ zs, (Lit.int .i64 n).wf = true) :
    ∃ xs : List Int, Is (fun b => b < w.heap.size) w (.slice a len cap) xs ∧ xs.length = len ∧ ∀ n ∈ xs, (Lit.int .i64 n).wf = true := by
  rcases h with ⟨rfl, rfl, rfl, rfl⟩ | ⟨x, rfl, hl, hm, hz, hc, hw⟩
  · exact ⟨[], Is.nil, rfl, by simp⟩
  · refine ⟨zs.take len, ?_, by simp; omega, fun n hn => hw n (List.mem_of_mem_take hn)⟩
    refine ⟨some x, cap, by simp [hz, Nat.min_eq_left hl], by simp; omega, hm, ?_⟩
    by_cases h0 : len = 0
    · subst h0; exact .inl (by simp)
    · refine .inr ?_
      have hc0 := hc 0 (by omega)
      obtain ⟨b, o, sp⟩ := x
      have hsp : sp = none := by
        cases sp with
        | none => rfl
        | some s => exfalso; simp [World.cell?, Addr.add] at hc0; split at hc0 <;> simp at hc0
      subst hsp
      refine ⟨b, o, rfl, World.block_lt_of_cell? _ _ (hc 0 (by omega)), Cells.of fun j v hj => ?_⟩
      simp only [List.getElem?_map, List.getElem?_take] at hj
      by_cases hjl : j < len
      · rw [if_pos hjl, List.getElem?_eq_getElem (by omega)] at hj
        simp only [Option.map_some, Option.some.injEq] at hj
        have h1 := hc j (by omega)
        rw [List.getD_eq_getElem?_getD, List.getElem?_eq_getElem (by omega)] at h1
        rw [addr_add] at h1
        rw [← hj]
        exact h1
      · rw [if_neg hjl] at hj; simp at hj
end Go.V
