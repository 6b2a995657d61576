/-
  What a slice of bytes that came in is to the walks: a list of bytes.
-/
import Derived.Test.YtaggdlbjgjagbaaVMOctet
namespace Go.V
set_option linter.unusedSimpArgs false
set_option linter.unusedVariables false
open Go.RowKit

theorem rowBs {w : World} {a : Option Addr} {len cap : Nat} {zs : List Int}
    (h : (a = none ∧ len = 0 ∧ cap = 0 ∧ zs = []) ∨ ∃ x, a = some x ∧ len ≤ cap ∧ cap ≤ maxLen ∧ zs.length = cap ∧ (∀ i, i < zs.length → w.cell? (x.add i) = some (.int .u8 (zs.getD i 0))) ∧ ∀ n ∈ zs, (Lit.int .u8 n).wf = true) :
    ∃ xs : List UInt8, Bs (fun b => b < w.heap.size) w (.slice a len cap) xs ∧ xs.length = len := by
  rcases h with ⟨rfl, rfl, rfl, rfl⟩ | ⟨x, rfl, hl, hm, hz, hc, hw⟩
  · exact ⟨[], Bs.nil, rfl⟩
  · refine ⟨(zs.take len).map (fun n => UInt8.ofNat n.toNat), ?_, by simp; omega⟩
    refine ⟨some x, cap, by simp [hz, Nat.min_eq_left hl], by simp; omega, hm, ?_⟩
    by_cases h0 : len = 0
    · subst h0; exact .inl (by simp)
    · refine .inr ?_
      have hc0 := hc 0 (by omega)
      obtain ⟨b, o, sp⟩ := x
      have hsp : sp = none := by
        cases sp with
        | none => rfl
        | some s => exfalso; simp [World.cell?, Addr.add] at hc0; split at hc0 <;> simp at hc0
      subst hsp
      refine ⟨b, o, rfl, World.block_lt_of_cell? _ _ (hc 0 (by omega)), Cells.of fun j v hj => ?_⟩
      simp only [List.map_map, List.getElem?_map, List.getElem?_take] at hj
      by_cases hjl : j < len
      · rw [if_pos hjl, List.getElem?_eq_getElem (by omega)] at hj
        simp only [Option.map_some, Option.some.injEq, Function.comp_apply] at hj
        have h1 := hc j (by omega)
        rw [List.getD_eq_getElem?_getD, List.getElem?_eq_getElem (by omega)] at h1
        have h2 := hw _ (List.getElem_mem (l := zs) (n := j) (by omega))
        have h3 : 0 ≤ zs[j]'(by omega) ∧ zs[j]'(by omega) < 256 := by
          simp [Lit.wf, IntKind.min, IntKind.max, IntKind.bits, IntKind.signed] at h2; omega
        rw [show b = (⟨b, o, none⟩ : Addr).block from rfl]
        have h4 : v = .int .u8 (zs[j]'(by omega)) := by
          rw [← hj]; simp [u8v]; omega
        rw [h4]
        rw [addr_add] at h1
        exact h1
      · rw [if_neg hjl] at hj; simp at hj

theorem ba_inj (xs ys : List UInt8) : decide ((⟨xs.toArray⟩ : ByteArray) = ⟨ys.toArray⟩) = decide (xs = ys) := by
  rw [decide_eq_decide]
  constructor
  · intro h; injection h with h; simpa using h
  · rintro rfl; rfl
theorem ba_list (s : ByteArray) : (⟨s.data.toList.toArray⟩ : ByteArray) = s := by cases s; simp
end Go.V
