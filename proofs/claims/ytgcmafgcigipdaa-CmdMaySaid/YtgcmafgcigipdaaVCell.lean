/-
  Rules: a struct that is the one result; texts joined and cut. No statement of the claim stands here.
-/
import Derived.Test.YtgcmafgcigipdaaVGrow
namespace Go.V
set_option linter.unusedSimpArgs false
set_option linter.unusedVariables false
open Go.RowKit

theorem retC1 {P : Program} {fn : Func} {R : Ending → World → Prop} {ρ : Env} {w : World} {s0 T0 p n : Nat} {cs : List Value} (h : fn.results = #[.cell s0 T0]) (h0 : ρ s0 = .pointer (some ⟨p, 0, none⟩))
    (hT : ∀ w, (isAgg T0).run P w = .ok true w) (hs : ∀ w, (sizeOf T0).run P w = .ok n w) (hc : Cells w p 0 cs) (hl : cs.length = n) (hR : R (.returned (.agg cs.toArray)) w) : bodyE P fn R .ret ρ w := by
  refine ⟨_, fun tmps ht => ?_, hR⟩
  have e0 := (ht s0).trans h0
  have := run_loadCells_list (P := P) w ⟨p, 0, none⟩ cs (fun j u hu => by rw [addr_add]; exact hc.get j u hu)
  rw [hl] at this
  unfold loadCells at this
  simp only [Array.getD_eq_getD_getElem?] at e0
  simp [results, h, e0, asAddr, loadVar, hT, hs, this, go_sem]
end Go.V
