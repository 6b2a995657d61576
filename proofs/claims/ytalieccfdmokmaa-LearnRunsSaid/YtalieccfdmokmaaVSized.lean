/-
  How long a list that comes in can be: the reach of an argument. No program here.
-/
import Derived.Test.YtalieccfdmokmaaVOpen
import Derived.SizedLaws
namespace Go.V
set_option linter.unusedSimpArgs false
set_option linter.unusedVariables false
open Go.RowKit Go.ChangeShapes Go.WideShapes Go.ChangeAt

theorem sized_rows {P : Program} {β : Type} [Row β] {t e : TypeId} {H : Type} {enc : TypeId × Value → H} {w : World} {base : Nat} {spare : Nat → Bool} {held : Bool} {v : Value} {d : DataW H} {p : List MemPlace} {F : Nat → Prop} {xs : List β} {ts : List TypeId} {ds : List (DataW H)} {j : Nat}
    (hu : P.underlying t = some (.slice e)) (h : DataW.Trod enc P w base spare held t v d p) (hr : Rs F w v xs) (hsz : (DataW.weightsEach P ts ds).all (· ≤ reachBytes) = true) (hts : ts[j]? = some t) (hds : ds[j]? = some d) (hb : 1 ≤ P.bytesOf e) :
    xs.length ≤ 140737488355328 := by
  obtain ⟨ao, cap, rfl, h1, h2⟩ := hr.shape
  obtain ⟨fuel, hf⟩ := h
  rcases DataW.trod_slice hu hf with ⟨e1, e2⟩ | ⟨a, len, cap', elems, rest, n, _, e1, e2, _, _, _, hl, _⟩
  · simp [Value.cells] at e1
    omega
  · simp [Value.cells] at e1
    obtain ⟨_, e1, _⟩ := e1
    simp only [Prod.mk.injEq] at e2
    obtain ⟨rfl, _⟩ := e2
    have := sized_slice hsz hts hds hu
    rw [List.length_map, List.length_map] at this
    have hb2 := Nat.mul_le_mul_left (elems.length + rest.length) hb
    have hR : reachBytes ≤ 140737488355328 := by decide
    omega
end Go.V
