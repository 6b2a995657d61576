/-
  Rules: elements of arrays. No program here.
-/
import Derived.Test.YtlfbofnfhhddbaaVMin
namespace Go.V
set_option linter.unusedSimpArgs false
set_option linter.unusedVariables false
open Go.RowKit

section
variable {P : Program} {N : Fr} {ops : Array Oper} {rest : List Oper} {Q : EPost} {ρ : Env} {w : World} {d : Nat} {dd : Option Nat} {T E : TypeId} {x y : Operand} {ty : TypeId} {pos : String} {af : Array Edge} {gg : Option (Nat × Bool)} {k : IntKind} {m : Int}
theorem x_indexAddrA {b o n s : Nat} (hT : P.underlying T = some (.array n E)) (hx : ev ρ x = .pointer (some ⟨b, o, none⟩)) (hy : ev ρ y = .int k m) (hs : ∀ w, (sizeOf E).run P w = .ok s w) (h0 : 0 ≤ m) (h1 : m < n) :
    (execOp (ev ρ) ⟨dd, .indexAddr T x y, ty, pos, af, gg⟩).run P w = .ok (.value (.pointer (some ⟨b, o + m.toNat * s, none⟩))) w := by simp [go_sem, hx, hy, hT, hs, h0, h1, addr_add]
theorem r_indexAddrA {b o n s : Nat} (hd : Nat.blt d N.n = true) (hT : P.underlying T = some (.array n E)) (hx : ev ρ x = .pointer (some ⟨b, o, none⟩)) (hy : ev ρ y = .int k m) (hs : ∀ w, (sizeOf E).run P w = .ok s w) (h0 : 0 ≤ m) (h1 : m < n)
    (h : LW P N ops rest Q (upd ρ d (.pointer (some ⟨b, o + m.toNat * s, none⟩))) w) : LW P N ops (⟨some d, .indexAddr T x y, ty, pos, af, none⟩ :: rest) Q ρ w := LW.v hd (x_indexAddrA hT hx hy hs h0 h1) h
end
end Go.V
