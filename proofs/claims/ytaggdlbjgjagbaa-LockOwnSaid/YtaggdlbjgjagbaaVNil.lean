/-
  Rules: a slice compared with nil. No statement of the claim stands here.
-/
import Derived.Test.YtaggdlbjgjagbaaVCell
namespace Go.V
set_option linter.unusedSimpArgs false
set_option linter.unusedVariables false
open Go.RowKit

section rules
variable {P : Program} {N : Fr} {ops : Array Oper} {rest : List Oper} {Q : EPost} {ρ : Env} {w : World}
variable {d : Nat} {dd : Option Nat} {gg : Option (Nat × Bool)} {ty T T2 E : TypeId} {pos : String} {af : Array Edge} {x y : Operand}
theorem x_eqlN {ao : Option Addr} {len cap : Nat} (hT : P.underlying T = some (.slice E)) (hx : ev ρ x = .slice ao len cap) (hy : ev ρ y = .slice none 0 0) :
    (execOp (ev ρ) ⟨dd, .binOp .eql T x y T2, ty, pos, af, gg⟩).run P w = .ok (.value (.bool ao.isNone)) w := by
  have h' : (Op.equalIn 10000 T (.slice ao len cap) (.slice none 0 0)).run P w = .ok ao.isNone w := by
    show (Op.equalIn (9999 + 1) T (.slice ao len cap) (.slice none 0 0)).run P w = .ok ao.isNone w
    generalize 9999 = d
    cases ao <;> simp [Op.equalIn, run_underlying hT]
  simp only [execOp, hx, hy, eqGuard, Go.binOp]
  simp [go_sem, Op.equal, Op.maxDepth, h']
theorem r_eqlN {ao : Option Addr} {len cap : Nat} (hd : Nat.blt d N.n = true) (hT : P.underlying T = some (.slice E)) (hx : ev ρ x = .slice ao len cap) (hy : ev ρ y = .slice none 0 0)
    (h : LW P N ops rest Q (upd ρ d (.bool ao.isNone)) w) : LW P N ops (⟨some d, .binOp .eql T x y T2, ty, pos, af, none⟩ :: rest) Q ρ w := LW.v hd (x_eqlN hT hx hy) h
end rules
end Go.V
