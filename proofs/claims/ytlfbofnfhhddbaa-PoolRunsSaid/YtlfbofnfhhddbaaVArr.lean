/-
  Rules: elements of arrays. No program here.
-/
import Derived.Test.YtlfbofnfhhddbaaVMin
namespace Go.V
set_option linter.unusedSimpArgs false
set_option linter.unusedVariables false
open Go.RowKit

section
variable {P : Program} {N : Fr} {ops : Array Oper} {rest : List Oper} {Q : EPost} {ρ : Env} {w : World} {d : Nat} {dd : Option Nat} {T E : TypeId} {x y : Operand} {ty : TypeId} {pos : String} {af : Array Edge} {gg : Option (Nat × Bool)} {k : IntKind} {m : Int}
theorem x_indexAddrA {b o n s : Nat} (hT : P.underlying T = some (.array n E)) (hx : ev ρ x = .pointer (some ⟨b, o, none⟩)) (hy : ev ρ y = .int k m) (hs : ∀ w, (sizeOf E).run P w = .ok s w) (h0 : 0 ≤ m) (h1 : m < n) :
    (execOp (ev ρ) ⟨dd, .indexAddr T x y, ty, pos, af, gg⟩).run P w = .ok (.value (.pointer (some ⟨b, o + m.toNat * s, none⟩))) w := by simp [go_sem, hx, hy, hT, hs, h0, h1, addr_add]
theorem r_indexAddrA {b o n s : Nat} (hd : Nat.blt d N.n = true) (hT : P.underlying T = some (.array n E)) (hx : ev ρ x = .pointer (some ⟨b, o, none⟩)) (hy : ev ρ y = .int k m) (hs : ∀ w, (sizeOf E).run P w = .ok s w) (h0 : 0 ≤ m) (h1 : m < n)
    (h : LW P N ops rest Q (upd ρ d (.pointer (some ⟨b, o + m.toNat * s, none⟩))) w) : LW P N ops (⟨some d, .indexAddr T x y, ty, pos, af, none⟩ :: rest) Q ρ w := LW.v hd (x_indexAddrA hT hx hy hs h0 h1) h
theorem and1_all : ∀ n : Nat, n < 256 → IntKind.u8.wrap ((BitVec.ofInt 8 (n : Int) &&& BitVec.ofInt 8 1).toNat : Int) = (n % 2 : Int) := by decide +kernel
theorem x_and {T2 : TypeId} (hx : ev ρ x = .int .u8 m) (hy : ev ρ y = .int .u8 1) (h0 : 0 ≤ m) (h1 : m < 256) : (execOp (ev ρ) ⟨dd, .binOp .and T x y T2, ty, pos, af, gg⟩).run P w = .ok (.value (.int .u8 (m % 2))) w := by
  obtain ⟨n, rfl⟩ := Int.eq_ofNat_of_zero_le h0
  have h := and1_all n (by omega)
  simp only [go_sem, hx, hy]
  simp [go_sem, Op.intBits, IntKind.bits]
  exact h
theorem r_and {T2 : TypeId} (hd : Nat.blt d N.n = true) (hx : ev ρ x = .int .u8 m) (hy : ev ρ y = .int .u8 1) (h0 : 0 ≤ m) (h1 : m < 256) (h : LW P N ops rest Q (upd ρ d (.int .u8 (m % 2))) w) : LW P N ops (⟨some d, .binOp .and T x y T2, ty, pos, af, none⟩ :: rest) Q ρ w := LW.v hd (x_and hx hy h0 h1) h
end
end Go.V
