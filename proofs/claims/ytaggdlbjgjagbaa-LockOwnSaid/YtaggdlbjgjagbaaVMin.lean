/-
  The greater, the lesser of two numbers. No program here.
-/
import Derived.Test.YtaggdlbjgjagbaaVObj
import Derived.Lib.MinMax
namespace Go.V
set_option linter.unusedSimpArgs false
set_option linter.unusedVariables false
open Go.RowKit
theorem findM_any {α : Type} (p : α → Bool) (xs : List α) : decide (0 ≤ findM p xs) = xs.any p := by
  unfold findM
  by_cases h : xs.any p = true
  · rw [if_pos h, h]; simp
  · rw [if_neg h]; simp [h]
theorem list10 {l : List Value} (h : l.length = 10) : ∃ x0 x1 x2 x3 x4 x5 x6 x7 x8 x9, l = [x0, x1, x2, x3, x4, x5, x6, x7, x8, x9] := by match l, h with | [x0, x1, x2, x3, x4, x5, x6, x7, x8, x9], _ => exact ⟨x0, x1, x2, x3, x4, x5, x6, x7, x8, x9, rfl⟩
theorem list11 {l : List Value} (h : l.length = 11) : ∃ x0 x1 x2 x3 x4 x5 x6 x7 x8 x9 x10, l = [x0, x1, x2, x3, x4, x5, x6, x7, x8, x9, x10] := by match l, h with | [x0, x1, x2, x3, x4, x5, x6, x7, x8, x9, x10], _ => exact ⟨x0, x1, x2, x3, x4, x5, x6, x7, x8, x9, x10, rfl⟩
theorem list12 {l : List Value} (h : l.length = 12) : ∃ x0 x1 x2 x3 x4 x5 x6 x7 x8 x9 x10 x11, l = [x0, x1, x2, x3, x4, x5, x6, x7, x8, x9, x10, x11] := by match l, h with | [x0, x1, x2, x3, x4, x5, x6, x7, x8, x9, x10, x11], _ => exact ⟨x0, x1, x2, x3, x4, x5, x6, x7, x8, x9, x10, x11, rfl⟩
theorem list13 {l : List Value} (h : l.length = 13) : ∃ x0 x1 x2 x3 x4 x5 x6 x7 x8 x9 x10 x11 x12, l = [x0, x1, x2, x3, x4, x5, x6, x7, x8, x9, x10, x11, x12] := by match l, h with | [x0, x1, x2, x3, x4, x5, x6, x7, x8, x9, x10, x11, x12], _ => exact ⟨x0, x1, x2, x3, x4, x5, x6, x7, x8, x9, x10, x11, x12, rfl⟩
theorem list14 {l : List Value} (h : l.length = 14) : ∃ x0 x1 x2 x3 x4 x5 x6 x7 x8 x9 x10 x11 x12 x13, l = [x0, x1, x2, x3, x4, x5, x6, x7, x8, x9, x10, x11, x12, x13] := by match l, h with | [x0, x1, x2, x3, x4, x5, x6, x7, x8, x9, x10, x11, x12, x13], _ => exact ⟨x0, x1, x2, x3, x4, x5, x6, x7, x8, x9, x10, x11, x12, x13, rfl⟩
theorem list15 {l : List Value} (h : l.length = 15) : ∃ x0 x1 x2 x3 x4 x5 x6 x7 x8 x9 x10 x11 x12 x13 x14, l = [x0, x1, x2, x3, x4, x5, x6, x7, x8, x9, x10, x11, x12, x13, x14] := by match l, h with | [x0, x1, x2, x3, x4, x5, x6, x7, x8, x9, x10, x11, x12, x13, x14], _ => exact ⟨x0, x1, x2, x3, x4, x5, x6, x7, x8, x9, x10, x11, x12, x13, x14, rfl⟩
theorem list16 {l : List Value} (h : l.length = 16) : ∃ x0 x1 x2 x3 x4 x5 x6 x7 x8 x9 x10 x11 x12 x13 x14 x15, l = [x0, x1, x2, x3, x4, x5, x6, x7, x8, x9, x10, x11, x12, x13, x14, x15] := by match l, h with | [x0, x1, x2, x3, x4, x5, x6, x7, x8, x9, x10, x11, x12, x13, x14, x15], _ => exact ⟨x0, x1, x2, x3, x4, x5, x6, x7, x8, x9, x10, x11, x12, x13, x14, x15, rfl⟩
section
variable {P : Program} {N : Fr} {ops : Array Oper} {rest : List Oper} {Q : EPost} {ρ : Env} {w : World}
variable {d : Nat} {dd : Option Nat} {gg : Option (Nat × Bool)} {ty : TypeId} {ts : Array TypeId} {pos : String} {af : Array Edge} {x y : Operand} {k k' : IntKind} {m n : Int}
theorem x_max (hx : ev ρ x = .int k m) (hy : ev ρ y = .int k' n) : (execOp (ev ρ) ⟨dd, .call { callee := .builtin .max, args := #[x, y], argTypes := ts }, ty, pos, af, gg⟩).run P w = .ok (.value (.int k (max m n))) w := by
  simp [go_sem, hx, hy, Go.Lib.run_max_ints]
theorem x_min (hx : ev ρ x = .int k m) (hy : ev ρ y = .int k' n) : (execOp (ev ρ) ⟨dd, .call { callee := .builtin .min, args := #[x, y], argTypes := ts }, ty, pos, af, gg⟩).run P w = .ok (.value (.int k (min m n))) w := by
  simp [go_sem, hx, hy, Go.Lib.run_min_ints]
theorem r_max (hd : Nat.blt d N.n = true) (hx : ev ρ x = .int k m) (hy : ev ρ y = .int k' n) (h : LW P N ops rest Q (upd ρ d (.int k (max m n))) w) : LW P N ops (⟨some d, .call { callee := .builtin .max, args := #[x, y], argTypes := ts }, ty, pos, af, none⟩ :: rest) Q ρ w := LW.v hd (x_max hx hy) h
theorem r_min (hd : Nat.blt d N.n = true) (hx : ev ρ x = .int k m) (hy : ev ρ y = .int k' n) (h : LW P N ops rest Q (upd ρ d (.int k (min m n))) w) : LW P N ops (⟨some d, .call { callee := .builtin .min, args := #[x, y], argTypes := ts }, ty, pos, af, none⟩ :: rest) Q ρ w := LW.v hd (x_min hx hy) h
theorem x_lenW {α : Type} {_r : Row α} {F : Nat → Prop} {T E : TypeId} {v : Value} {xs : List α} {w2 : World} (hT : P.underlying T = some (.slice E)) (hx : ev ρ x = v) (hr : Rs F w2 v xs) : (execOp (ev ρ) ⟨dd, .call { callee := .builtin .len, args := #[x], argTypes := #[T] }, ty, pos, af, gg⟩).run P w = .ok (.value (.int .i64 xs.length)) w := by
  obtain ⟨ao, cap, rfl, _, _⟩ := hr.shape
  exact x_len hT hx
theorem r_lenW {α : Type} {_r : Row α} {F : Nat → Prop} {T E : TypeId} {v : Value} {xs : List α} {w2 : World} (hd : Nat.blt d N.n = true) (hT : P.underlying T = some (.slice E)) (hx : ev ρ x = v) (hr : Rs F w2 v xs) (h : LW P N ops rest Q (upd ρ d (.int .i64 xs.length)) w) : LW P N ops (⟨some d, .call { callee := .builtin .len, args := #[x], argTypes := #[T] }, ty, pos, af, none⟩ :: rest) Q ρ w := LW.v hd (x_lenW hT hx hr) h
theorem x_indexAddrW {α : Type} {_r : Row α} {F : Nat → Prop} {T E : TypeId} {v : Value} {xs : List α} {w2 : World} (hT : P.underlying T = some (.slice E)) (hx : ev ρ x = v) (hy : ev ρ y = .int k m) (hr : Rs F w2 v xs) (hs : ∀ w, (sizeOf E).run P w = .ok (Row.sz α) w) (h0 : 0 ≤ m) (h1 : m < xs.length) :
    (execOp (ev ρ) ⟨dd, .indexAddr T x y, ty, pos, af, gg⟩).run P w = .ok (.value (.pointer (some ⟨vb v, vo v + m.toNat * Row.sz α, none⟩))) w := by
  have hm : m.toNat < xs.length := by omega
  obtain ⟨cap, e, _, _⟩ := hr.cells (List.getElem?_eq_getElem hm)
  rw [e] at hx
  exact x_indexAddr hT hs hx hy h0 h1
theorem r_indexAddrW {α : Type} {_r : Row α} {F : Nat → Prop} {T E : TypeId} {v : Value} {xs : List α} {w2 : World} (hd : Nat.blt d N.n = true) (hT : P.underlying T = some (.slice E)) (hx : ev ρ x = v) (hy : ev ρ y = .int k m) (hr : Rs F w2 v xs) (hs : ∀ w, (sizeOf E).run P w = .ok (Row.sz α) w) (h0 : 0 ≤ m) (h1 : m < xs.length)
    (h : LW P N ops rest Q (upd ρ d (.pointer (some ⟨vb v, vo v + m.toNat * Row.sz α, none⟩))) w) : LW P N ops (⟨some d, .indexAddr T x y, ty, pos, af, none⟩ :: rest) Q ρ w := LW.v hd (x_indexAddrW hT hx hy hr hs h0 h1) h
end
end Go.V
