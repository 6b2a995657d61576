/-
  Rules for pieces of texts. No program here.
-/
import Derived.Test.YtgcmafgcigipdaaVStr
import Derived.Laws.Strings2
namespace Go.V
set_option linter.unusedSimpArgs false
set_option linter.unusedVariables false
open Go.RowKit

section
variable {P : Program} {N : Fr} {ops : Array Oper} {rest : List Oper} {Q : EPost} {ρ : Env} {w : World}
variable {d : Nat} {dd : Option Nat} {gg : Option (Nat × Bool)} {ty T T2 E : TypeId} {pos : String} {af : Array Edge} {x y z : Operand} {k : IntKind} {m n : Int}
theorem x_sliceSLH {s : ByteArray} {kl kh : IntKind} {l h : Int} (hT : P.underlying T = some .string) (hx : ev ρ x = .string s) (hy : ev ρ y = .int kl l) (hz : ev ρ z = .int kh h) (h0 : 0 ≤ l) (h1 : l ≤ h) (h2 : h ≤ s.size) :
    (execOp (ev ρ) ⟨dd, .slice T x (some y) (some z) none, ty, pos, af, gg⟩).run P w = .ok (.value (.string (s.extract l.toNat h.toNat))) w := by
  simp only [execOp, hx, hy, hz, Option.map_some, Option.map_none, Sem.run_bind]
  simp [go_sem, run_sliceAt_string w T _ _ _ _ hT, run_slice_string (w := w) T s kl kh l h hT h0 h1 h2]
theorem r_sliceSLH {s : ByteArray} {kl kh : IntKind} {l h : Int} (hd : Nat.blt d N.n = true) (hT : P.underlying T = some .string) (hx : ev ρ x = .string s) (hy : ev ρ y = .int kl l) (hz : ev ρ z = .int kh h) (h0 : 0 ≤ l) (h1 : l ≤ h) (h2 : h ≤ s.size)
    (hk : LW P N ops rest Q (upd ρ d (.string (s.extract l.toNat h.toNat))) w) : LW P N ops (⟨some d, .slice T x (some y) (some z) none, ty, pos, af, none⟩ :: rest) Q ρ w := LW.v hd (x_sliceSLH hT hx hy hz h0 h1 h2) hk
theorem x_sliceSL {s : ByteArray} {kl : IntKind} {l : Int} (hT : P.underlying T = some .string) (hx : ev ρ x = .string s) (hy : ev ρ y = .int kl l) (h0 : 0 ≤ l) (h1 : l ≤ s.size) :
    (execOp (ev ρ) ⟨dd, .slice T x (some y) none none, ty, pos, af, gg⟩).run P w = .ok (.value (.string (s.extract l.toNat s.size))) w := by
  simp only [execOp, hx, hy, Option.map_some, Option.map_none, Sem.run_bind]
  simp [go_sem, run_sliceAt_string w T _ _ _ _ hT, run_slice_string_l w T s hT kl l h0 h1]
theorem r_sliceSL {s : ByteArray} {kl : IntKind} {l : Int} (hd : Nat.blt d N.n = true) (hT : P.underlying T = some .string) (hx : ev ρ x = .string s) (hy : ev ρ y = .int kl l) (h0 : 0 ≤ l) (h1 : l ≤ s.size)
    (hk : LW P N ops rest Q (upd ρ d (.string (s.extract l.toNat s.size))) w) : LW P N ops (⟨some d, .slice T x (some y) none none, ty, pos, af, none⟩ :: rest) Q ρ w := LW.v hd (x_sliceSL hT hx hy h0 h1) hk
theorem x_sliceSH {s : ByteArray} {kh : IntKind} {h : Int} (hT : P.underlying T = some .string) (hx : ev ρ x = .string s) (hz : ev ρ z = .int kh h) (h0 : 0 ≤ h) (h1 : h ≤ s.size) :
    (execOp (ev ρ) ⟨dd, .slice T x none (some z) none, ty, pos, af, gg⟩).run P w = .ok (.value (.string (s.extract 0 h.toNat))) w := by
  simp only [execOp, hx, hz, Option.map_some, Option.map_none, Sem.run_bind]
  simp [go_sem, run_sliceAt_string w T _ _ _ _ hT, run_slice_string_h w T s hT kh h h0 h1]
theorem r_sliceSH {s : ByteArray} {kh : IntKind} {h : Int} (hd : Nat.blt d N.n = true) (hT : P.underlying T = some .string) (hx : ev ρ x = .string s) (hz : ev ρ z = .int kh h) (h0 : 0 ≤ h) (h1 : h ≤ s.size)
    (hk : LW P N ops rest Q (upd ρ d (.string (s.extract 0 h.toNat))) w) : LW P N ops (⟨some d, .slice T x none (some z) none, ty, pos, af, none⟩ :: rest) Q ρ w := LW.v hd (x_sliceSH hT hx hz h0 h1) hk
theorem ext_list (s : ByteArray) (i j : Nat) : (s.extract i j).data.toList = (s.data.toList.take j).drop i := by
  rw [ByteArray.data_extract, Array.toList_extract, List.extract_eq_take_drop, List.drop_take]
end
end Go.V
