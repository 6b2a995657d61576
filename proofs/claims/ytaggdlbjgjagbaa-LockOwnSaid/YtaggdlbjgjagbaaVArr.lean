/-
  Rules: elements of arrays. No program here.
-/
import Derived.Test.YtaggdlbjgjagbaaVMin
namespace Go.V
set_option linter.unusedSimpArgs false
set_option linter.unusedVariables false
open Go.RowKit

section
variable {P : Program} {N : Fr} {ops : Array Oper} {rest : List Oper} {Q : EPost} {ρ : Env} {w : World} {d : Nat} {dd : Option Nat} {T E : TypeId} {x y : Operand} {ty : TypeId} {pos : String} {af : Array Edge} {gg : Option (Nat × Bool)} {k : IntKind} {m : Int}
theorem x_indexAddrA {b o n s : Nat} (hT : P.underlying T = some (.array n E)) (hx : ev ρ x = .pointer (some ⟨b, o, none⟩)) (hy : ev ρ y = .int k m) (hs : ∀ w, (sizeOf E).run P w = .ok s w) (h0 : 0 ≤ m) (h1 : m < n) :
    (execOp (ev ρ) ⟨dd, .indexAddr T x y, ty, pos, af, gg⟩).run P w = .ok (.value (.pointer (some ⟨b, o + m.toNat * s, none⟩))) w := by simp [go_sem, hx, hy, hT, hs, h0, h1, addr_add]
theorem r_indexAddrA {b o n s : Nat} (hd : Nat.blt d N.n = true) (hT : P.underlying T = some (.array n E)) (hx : ev ρ x = .pointer (some ⟨b, o, none⟩)) (hy : ev ρ y = .int k m) (hs : ∀ w, (sizeOf E).run P w = .ok s w) (h0 : 0 ≤ m) (h1 : m < n)
    (h : LW P N ops rest Q (upd ρ d (.pointer (some ⟨b, o + m.toNat * s, none⟩))) w) : LW P N ops (⟨some d, .indexAddr T x y, ty, pos, af, none⟩ :: rest) Q ρ w := LW.v hd (x_indexAddrA hT hx hy hs h0 h1) h
theorem and1_all : ∀ n : Nat, n < 256 → IntKind.u8.wrap ((BitVec.ofInt 8 (n : Int) &&& BitVec.ofInt 8 1).toNat : Int) = (n % 2 : Int) := by decide +kernel
theorem x_and {T2 : TypeId} (hx : ev ρ x = .int .u8 m) (hy : ev ρ y = .int .u8 1) (h0 : 0 ≤ m) (h1 : m < 256) : (execOp (ev ρ) ⟨dd, .binOp .and T x y T2, ty, pos, af, gg⟩).run P w = .ok (.value (.int .u8 (m % 2))) w := by
  obtain ⟨n, rfl⟩ := Int.eq_ofNat_of_zero_le h0
  have h := and1_all n (by omega)
  simp only [go_sem, hx, hy]
  simp [go_sem, Op.intBits, IntKind.bits]
  exact h
theorem r_and {T2 : TypeId} (hd : Nat.blt d N.n = true) (hx : ev ρ x = .int .u8 m) (hy : ev ρ y = .int .u8 1) (h0 : 0 ≤ m) (h1 : m < 256) (h : LW P N ops rest Q (upd ρ d (.int .u8 (m % 2))) w) : LW P N ops (⟨some d, .binOp .and T x y T2, ty, pos, af, none⟩ :: rest) Q ρ w := LW.v hd (x_and hx hy h0 h1) h
theorem flat_one : ∀ vs : List Value, vs.all oneC = true → vs.flatMap cellsL = vs
  | [], _ => rfl
  | v :: r, h => by
    rw [List.all_cons, Bool.and_eq_true] at h
    rw [List.flatMap_cons, cells_one rfl h.1, flat_one r h.2]; rfl
/-- An array's value of one-cell elements, each written out. -/
theorem x_buildArr {n : Nat} {zv : Value} {vs : List Value} {parts : Array (Nat × Operand)} (hT : P.underlying T = some (.array n E)) (hz : ∀ w, (zeroValue T).run P w = .ok zv w) (hs : ∀ w, (sizeOf E).run P w = .ok 1 w) (hzl : zv.cells.size = n)
    (hv : parts.toList.map (fun p => (p.1, ev ρ p.2)) = numbered 0 vs) (hl : vs.length = n) (h1 : vs.all oneC = true) : (execOp (ev ρ) ⟨dd, .build T parts, ty, pos, af, gg⟩).run P w = .ok (.value (.agg vs.toArray)) w := by
  have hmap : (parts.map (fun p => match p with | (i, x) => (i, ev ρ x))) = parts.map (fun p => (p.1, ev ρ p.2)) := rfl
  have hm2 : (parts.map (fun p => (p.1, ev ρ p.2))).toList = numbered 0 vs := by rw [← hv]; simp
  have hf := fillS (s := 1) vs 0 [] zv.cells.toList (by simp) (by simp [hzl, hl]) (fun v hm => by rw [cells_one rfl (List.all_eq_true.1 h1 v hm)]; rfl)
  rw [List.nil_append, List.nil_append, flat_one vs h1, Array.toArray_toList] at hf
  have hb : (Instr.build T (parts.map (fun p => (p.1, ev ρ p.2)))).run P w = .ok (.agg vs.toArray) w := by
    unfold Instr.build
    simp only [Sem.run_bind, hz, Result.andThen_ok, run_underlying hT, hs, Nat.mul_one, hm2, Sem.run_pure]
    simp only [Nat.mul_one] at hf
    rw [hf]
    simp only [Sem.run_pure]
  simp only [execOp, hmap, Sem.run_bind, hb, Result.andThen_ok, Sem.run_pure]
theorem r_buildArr {n : Nat} {zv : Value} {vs : List Value} {parts : Array (Nat × Operand)} (hd : Nat.blt d N.n = true) (hT : P.underlying T = some (.array n E)) (hz : ∀ w, (zeroValue T).run P w = .ok zv w) (hs : ∀ w, (sizeOf E).run P w = .ok 1 w) (hzl : zv.cells.size = n)
    (hv : parts.toList.map (fun p => (p.1, ev ρ p.2)) = numbered 0 vs) (hl : vs.length = n) (h1 : vs.all oneC = true) (h : LW P N ops rest Q (upd ρ d (.agg vs.toArray)) w) : LW P N ops (⟨some d, .build T parts, ty, pos, af, none⟩ :: rest) Q ρ w := LW.v hd (x_buildArr hT hz hs hzl hv hl h1) h
/-- An array's element, of its value. -/
theorem x_indexArr {n : Nat} {cs : List Value} {v : Value} (hT : P.underlying T = some (.array n E)) (hA : ∀ w, (isAgg E).run P w = .ok false w) (hs : ∀ w, (sizeOf E).run P w = .ok 1 w) (hx : ev ρ x = .agg cs.toArray) (hy : ev ρ y = .int k m) (h0 : 0 ≤ m) (h1 : m < n) (hc : cs[m.toNat]? = some v) :
    (execOp (ev ρ) ⟨dd, .index T x y, ty, pos, af, gg⟩).run P w = .ok (.value v) w := by
  simp [go_sem, hx, hy, hA, hs, Instr.index, asIntOf, run_underlying hT, h0, h1, part, hc]
theorem r_indexArr {n : Nat} {cs : List Value} {v : Value} (hd : Nat.blt d N.n = true) (hT : P.underlying T = some (.array n E)) (hA : ∀ w, (isAgg E).run P w = .ok false w) (hs : ∀ w, (sizeOf E).run P w = .ok 1 w) (hx : ev ρ x = .agg cs.toArray) (hy : ev ρ y = .int k m) (h0 : 0 ≤ m) (h1 : m < n) (hc : cs[m.toNat]? = some v)
    (h : LW P N ops rest Q (upd ρ d v) w) : LW P N ops (⟨some d, .index T x y, ty, pos, af, none⟩ :: rest) Q ρ w := LW.v hd (x_indexArr hT hA hs hx hy h0 h1 hc) h
end
end Go.V
