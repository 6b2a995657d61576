/-
  Rules for operations on memory, in the calculus of the base text, whatever the program. No statement of the claim stands here.
-/
import Derived.Test.YtaggdlbjgjagbaaVFlow
namespace Go.V
set_option linter.unusedSimpArgs false
set_option linter.unusedVariables false
open Go.RowKit

theorem alloc_new (w : World) (c : List Value) (E : TypeId) : Blk (w.alloc (.cells c.toArray E)) w.heap.size E c := heap_alloc_new w _
theorem alloc_ext (w : World) (o : Obj) : Ext0 w (w.alloc o) := ⟨rfl, rfl, rfl, by simp, fun k hk _ => Below.heap_alloc w o k hk⟩

/-- Cells that lie one behind the other. -/
def Cells (w : World) (b o : Nat) : List Value → Prop
  | [] => True
  | c :: cs => w.cell? ⟨b, o, none⟩ = some c ∧ Cells w b (o + 1) cs
theorem Cells.get {w : World} {b : Nat} : ∀ {cs : List Value} {o : Nat}, Cells w b o cs → ∀ j v, cs[j]? = some v → w.cell? ⟨b, o + j, none⟩ = some v
  | [], _, _, j, v, h => by simp at h
  | c :: cs, o, h, 0, v, hj => by simp at hj; subst hj; exact h.1
  | c :: cs, o, h, j + 1, v, hj => by
    have := Cells.get h.2 j v (by simpa using hj)
    rw [show o + (j + 1) = o + 1 + j from by omega]; exact this
theorem Cells.of {w : World} {b : Nat} : ∀ {cs : List Value} {o : Nat}, (∀ j v, cs[j]? = some v → w.cell? ⟨b, o + j, none⟩ = some v) → Cells w b o cs
  | [], _, _ => trivial
  | c :: cs, o, h => ⟨h 0 c rfl, Cells.of fun j v hj => by
      have := h (j + 1) v (by simpa using hj)
      rw [show o + 1 + j = o + (j + 1) from by omega]; exact this⟩
theorem Blk.cells {w : World} {b : Nat} {E : TypeId} {pre cs post : List Value} (h : Blk w b E (pre ++ cs ++ post)) : Cells w b pre.length cs :=
  Cells.of fun j v hj => h.cell (by
    have hl := (List.getElem?_eq_some_iff.1 hj).1
    rw [List.getElem?_append_left (by simp; omega), List.getElem?_append_right (by omega)]
    simpa using hj)
theorem Blk.cellsAll {w : World} {b : Nat} {E : TypeId} {cs : List Value} (h : Blk w b E cs) : Cells w b 0 cs := Cells.of fun j v hj => h.cell (by simpa using hj)
theorem Cells.up {W : Nat → Prop} {w w' : World} {b o : Nat} {cs : List Value} (h : Cells w b o cs) (e : Ext W w w') (hb : ¬ W b) : Cells w' b o cs :=
  Cells.of fun j v hj => e.cell (h.get j v hj) hb

def oneC : Value → Bool
  | .agg _ | .tuple _ => false
  | _ => true

section rules
variable {P : Program} {N : Fr} {ops : Array Oper} {rest : List Oper} {Q : EPost} {ρ : Env} {w : World}
variable {d : Nat} {ty T T2 : TypeId} {pos : String} {af : Array Edge} {x y z : Operand} {k : IntKind} {m n : Int}

/-- A new variable. -/
theorem r_alloc {E : TypeId} {zv : Value} {cs : List Value} (hd : Nat.blt d N.n = true) (hz : ∀ w, (zeroValue E).run P w = .ok zv w) (hc : zv.cells.toList = cs)
    (h : ∀ b w', b = w.heap.size → w'.heap.size = b + 1 → Ext0 w w' → Blk w' b E cs → LW P N ops rest Q (upd ρ d (.pointer (some ⟨b, 0, none⟩))) w') :
    LW P N ops (⟨some d, .alloc E, ty, pos, af, none⟩ :: rest) Q ρ w :=
  LW.v hd (w' := w.alloc (.cells zv.cells E)) (v := .pointer (some ⟨w.heap.size, 0, none⟩)) (by simp [execOp, Instr.alloc, hz, newVar, newRow, newObj, Sem.run_bind, Sem.run_pure, Result.andThen, go_sem]; rfl)
    (h _ _ rfl (by simp) (alloc_ext w _) (by subst hc; exact heap_alloc_new w _))
theorem r_box {E : TypeId} {v : Value} {cs : List Value} (hd : Nat.blt d N.n = true) (hx : ev ρ x = v) (hc : v.cells.toList = cs)
    (h : ∀ b w', b = w.heap.size → w'.heap.size = b + 1 → Ext0 w w' → Blk w' b E cs → LW P N ops rest Q (upd ρ d (.pointer (some ⟨b, 0, none⟩))) w') :
    LW P N ops (⟨some d, .box E x, ty, pos, af, none⟩ :: rest) Q ρ w :=
  LW.v hd (w' := w.alloc (.cells v.cells E)) (v := .pointer (some ⟨w.heap.size, 0, none⟩)) (by simp [execOp, hx, Instr.box, newVar, newRow, newObj, Sem.run_bind, Sem.run_pure, Result.andThen, go_sem]; rfl)
    (h _ _ rfl (by simp) (alloc_ext w _) (by subst hc; exact heap_alloc_new w _))

/-- A store of one cell into a block of one's own. -/
theorem setCell_blk {b o : Nat} {E : TypeId} {cs : List Value} {v : Value} (hb : Blk w b E cs) : Blk (w.setCell ⟨b, o, none⟩ v) b E (cs.set o v) := by
  unfold Blk at *
  rw [World.setCell]
  simp only [Array.getElem?_modify, if_true, hb, Option.map_some]
  simp
theorem setCell_ext {b o : Nat} {v : Value} : Ext (fun k => k = b) w (w.setCell ⟨b, o, none⟩ v) :=
  ⟨rfl, rfl, rfl, by simp, fun k _ hk => heap_setCell_other w _ k v hk⟩
theorem r_store {b o : Nat} {E : TypeId} {cs : List Value} {v : Value} (hs : ∀ w, (sizeOf T).run P w = .ok 1 w) (hx : ev ρ x = .pointer (some ⟨b, o, none⟩)) (hy : ev ρ y = v) (h1 : oneC v = true) (hb : Blk w b E cs) (ho : o < cs.length)
    (h : ∀ w', w'.heap.size = w.heap.size → Ext (fun k => k = b) w w' → Blk w' b E (cs.set o v) → LW P N ops rest Q ρ w') :
    LW P N ops (⟨none, .store T x y, ty, pos, af, none⟩ :: rest) Q ρ w := by
  have hcell : w.cell? ⟨b, o, none⟩ = some cs[o] := hb.cell (by simp [ho])
  have hfree := hb.free o
  refine LW.skp (w' := w.setCell ⟨b, o, none⟩ v) rfl (fun _ e => by cases e) ?_ (h _ (by simp) setCell_ext (setCell_blk hb))
  cases v <;> simp [oneC] at h1 <;> simp [go_sem, hx, hy, hs, hcell, hfree, store, Sem.run]
end rules
end Go.V
