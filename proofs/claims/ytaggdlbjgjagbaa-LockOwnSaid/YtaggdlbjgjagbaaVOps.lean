/-
  Rules for single operations, in the calculus of the base text, whatever the program: each says what one operation of the model leaves in its slot. No statement of the claim stands here.
-/
import Derived.Test.YtaggdlbjgjagbaaVBase
import Derived.WalkLawsBesides
namespace Go.V
set_option linter.unusedSimpArgs false
set_option linter.unusedVariables false
open Go.RowKit

/-- w' is w with new blocks, and with writes to blocks of W alone. -/
structure Ext (W : Nat → Prop) (w w' : World) : Prop where
  os : w'.os = w.os
  tape : w'.tape = w.tape
  output : w'.output = w.output
  size : w.heap.size ≤ w'.heap.size
  block : ∀ k, k < w.heap.size → ¬ W k → w'.heap[k]? = w.heap[k]?

def Non : Nat → Prop := fun _ => False
abbrev Ext0 (w w' : World) : Prop := Ext Non w w'

theorem Ext.refl (W : Nat → Prop) (w : World) : Ext W w w := ⟨rfl, rfl, rfl, Nat.le_refl _, fun _ _ _ => rfl⟩
theorem Ext.trans {W V U : Nat → Prop} {a b c : World} (h : Ext W a b) (k : Ext V b c) (hW : ∀ x, x < a.heap.size → W x → U x) (hV : ∀ x, x < a.heap.size → V x → U x) : Ext U a c :=
  ⟨k.os.trans h.os, k.tape.trans h.tape, k.output.trans h.output, Nat.le_trans h.size k.size, fun i hi hU =>
    (k.block i (Nat.lt_of_lt_of_le hi h.size) (fun hv => hU (hV i hi hv))).trans (h.block i hi (fun hw => hU (hW i hi hw)))⟩
theorem Ext.trans0 {W : Nat → Prop} {a b c : World} (h : Ext W a b) (k : Ext0 b c) : Ext W a c := h.trans k (fun _ _ h => h) (fun _ _ h => h.elim)
theorem Ext0.trans {a b c : World} (h : Ext0 a b) (k : Ext0 b c) : Ext0 a c := Ext.trans0 h k
/-- Writes to what was not there at the start. -/
theorem Ext.transN {W V : Nat → Prop} {a b c : World} (h : Ext W a b) (k : Ext V b c) (hV : ∀ x, V x → a.heap.size ≤ x) : Ext W a c :=
  h.trans k (fun _ _ h => h) (fun x hx h => absurd (hV x h) (by omega))
theorem Ext.mono {W V : Nat → Prop} {a b : World} (h : Ext W a b) (hV : ∀ x, W x → V x) : Ext V a b := ⟨h.os, h.tape, h.output, h.size, fun k hk hn => h.block k hk (fun hw => hn (hV k hw))⟩
theorem Ext.drew {W : Nat → Prop} (w : World) : Ext W w w.drew := ⟨rfl, rfl, rfl, Nat.le_refl _, fun _ _ _ => rfl⟩
theorem Ext.below {w w' : World} (h : Ext0 w w') : Below w.heap.size w w' := ⟨h.os, h.tape, h.output, h.size, fun k hk => h.block k hk id⟩
theorem Ext.ofBelow {w w' : World} (h : Below w.heap.size w w') : Ext0 w w' := ⟨h.os, h.tape, h.output, h.size, fun k hk _ => h.block k hk⟩
theorem Ext.ofGrown {w w' : World} {r : Nat} (h : w.grownBy w' (some r)) : Ext (fun b => b = r) w w' := ⟨h.os, h.tape, h.output, h.size, fun k hk hn => h.block k hk (fun e => hn (by simpa using e))⟩
theorem Ext.ofGrown0 {w w' : World} (h : w.grownBy w' none) : Ext0 w w' := ⟨h.os, h.tape, h.output, h.size, fun k hk _ => h.block k hk (fun e => by cases e)⟩

/-- Block b holds the cells cs of type E, none of them frozen. -/
def Blk (w : World) (b : Nat) (E : TypeId) (cs : List Value) : Prop := w.heap[b]? = some (.cells cs.toArray E (0, 0))
theorem Blk.lt {w : World} {b : Nat} {E : TypeId} {cs : List Value} (h : Blk w b E cs) : b < w.heap.size := (Array.getElem?_eq_some_iff.1 h).1
theorem Blk.up {W : Nat → Prop} {w w' : World} {b : Nat} {E : TypeId} {cs : List Value} (h : Blk w b E cs) (e : Ext W w w') (hb : ¬ W b) : Blk w' b E cs := (e.block b h.lt hb).trans h
theorem Blk.up0 {w w' : World} {b : Nat} {E : TypeId} {cs : List Value} (h : Blk w b E cs) (e : Ext0 w w') : Blk w' b E cs := h.up e id
theorem Blk.cell {w : World} {b : Nat} {E : TypeId} {cs : List Value} (h : Blk w b E cs) {o : Nat} {v : Value} (ho : cs[o]? = some v) : w.cell? ⟨b, o, none⟩ = some v := by
  unfold World.cell? Blk at *
  simp only [h]
  simpa using ho
theorem Blk.free {w : World} {b : Nat} {E : TypeId} {cs : List Value} (h : Blk w b E cs) (o : Nat) : w.frozen? ⟨b, o, none⟩ = false := by
  unfold World.frozen? Blk at *
  simp only [h]
  simp

theorem Ext.cell {W : Nat → Prop} {w w' : World} (e : Ext W w w') {a : Addr} {v : Value} (h : w.cell? a = some v) (hb : ¬ W a.block) : w'.cell? a = some v := by
  rw [← h]
  exact World.cell?_of_block (e.block a.block (World.block_lt_of_cell? _ _ h) hb)
theorem Ext.cell0 {w w' : World} (e : Ext0 w w') {a : Addr} {v : Value} (h : w.cell? a = some v) : w'.cell? a = some v := e.cell h id

/-- A value's cells, as a list. -/
def cellsL : Value → List Value
  | .agg cs => cs.toList
  | v => [v]
theorem cellsL_eq (v : Value) : v.cells = (cellsL v).toArray := by cases v <;> simp [cellsL, Value.cells]
def spliceL (cs : List Value) (off : Nat) (vs : List Value) : List Value := cs.take off ++ vs ++ cs.drop (off + vs.length)
def fillL (pl : List (Nat × Nat)) : List Value → List (Nat × Value) → Option (List Value)
  | cs, [] => some cs
  | cs, (i, v) :: r =>
    match pl[i]? with
    | none => none
    | some (off, size) => bif Nat.beq (cellsL v).length size && Nat.ble (off + size) cs.length then fillL pl (spliceL cs off (cellsL v)) r else none
theorem set_splice (cs : List Value) (off : Nat) (v : Value) (h : off < cs.length) : cs.set off v = cs.take off ++ v :: cs.drop (off + 1) := by rw [List.set_eq_take_append_cons_drop, if_pos h]
theorem foldl_splice (off : Nat) : ∀ (vs : List Value) (k : Nat) (cs : List Value), off + k + vs.length ≤ cs.length →
    ((vs.toArray.zipIdx k).foldl (fun (cs : Array Value) (x : Value × Nat) => cs.setIfInBounds (off + x.2) x.1) cs.toArray) = (cs.take (off + k) ++ vs ++ cs.drop (off + k + vs.length)).toArray := by
  intro vs
  induction vs with
  | nil =>
    intro k cs h
    have hz : ([] : List Value).toArray.zipIdx k = #[] := by apply Array.ext'; simp
    rw [hz]; simp
  | cons v r ih =>
    intro k cs h
    have hz : (v :: r).toArray.zipIdx k = #[(v, k)] ++ r.toArray.zipIdx (k + 1) := by
      apply Array.ext'
      simp [List.zipIdx_cons]
    rw [hz]
    simp only [Array.foldl_append]
    have h1 := ih (k + 1) (cs.set (off + k) v) (by simp at h ⊢; omega)
    have h2 : (#[(v, k)] : Array (Value × Nat)).foldl (fun (cs : Array Value) (x : Value × Nat) => cs.setIfInBounds (off + x.2) x.1) cs.toArray = (cs.set (off + k) v).toArray := by simp
    rw [h2, h1]
    congr 1
    simp only [List.length_cons] at h ⊢
    rw [set_splice cs (off + k) v (by omega)]
    simp only [List.take_append, List.drop_append, List.length_take]
    rw [Nat.min_eq_left (by omega)]
    simp [List.take_take, show off + (k + 1) - (off + k) = 1 from by omega, show off + (k + 1) + r.length - (off + k) = r.length + 1 from by omega, List.drop_take]
    rw [show off + k + 1 + r.length = off + k + (r.length + 1) from by omega]
    simp [show off + k - (off + (k + 1) + r.length) = 0 from by omega]
theorem fillL_eq (pl : List (Nat × Nat)) : ∀ (ps : List (Nat × Value)) (cs r : List Value), fillL pl cs ps = some r → Instr.fill (fun i => pl.toArray[i]?) cs.toArray ps = some r.toArray
  | [], cs, r, h => by simp [fillL] at h; subst h; rfl
  | (i, v) :: ps, cs, r, h => by
    simp only [fillL] at h
    cases hp : pl[i]? with
    | none => rw [hp] at h; cases h
    | some q =>
      obtain ⟨off, size⟩ := q
      rw [hp] at h
      simp only at h
      cases hb : (Nat.beq (cellsL v).length size && Nat.ble (off + size) cs.length) with
      | false => rw [hb] at h; cases h
      | true =>
        rw [hb] at h
        simp only [cond_true] at h
        rw [Bool.and_eq_true] at hb
        have h1 : (cellsL v).length = size := Nat.eq_of_beq_eq_true hb.1
        have h2 : off + size ≤ cs.length := Nat.le_of_ble_eq_true hb.2
        have ih := fillL_eq pl ps _ r h
        simp only [Instr.fill, List.getElem?_toArray, hp, cellsL_eq, List.size_toArray] at ih ⊢
        rw [if_neg (by simp [h1]; omega)]
        have hf := foldl_splice off (cellsL v) 0 cs (by omega)
        simp only [Nat.add_zero] at hf
        rw [show ((cellsL v).toArray.zipIdx.foldl (fun (cs : Array Value) (x : Value × Nat) => match x with | (c, j) => cs.setIfInBounds (off + j) c) cs.toArray) = (spliceL cs off (cellsL v)).toArray from hf]
        exact ih

section rules
variable {P : Program} {N : Fr} {ops : Array Oper} {rest : List Oper} {Q : EPost} {ρ : Env} {w : World}
variable {d : Nat} {dd : Option Nat} {gg : Option (Nat × Bool)} {ty T T2 : TypeId} {pos : String} {af : Array Edge} {x y z : Operand} {k : IntKind} {m n : Int}

theorem LW.v {op : Op} {v : Value} {w' : World} (hd : Nat.blt d N.n = true) (hr : (execOp (ev ρ) ⟨some d, op, ty, pos, af, none⟩).run P w = .ok (.value v) w')
    (h : LW P N ops rest Q (upd ρ d v) w') : LW P N ops (⟨some d, op, ty, pos, af, none⟩ :: rest) Q ρ w :=
  LW.val rfl (fun _ e => by cases e; exact Nat.le_of_ble_eq_true hd) hr h

theorem x_move  : (execOp (ev ρ) ⟨dd, .move x, ty, pos, af, gg⟩).run P w = .ok (.value (ev ρ x)) w := by
  simp [go_sem]
theorem r_move (hd : Nat.blt d N.n = true) (h : LW P N ops rest Q (upd ρ d (ev ρ x)) w) : LW P N ops (⟨some d, .move x, ty, pos, af, none⟩ :: rest) Q ρ w := LW.v hd (x_move ) h
theorem x_assign  : (execOp (ev ρ) ⟨dd, .assign x, ty, pos, af, gg⟩).run P w = .ok (.value (ev ρ x)) w := by
  simp [go_sem]
theorem r_assign (hd : Nat.blt d N.n = true) (h : LW P N ops rest Q (upd ρ d (ev ρ x)) w) : LW P N ops (⟨some d, .assign x, ty, pos, af, none⟩ :: rest) Q ρ w := LW.v hd (x_assign ) h
theorem x_pickT {b : Bool}  (hx : ev ρ x = .bool b) (hb : b = true) : (execOp (ev ρ) ⟨dd, .pick x y z, ty, pos, af, gg⟩).run P w = .ok (.value (ev ρ y)) w := by
  subst hb; simp [go_sem, hx]
theorem r_pickT {b : Bool} (hd : Nat.blt d N.n = true) (hx : ev ρ x = .bool b) (hb : b = true) (h : LW P N ops rest Q (upd ρ d (ev ρ y)) w) : LW P N ops (⟨some d, .pick x y z, ty, pos, af, none⟩ :: rest) Q ρ w := LW.v hd (x_pickT hx hb) h
theorem x_pickF {b : Bool}  (hx : ev ρ x = .bool b) (hb : b = false) : (execOp (ev ρ) ⟨dd, .pick x y z, ty, pos, af, gg⟩).run P w = .ok (.value (ev ρ z)) w := by
  subst hb; simp [go_sem, hx]
theorem r_pickF {b : Bool} (hd : Nat.blt d N.n = true) (hx : ev ρ x = .bool b) (hb : b = false) (h : LW P N ops rest Q (upd ρ d (ev ρ z)) w) : LW P N ops (⟨some d, .pick x y z, ty, pos, af, none⟩ :: rest) Q ρ w := LW.v hd (x_pickF hx hb) h
theorem x_add (hx : ev ρ x = .int k m) (hy : ev ρ y = .int k n) (hw : k.wrap (m + n) = m + n) : (execOp (ev ρ) ⟨dd, .binOp .add T x y T2, ty, pos, af, gg⟩).run P w = .ok (.value (.int k (m + n))) w := by
  simp [go_sem, hx, hy, hw]
theorem r_add (hd : Nat.blt d N.n = true) (hx : ev ρ x = .int k m) (hy : ev ρ y = .int k n) (hw : k.wrap (m + n) = m + n) (h : LW P N ops rest Q (upd ρ d (.int k (m + n))) w) : LW P N ops (⟨some d, .binOp .add T x y T2, ty, pos, af, none⟩ :: rest) Q ρ w := LW.v hd (x_add hx hy hw) h
theorem x_sub (hx : ev ρ x = .int k m) (hy : ev ρ y = .int k n) (hw : k.wrap (m - n) = m - n) : (execOp (ev ρ) ⟨dd, .binOp .sub T x y T2, ty, pos, af, gg⟩).run P w = .ok (.value (.int k (m - n))) w := by
  simp [go_sem, hx, hy, hw]
theorem r_sub (hd : Nat.blt d N.n = true) (hx : ev ρ x = .int k m) (hy : ev ρ y = .int k n) (hw : k.wrap (m - n) = m - n) (h : LW P N ops rest Q (upd ρ d (.int k (m - n))) w) : LW P N ops (⟨some d, .binOp .sub T x y T2, ty, pos, af, none⟩ :: rest) Q ρ w := LW.v hd (x_sub hx hy hw) h
theorem x_mul (hx : ev ρ x = .int k m) (hy : ev ρ y = .int k n) (hw : k.wrap (m * n) = m * n) : (execOp (ev ρ) ⟨dd, .binOp .mul T x y T2, ty, pos, af, gg⟩).run P w = .ok (.value (.int k (m * n))) w := by
  simp [go_sem, hx, hy, hw]
theorem r_mul (hd : Nat.blt d N.n = true) (hx : ev ρ x = .int k m) (hy : ev ρ y = .int k n) (hw : k.wrap (m * n) = m * n) (h : LW P N ops rest Q (upd ρ d (.int k (m * n))) w) : LW P N ops (⟨some d, .binOp .mul T x y T2, ty, pos, af, none⟩ :: rest) Q ρ w := LW.v hd (x_mul hx hy hw) h
theorem x_addw (hx : ev ρ x = .int k m) (hy : ev ρ y = .int k n) : (execOp (ev ρ) ⟨dd, .binOp .add T x y T2, ty, pos, af, gg⟩).run P w = .ok (.value (.int k (k.wrap (m + n)))) w := by
  simp [go_sem, hx, hy]
theorem r_addw (hd : Nat.blt d N.n = true) (hx : ev ρ x = .int k m) (hy : ev ρ y = .int k n) (h : LW P N ops rest Q (upd ρ d (.int k (k.wrap (m + n)))) w) : LW P N ops (⟨some d, .binOp .add T x y T2, ty, pos, af, none⟩ :: rest) Q ρ w := LW.v hd (x_addw hx hy) h
theorem x_subw (hx : ev ρ x = .int k m) (hy : ev ρ y = .int k n) : (execOp (ev ρ) ⟨dd, .binOp .sub T x y T2, ty, pos, af, gg⟩).run P w = .ok (.value (.int k (k.wrap (m - n)))) w := by
  simp [go_sem, hx, hy]
theorem r_subw (hd : Nat.blt d N.n = true) (hx : ev ρ x = .int k m) (hy : ev ρ y = .int k n) (h : LW P N ops rest Q (upd ρ d (.int k (k.wrap (m - n)))) w) : LW P N ops (⟨some d, .binOp .sub T x y T2, ty, pos, af, none⟩ :: rest) Q ρ w := LW.v hd (x_subw hx hy) h
theorem x_shr {k2 : IntKind}  (hx : ev ρ x = .int k m) (hy : ev ρ y = .int k2 n) (h0 : 0 ≤ n) (h1 : n.toNat ≤ k.bits) : (execOp (ev ρ) ⟨dd, .binOp .shr T x y T2, ty, pos, af, gg⟩).run P w = .ok (.value (.int k (m / 2 ^ n.toNat))) w := by
  cases k <;> simp only [IntKind.bits] at h1 <;> simp [go_sem, hx, hy, h0, Nat.min_eq_left h1]
theorem r_shr {k2 : IntKind} (hd : Nat.blt d N.n = true) (hx : ev ρ x = .int k m) (hy : ev ρ y = .int k2 n) (h0 : 0 ≤ n) (h1 : n.toNat ≤ k.bits) (h : LW P N ops rest Q (upd ρ d (.int k (m / 2 ^ n.toNat))) w) : LW P N ops (⟨some d, .binOp .shr T x y T2, ty, pos, af, none⟩ :: rest) Q ρ w := LW.v hd (x_shr hx hy h0 h1) h
theorem x_shl {k2 : IntKind}  (hx : ev ρ x = .int k m) (hy : ev ρ y = .int k2 n) (h0 : 0 ≤ n) (h1 : n.toNat ≤ k.bits) : (execOp (ev ρ) ⟨dd, .binOp .shl T x y T2, ty, pos, af, gg⟩).run P w = .ok (.value (.int k (k.wrap (m * 2 ^ n.toNat)))) w := by
  cases k <;> simp only [IntKind.bits] at h1 <;> simp [go_sem, hx, hy, h0, Nat.min_eq_left h1]
theorem r_shl {k2 : IntKind} (hd : Nat.blt d N.n = true) (hx : ev ρ x = .int k m) (hy : ev ρ y = .int k2 n) (h0 : 0 ≤ n) (h1 : n.toNat ≤ k.bits) (h : LW P N ops rest Q (upd ρ d (.int k (k.wrap (m * 2 ^ n.toNat)))) w) : LW P N ops (⟨some d, .binOp .shl T x y T2, ty, pos, af, none⟩ :: rest) Q ρ w := LW.v hd (x_shl hx hy h0 h1) h
theorem x_or {r : Int}  (hx : ev ρ x = .int k m) (hy : ev ρ y = .int k n) (hr : bits .or k m n = r) : (execOp (ev ρ) ⟨dd, .binOp .or T x y T2, ty, pos, af, gg⟩).run P w = .ok (.value (.int k r)) w := by
  simp [go_sem, hx, hy, hr]
theorem r_or {r : Int} (hd : Nat.blt d N.n = true) (hx : ev ρ x = .int k m) (hy : ev ρ y = .int k n) (hr : bits .or k m n = r) (h : LW P N ops rest Q (upd ρ d (.int k r)) w) : LW P N ops (⟨some d, .binOp .or T x y T2, ty, pos, af, none⟩ :: rest) Q ρ w := LW.v hd (x_or hx hy hr) h
theorem x_xor {r : Int}  (hx : ev ρ x = .int k m) (hy : ev ρ y = .int k n) (hr : bits .xor k m n = r) : (execOp (ev ρ) ⟨dd, .binOp .xor T x y T2, ty, pos, af, gg⟩).run P w = .ok (.value (.int k r)) w := by
  simp [go_sem, hx, hy, hr]
theorem r_xor {r : Int} (hd : Nat.blt d N.n = true) (hx : ev ρ x = .int k m) (hy : ev ρ y = .int k n) (hr : bits .xor k m n = r) (h : LW P N ops rest Q (upd ρ d (.int k r)) w) : LW P N ops (⟨some d, .binOp .xor T x y T2, ty, pos, af, none⟩ :: rest) Q ρ w := LW.v hd (x_xor hx hy hr) h
theorem x_rem (hx : ev ρ x = .int k m) (hy : ev ρ y = .int k n) (h0 : 0 ≤ m) (hn : 0 < n) (hk : k.wrap (m % n) = m % n) : (execOp (ev ρ) ⟨dd, .binOp .rem T x y T2, ty, pos, af, gg⟩).run P w = .ok (.value (.int k (m % n))) w := by
  simp [go_sem, hx, hy, hk, show ¬ n = 0 from by omega, Int.tmod_eq_emod_of_nonneg h0]
theorem r_rem (hd : Nat.blt d N.n = true) (hx : ev ρ x = .int k m) (hy : ev ρ y = .int k n) (h0 : 0 ≤ m) (hn : 0 < n) (hk : k.wrap (m % n) = m % n) (h : LW P N ops rest Q (upd ρ d (.int k (m % n))) w) : LW P N ops (⟨some d, .binOp .rem T x y T2, ty, pos, af, none⟩ :: rest) Q ρ w := LW.v hd (x_rem hx hy h0 hn hk) h
theorem x_quo (hx : ev ρ x = .int k m) (hy : ev ρ y = .int k n) (h0 : 0 ≤ m) (hn : 0 < n) (hk : k.wrap (m / n) = m / n) : (execOp (ev ρ) ⟨dd, .binOp .quo T x y T2, ty, pos, af, gg⟩).run P w = .ok (.value (.int k (m / n))) w := by
  simp [go_sem, hx, hy, hk, show ¬ n = 0 from by omega, Int.tdiv_eq_ediv_of_nonneg h0]
theorem r_quo (hd : Nat.blt d N.n = true) (hx : ev ρ x = .int k m) (hy : ev ρ y = .int k n) (h0 : 0 ≤ m) (hn : 0 < n) (hk : k.wrap (m / n) = m / n) (h : LW P N ops rest Q (upd ρ d (.int k (m / n))) w) : LW P N ops (⟨some d, .binOp .quo T x y T2, ty, pos, af, none⟩ :: rest) Q ρ w := LW.v hd (x_quo hx hy h0 hn hk) h
theorem x_lss (hx : ev ρ x = .int k m) (hy : ev ρ y = .int k n) : (execOp (ev ρ) ⟨dd, .binOp .lss T x y T2, ty, pos, af, gg⟩).run P w = .ok (.value (.bool (decide (m < n)))) w := by
  simp [go_sem, hx, hy]
theorem r_lss (hd : Nat.blt d N.n = true) (hx : ev ρ x = .int k m) (hy : ev ρ y = .int k n) (h : LW P N ops rest Q (upd ρ d (.bool (decide (m < n)))) w) : LW P N ops (⟨some d, .binOp .lss T x y T2, ty, pos, af, none⟩ :: rest) Q ρ w := LW.v hd (x_lss hx hy) h
theorem x_leq (hx : ev ρ x = .int k m) (hy : ev ρ y = .int k n) : (execOp (ev ρ) ⟨dd, .binOp .leq T x y T2, ty, pos, af, gg⟩).run P w = .ok (.value (.bool (decide (m ≤ n)))) w := by
  simp [go_sem, hx, hy]
theorem r_leq (hd : Nat.blt d N.n = true) (hx : ev ρ x = .int k m) (hy : ev ρ y = .int k n) (h : LW P N ops rest Q (upd ρ d (.bool (decide (m ≤ n)))) w) : LW P N ops (⟨some d, .binOp .leq T x y T2, ty, pos, af, none⟩ :: rest) Q ρ w := LW.v hd (x_leq hx hy) h
theorem x_gtr (hx : ev ρ x = .int k m) (hy : ev ρ y = .int k n) : (execOp (ev ρ) ⟨dd, .binOp .gtr T x y T2, ty, pos, af, gg⟩).run P w = .ok (.value (.bool (decide (n < m)))) w := by
  simp [go_sem, hx, hy]
theorem r_gtr (hd : Nat.blt d N.n = true) (hx : ev ρ x = .int k m) (hy : ev ρ y = .int k n) (h : LW P N ops rest Q (upd ρ d (.bool (decide (n < m)))) w) : LW P N ops (⟨some d, .binOp .gtr T x y T2, ty, pos, af, none⟩ :: rest) Q ρ w := LW.v hd (x_gtr hx hy) h
theorem x_geq (hx : ev ρ x = .int k m) (hy : ev ρ y = .int k n) : (execOp (ev ρ) ⟨dd, .binOp .geq T x y T2, ty, pos, af, gg⟩).run P w = .ok (.value (.bool (decide (n ≤ m)))) w := by
  simp [go_sem, hx, hy]
theorem r_geq (hd : Nat.blt d N.n = true) (hx : ev ρ x = .int k m) (hy : ev ρ y = .int k n) (h : LW P N ops rest Q (upd ρ d (.bool (decide (n ≤ m)))) w) : LW P N ops (⟨some d, .binOp .geq T x y T2, ty, pos, af, none⟩ :: rest) Q ρ w := LW.v hd (x_geq hx hy) h
theorem x_eql (hx : ev ρ x = .int k m) (hy : ev ρ y = .int k n) : (execOp (ev ρ) ⟨dd, .binOp .eql T x y T2, ty, pos, af, gg⟩).run P w = .ok (.value (.bool (decide (m = n)))) w := by
  simp [go_sem, hx, hy]; rfl
theorem r_eql (hd : Nat.blt d N.n = true) (hx : ev ρ x = .int k m) (hy : ev ρ y = .int k n) (h : LW P N ops rest Q (upd ρ d (.bool (decide (m = n)))) w) : LW P N ops (⟨some d, .binOp .eql T x y T2, ty, pos, af, none⟩ :: rest) Q ρ w := LW.v hd (x_eql hx hy) h
theorem x_neq (hx : ev ρ x = .int k m) (hy : ev ρ y = .int k n) : (execOp (ev ρ) ⟨dd, .binOp .neq T x y T2, ty, pos, af, gg⟩).run P w = .ok (.value (.bool (decide (m ≠ n)))) w := by
  simp [go_sem, hx, hy]; rfl
theorem r_neq (hd : Nat.blt d N.n = true) (hx : ev ρ x = .int k m) (hy : ev ρ y = .int k n) (h : LW P N ops rest Q (upd ρ d (.bool (decide (m ≠ n)))) w) : LW P N ops (⟨some d, .binOp .neq T x y T2, ty, pos, af, none⟩ :: rest) Q ρ w := LW.v hd (x_neq hx hy) h
theorem x_eqlB {a b : Bool}  (hT : P.underlying T = some .bool) (hx : ev ρ x = .bool a) (hy : ev ρ y = .bool b) : (execOp (ev ρ) ⟨dd, .binOp .eql T x y T2, ty, pos, af, gg⟩).run P w = .ok (.value (.bool (a == b))) w := by
  simp [go_sem, hx, hy, hT]
theorem r_eqlB {a b : Bool} (hd : Nat.blt d N.n = true) (hT : P.underlying T = some .bool) (hx : ev ρ x = .bool a) (hy : ev ρ y = .bool b) (h : LW P N ops rest Q (upd ρ d (.bool (a == b))) w) : LW P N ops (⟨some d, .binOp .eql T x y T2, ty, pos, af, none⟩ :: rest) Q ρ w := LW.v hd (x_eqlB hT hx hy) h
theorem x_neqB {a b : Bool}  (hT : P.underlying T = some .bool) (hx : ev ρ x = .bool a) (hy : ev ρ y = .bool b) : (execOp (ev ρ) ⟨dd, .binOp .neq T x y T2, ty, pos, af, gg⟩).run P w = .ok (.value (.bool (a != b))) w := by
  simp [go_sem, hx, hy, hT]; cases a <;> cases b <;> rfl
theorem r_neqB {a b : Bool} (hd : Nat.blt d N.n = true) (hT : P.underlying T = some .bool) (hx : ev ρ x = .bool a) (hy : ev ρ y = .bool b) (h : LW P N ops rest Q (upd ρ d (.bool (a != b))) w) : LW P N ops (⟨some d, .binOp .neq T x y T2, ty, pos, af, none⟩ :: rest) Q ρ w := LW.v hd (x_neqB hT hx hy) h
theorem ba_beq (a b : ByteArray) : (a.toList == b.toList) = decide (a = b) := by
  have e : ∀ x : ByteArray, x.toList = x.data.toList := fun x => ByteArray.toList_eq x
  rw [Bool.eq_iff_iff]
  simp only [beq_iff_eq, decide_eq_true_eq, e]
  constructor
  · intro h; cases a; cases b; simp at h; simp [h]
  · rintro rfl; rfl
theorem x_eqlS {a b : ByteArray}  (hx : ev ρ x = .string a) (hy : ev ρ y = .string b) : (execOp (ev ρ) ⟨dd, .binOp .eql T x y T2, ty, pos, af, gg⟩).run P w = .ok (.value (.bool (decide (a = b)))) w := by
  simp [go_sem, hx, hy, ba_beq]
theorem r_eqlS {a b : ByteArray} (hd : Nat.blt d N.n = true) (hx : ev ρ x = .string a) (hy : ev ρ y = .string b) (h : LW P N ops rest Q (upd ρ d (.bool (decide (a = b)))) w) : LW P N ops (⟨some d, .binOp .eql T x y T2, ty, pos, af, none⟩ :: rest) Q ρ w := LW.v hd (x_eqlS hx hy) h
theorem x_neqS {a b : ByteArray}  (hx : ev ρ x = .string a) (hy : ev ρ y = .string b) : (execOp (ev ρ) ⟨dd, .binOp .neq T x y T2, ty, pos, af, gg⟩).run P w = .ok (.value (.bool (!decide (a = b)))) w := by
  simp [go_sem, hx, hy, ba_beq]
theorem r_neqS {a b : ByteArray} (hd : Nat.blt d N.n = true) (hx : ev ρ x = .string a) (hy : ev ρ y = .string b) (h : LW P N ops rest Q (upd ρ d (.bool (!decide (a = b)))) w) : LW P N ops (⟨some d, .binOp .neq T x y T2, ty, pos, af, none⟩ :: rest) Q ρ w := LW.v hd (x_neqS hx hy) h
theorem x_lssS {a b : ByteArray}  (hx : ev ρ x = .string a) (hy : ev ρ y = .string b) : (execOp (ev ρ) ⟨dd, .binOp .lss T x y T2, ty, pos, af, gg⟩).run P w = .ok (.value (.bool (Op.bytesLess a.toList b.toList))) w := by
  simp [go_sem, hx, hy]
theorem r_lssS {a b : ByteArray} (hd : Nat.blt d N.n = true) (hx : ev ρ x = .string a) (hy : ev ρ y = .string b) (h : LW P N ops rest Q (upd ρ d (.bool (Op.bytesLess a.toList b.toList))) w) : LW P N ops (⟨some d, .binOp .lss T x y T2, ty, pos, af, none⟩ :: rest) Q ρ w := LW.v hd (x_lssS hx hy) h
theorem x_not {a : Bool}  (hx : ev ρ x = .bool a) : (execOp (ev ρ) ⟨dd, .unOp .not T x, ty, pos, af, gg⟩).run P w = .ok (.value (.bool (!a))) w := by
  simp [go_sem, hx]
theorem r_not {a : Bool} (hd : Nat.blt d N.n = true) (hx : ev ρ x = .bool a) (h : LW P N ops rest Q (upd ρ d (.bool (!a))) w) : LW P N ops (⟨some d, .unOp .not T x, ty, pos, af, none⟩ :: rest) Q ρ w := LW.v hd (x_not hx) h
theorem x_convI {k' : IntKind}  (hT : P.underlying T = some (.int k)) (hT2 : P.underlying T2 = some (.int k')) (hx : ev ρ x = .int k m) (hw : k'.wrap m = m) : (execOp (ev ρ) ⟨dd, .convert T T2 x, ty, pos, af, gg⟩).run P w = .ok (.value (.int k' m)) w := by
  simp [go_sem, hx, hT, hT2, hw]
theorem r_convI {k' : IntKind} (hd : Nat.blt d N.n = true) (hT : P.underlying T = some (.int k)) (hT2 : P.underlying T2 = some (.int k')) (hx : ev ρ x = .int k m) (hw : k'.wrap m = m) (h : LW P N ops rest Q (upd ρ d (.int k' m)) w) : LW P N ops (⟨some d, .convert T T2 x, ty, pos, af, none⟩ :: rest) Q ρ w := LW.v hd (x_convI hT hT2 hx hw) h
theorem x_convIw {k' : IntKind}  (hT : P.underlying T = some (.int k)) (hT2 : P.underlying T2 = some (.int k')) (hx : ev ρ x = .int k m) : (execOp (ev ρ) ⟨dd, .convert T T2 x, ty, pos, af, gg⟩).run P w = .ok (.value (.int k' (k'.wrap m))) w := by
  simp [go_sem, hx, hT, hT2]
theorem r_convIw {k' : IntKind} (hd : Nat.blt d N.n = true) (hT : P.underlying T = some (.int k)) (hT2 : P.underlying T2 = some (.int k')) (hx : ev ρ x = .int k m) (h : LW P N ops rest Q (upd ρ d (.int k' (k'.wrap m))) w) : LW P N ops (⟨some d, .convert T T2 x, ty, pos, af, none⟩ :: rest) Q ρ w := LW.v hd (x_convIw hT hT2 hx) h
theorem x_extract {vs : Array Value} {i : Nat} {v : Value}  (hx : ev ρ x = .tuple vs) (hv : vs[i]? = some v) : (execOp (ev ρ) ⟨dd, .extract x i, ty, pos, af, gg⟩).run P w = .ok (.value v) w := by
  simp [go_sem, hx, hv]
theorem r_extract {vs : Array Value} {i : Nat} {v : Value} (hd : Nat.blt d N.n = true) (hx : ev ρ x = .tuple vs) (hv : vs[i]? = some v) (h : LW P N ops rest Q (upd ρ d v) w) : LW P N ops (⟨some d, .extract x i, ty, pos, af, none⟩ :: rest) Q ρ w := LW.v hd (x_extract hx hv) h
theorem x_len {a : Option Addr} {len cap : Nat} {E : TypeId}  (hT : P.underlying T = some (.slice E)) (hx : ev ρ x = .slice a len cap) : (execOp (ev ρ) ⟨dd, .call { callee := .builtin .len, args := #[x], argTypes := #[T] }, ty, pos, af, gg⟩).run P w = .ok (.value (.int .i64 len)) w := by
  simp [go_sem, hx, hT]
theorem r_len {a : Option Addr} {len cap : Nat} {E : TypeId} (hd : Nat.blt d N.n = true) (hT : P.underlying T = some (.slice E)) (hx : ev ρ x = .slice a len cap) (h : LW P N ops rest Q (upd ρ d (.int .i64 len)) w) : LW P N ops (⟨some d, .call { callee := .builtin .len, args := #[x], argTypes := #[T] }, ty, pos, af, none⟩ :: rest) Q ρ w := LW.v hd (x_len hT hx) h
theorem x_lenS {s : ByteArray}  (hT : P.underlying T = some .string) (hx : ev ρ x = .string s) : (execOp (ev ρ) ⟨dd, .call { callee := .builtin .len, args := #[x], argTypes := #[T] }, ty, pos, af, gg⟩).run P w = .ok (.value (.int .i64 s.size)) w := by
  simp [go_sem, hx, hT]
theorem r_lenS {s : ByteArray} (hd : Nat.blt d N.n = true) (hT : P.underlying T = some .string) (hx : ev ρ x = .string s) (h : LW P N ops rest Q (upd ρ d (.int .i64 s.size)) w) : LW P N ops (⟨some d, .call { callee := .builtin .len, args := #[x], argTypes := #[T] }, ty, pos, af, none⟩ :: rest) Q ρ w := LW.v hd (x_lenS hT hx) h
theorem x_nilCheck {a : Addr}  (hx : ev ρ x = .pointer (some a)) : (execOp (ev ρ) ⟨dd, .nilCheck x, ty, pos, af, gg⟩).run P w = .ok (.value (.pointer (some a))) w := by
  simp [go_sem, hx]
theorem r_nilCheck {a : Addr} (hd : Nat.blt d N.n = true) (hx : ev ρ x = .pointer (some a)) (h : LW P N ops rest Q (upd ρ d (.pointer (some a))) w) : LW P N ops (⟨some d, .nilCheck x, ty, pos, af, none⟩ :: rest) Q ρ w := LW.v hd (x_nilCheck hx) h
/-- A load of one cell. -/
theorem x_load {a : Addr} {v : Value}  (hT : ∀ w, (isAgg T).run P w = .ok false w) (hx : ev ρ x = .pointer (some a)) (hc : w.cell? a = some v) : (execOp (ev ρ) ⟨dd, .load T x, ty, pos, af, gg⟩).run P w = .ok (.value v) w := by
  simp [go_sem, hx, hT, hc]
theorem r_load {a : Addr} {v : Value} (hd : Nat.blt d N.n = true) (hT : ∀ w, (isAgg T).run P w = .ok false w) (hx : ev ρ x = .pointer (some a)) (hc : w.cell? a = some v) (h : LW P N ops rest Q (upd ρ d v) w) : LW P N ops (⟨some d, .load T x, ty, pos, af, none⟩ :: rest) Q ρ w := LW.v hd (x_load hT hx hc) h
theorem addr_add (b o s : Nat) : (⟨b, o, none⟩ : Addr).add s = ⟨b, o + s, none⟩ := by unfold Addr.add; split <;> simp_all
/-- xs[i]'s address. -/
theorem x_indexAddr {b o len cap : Nat} {E : TypeId} {s : Nat} (hT : P.underlying T = some (.slice E)) (hs : ∀ w, (sizeOf E).run P w = .ok s w) (hx : ev ρ x = .slice (some ⟨b, o, none⟩) len cap) (hy : ev ρ y = .int k m) (h0 : 0 ≤ m) (h1 : m < len) :
    (execOp (ev ρ) ⟨dd, .indexAddr T x y, ty, pos, af, gg⟩).run P w = .ok (.value (.pointer (some ⟨b, o + m.toNat * s, none⟩))) w := by simp [go_sem, hx, hy, hT, hs, h0, h1, addr_add]
theorem r_indexAddr {b o len cap : Nat} {E : TypeId} {s : Nat} (hd : Nat.blt d N.n = true) (hT : P.underlying T = some (.slice E)) (hs : ∀ w, (sizeOf E).run P w = .ok s w) (hx : ev ρ x = .slice (some ⟨b, o, none⟩) len cap) (hy : ev ρ y = .int k m) (h0 : 0 ≤ m) (h1 : m < len)
    (h : LW P N ops rest Q (upd ρ d (.pointer (some ⟨b, o + m.toNat * s, none⟩))) w) : LW P N ops (⟨some d, .indexAddr T x y, ty, pos, af, none⟩ :: rest) Q ρ w := LW.v hd (x_indexAddr hT hs hx hy h0 h1) h
/-- s[i] of a string. -/
theorem x_indexS {s : ByteArray} (hT : P.underlying T = some .string) (hx : ev ρ x = .string s) (hy : ev ρ y = .int k m) (h0 : 0 ≤ m) (h1 : m.toNat < s.size) :
    (execOp (ev ρ) ⟨dd, .index T x y, ty, pos, af, gg⟩).run P w = .ok (.value (.int .u8 ((s.data.toList.getD m.toNat 0).toNat))) w := by
  have h2 : s[m.toNat]? = some (s.data.toList.getD m.toNat 0) := by
    have h3 : s[m.toNat]? = some s[m.toNat] := by simp [h1]
    rw [h3]
    have h4 : m.toNat < s.data.size := h1
    have : s[m.toNat] = s.data[m.toNat] := rfl
    rw [this]
    simp [Array.getElem?_eq_getElem h4]
  simp [go_sem, hx, hy, Instr.index, asIntOf, run_underlying hT, h0, h2]
theorem r_indexS {s : ByteArray} (hd : Nat.blt d N.n = true) (hT : P.underlying T = some .string) (hx : ev ρ x = .string s) (hy : ev ρ y = .int k m) (h0 : 0 ≤ m) (h1 : m.toNat < s.size)
    (h : LW P N ops rest Q (upd ρ d (.int .u8 ((s.data.toList.getD m.toNat 0).toNat))) w) : LW P N ops (⟨some d, .index T x y, ty, pos, af, none⟩ :: rest) Q ρ w := LW.v hd (x_indexS hT hx hy h0 h1) h
/-- A field's address. -/
theorem x_fieldAddr {b o : Nat} {fs : Array Field} {i : Nat} {f : Field} {s : Nat} (hT : P.underlying T = some (.struct fs)) (hf : fs[i]? = some f) (hs : ∀ w, (sizeOf f.type).run P w = .ok s w) (h0 : s ≠ 0) (hx : ev ρ x = .pointer (some ⟨b, o, none⟩)) :
    (execOp (ev ρ) ⟨dd, .fieldAddr T x i, ty, pos, af, gg⟩).run P w = .ok (.value (.pointer (some ⟨b, o + f.offset, none⟩))) w := by
  simp [go_sem, hx, Instr.fieldAt, Instr.sureAddr, run_underlying hT, hf, fieldPlace, hs, h0, addr_add]
theorem r_fieldAddr {b o : Nat} {fs : Array Field} {i : Nat} {f : Field} {s : Nat} (hd : Nat.blt d N.n = true) (hT : P.underlying T = some (.struct fs)) (hf : fs[i]? = some f) (hs : ∀ w, (sizeOf f.type).run P w = .ok s w) (h0 : s ≠ 0) (hx : ev ρ x = .pointer (some ⟨b, o, none⟩))
    (h : LW P N ops rest Q (upd ρ d (.pointer (some ⟨b, o + f.offset, none⟩))) w) : LW P N ops (⟨some d, .fieldAddr T x i, ty, pos, af, none⟩ :: rest) Q ρ w := LW.v hd (x_fieldAddr hT hf hs h0 hx) h
/-- A field of a struct that is a value: of one cell. -/
theorem x_field {cs : Array Value} {fs : Array Field} {i : Nat} {f : Field} {v : Value} (hT : P.underlying T = some (.struct fs)) (hf : fs[i]? = some f) (ha : ∀ w, (isAgg f.type).run P w = .ok false w) (hx : ev ρ x = .agg cs) (hv : cs[f.offset]? = some v) :
    (execOp (ev ρ) ⟨dd, .field T x i, ty, pos, af, gg⟩).run P w = .ok (.value v) w := by
  simp [go_sem, hx, Instr.field, run_underlying hT, hf, part, ha, hv, asAgg]
theorem r_field {cs : Array Value} {fs : Array Field} {i : Nat} {f : Field} {v : Value} (hd : Nat.blt d N.n = true) (hT : P.underlying T = some (.struct fs)) (hf : fs[i]? = some f) (ha : ∀ w, (isAgg f.type).run P w = .ok false w) (hx : ev ρ x = .agg cs) (hv : cs[f.offset]? = some v)
    (h : LW P N ops rest Q (upd ρ d v) w) : LW P N ops (⟨some d, .field T x i, ty, pos, af, none⟩ :: rest) Q ρ w := LW.v hd (x_field hT hf ha hx hv) h
/-- .. a struct itself. -/
theorem x_fieldA {cs : Array Value} {fs : Array Field} {i : Nat} {f : Field} {s : Nat} (hT : P.underlying T = some (.struct fs)) (hf : fs[i]? = some f) (ha : ∀ w, (isAgg f.type).run P w = .ok true w) (hs : ∀ w, (sizeOf f.type).run P w = .ok s w) (hx : ev ρ x = .agg cs) :
    (execOp (ev ρ) ⟨dd, .field T x i, ty, pos, af, gg⟩).run P w = .ok (.value (.agg (cs.extract f.offset (f.offset + s)))) w := by
  simp [go_sem, hx, Instr.field, run_underlying hT, hf, part, ha, hs, asAgg]
theorem r_fieldA {cs : Array Value} {fs : Array Field} {i : Nat} {f : Field} {s : Nat} (hd : Nat.blt d N.n = true) (hT : P.underlying T = some (.struct fs)) (hf : fs[i]? = some f) (ha : ∀ w, (isAgg f.type).run P w = .ok true w) (hs : ∀ w, (sizeOf f.type).run P w = .ok s w) (hx : ev ρ x = .agg cs)
    (h : LW P N ops rest Q (upd ρ d (.agg (cs.extract f.offset (f.offset + s)))) w) : LW P N ops (⟨some d, .field T x i, ty, pos, af, none⟩ :: rest) Q ρ w := LW.v hd (x_fieldA hT hf ha hs hx) h
/-- A value made an interface's. -/
theorem x_makeInterface {v : Value} (hT : P.concrete T = true) (hx : ev ρ x = v) : (execOp (ev ρ) ⟨dd, .makeInterface T x, ty, pos, af, gg⟩).run P w = .ok (.value (.iface T v)) w := by simp only [execOp, hx, Sem.run_bind, run_makeInterface w T v hT, Result.andThen_ok, Sem.run_pure]
theorem r_makeInterface {v : Value} (hd : Nat.blt d N.n = true) (hT : P.concrete T = true) (hx : ev ρ x = v) (h : LW P N ops rest Q (upd ρ d (.iface T v)) w) : LW P N ops (⟨some d, .makeInterface T x, ty, pos, af, none⟩ :: rest) Q ρ w := LW.v hd (x_makeInterface hT hx) h
/-- v, ok := x.(T): it is one; it is nil. -/
theorem r_typeAssertT {v : Value} {D : TypeDesc} (hd : Nat.blt d N.n = true) (hT : P.underlying T2 = some D) (hD : ∀ ms, D ≠ .interface ms) (hx : ev ρ x = .iface T2 v) (h : LW P N ops rest Q (upd ρ d (.tuple #[v, .bool true])) w) : LW P N ops (⟨some d, .typeAssert x T T2 true, ty, pos, af, none⟩ :: rest) Q ρ w := LW.v hd (by
  cases D <;> first | exact absurd rfl (hD _) | simp [execOp, hx, Instr.typeAssert, run_underlying hT, Sem.run_pure, Sem.run_bind]) h
theorem r_typeAssertF {zv : Value} {D : TypeDesc} (hd : Nat.blt d N.n = true) (hT : P.underlying T2 = some D) (hz : ∀ w, (zeroValue T2).run P w = .ok zv w) (hx : ev ρ x = .nilIface) (h : LW P N ops rest Q (upd ρ d (.tuple #[zv, .bool false])) w) : LW P N ops (⟨some d, .typeAssert x T T2 true, ty, pos, af, none⟩ :: rest) Q ρ w := LW.v hd (by
  cases D <;> simp [execOp, hx, Instr.typeAssert, run_underlying hT, hz, Sem.run_pure, Sem.run_bind]) h
/-- A struct's value, put together. -/
theorem x_build {fs : Array Field} {zv : Value} {zl cs : List Value} {parts : Array (Nat × Operand)} {pl : List (Nat × Nat)} (hT : P.underlying T = some (.struct fs)) (hz : ∀ w, (zeroValue T).run P w = .ok zv w) (hzl : cellsL zv = zl)
    (hpl : ∀ w, (fs.mapM (fun f => do pure (f.offset, ← sizeOf f.type) : Field → Sem (Nat × Nat))).run P w = .ok pl.toArray w) (hc : fillL pl zl (parts.toList.map (fun p => (p.1, ev ρ p.2))) = some cs) :
    (execOp (ev ρ) ⟨dd, .build T parts, ty, pos, af, gg⟩).run P w = .ok (.value (.agg cs.toArray)) w := by
  have hmap : (parts.map (fun p => match p with | (i, x) => (i, ev ρ x))) = parts.map (fun p => (p.1, ev ρ p.2)) := rfl
  have hf := fillL_eq pl _ _ _ hc
  have hzc : zv.cells = zl.toArray := by rw [← hzl, cellsL_eq]
  have hpl' := hpl w
  have hm2 : (parts.map (fun p => (p.1, ev ρ p.2))).toList = parts.toList.map (fun p => (p.1, ev ρ p.2)) := by simp
  simp only [execOp, hmap, Instr.build, Sem.run_bind, hz, Result.andThen_ok, run_underlying hT]
  simp only [hzc, hm2] at *
  rw [hpl']
  simp only [Result.andThen_ok]
  rw [hf]
  simp only [Sem.run_pure, Result.andThen_ok]
theorem r_build {fs : Array Field} {zv : Value} {zl cs : List Value} {parts : Array (Nat × Operand)} {pl : List (Nat × Nat)} (hd : Nat.blt d N.n = true) (hT : P.underlying T = some (.struct fs)) (hz : ∀ w, (zeroValue T).run P w = .ok zv w) (hzl : cellsL zv = zl)
    (hpl : ∀ w, (fs.mapM (fun f => do pure (f.offset, ← sizeOf f.type) : Field → Sem (Nat × Nat))).run P w = .ok pl.toArray w) (hc : fillL pl zl (parts.toList.map (fun p => (p.1, ev ρ p.2))) = some cs)
    (h : LW P N ops rest Q (upd ρ d (.agg cs.toArray)) w) : LW P N ops (⟨some d, .build T parts, ty, pos, af, none⟩ :: rest) Q ρ w := LW.v hd (x_build hT hz hzl hpl hc) h
/-- A text of bytes. -/
theorem r_panic {t : TypeId} {v : Value} {d : Option Nat} (hx : ev ρ x = .iface t v) (h : Q (.panic [{ v := .iface t v, recovered := false }]) ρ w) : LW P N ops (⟨d, .panic x, ty, pos, af, none⟩ :: rest) Q ρ w :=
  LW.pan rfl (by simp [go_sem, hx]) h
/-- A call of a function of the program. -/
theorem r_call {f : FuncId} {args : Array Operand} {tys : Array TypeId} {R : Ending → World → Prop} {l : List Value} (hd : Nat.blt d N.n = true) (hc : ∀ (l : Array Value) w, (callFunc f l).run P w = .ok (.enter f l) w)
    (hl : (args.toList.map (ev ρ)) = l) (hR : Calls P f l.toArray w R) (h : ∀ e w', R e w' → ∃ v, e = .returned v ∧ LW P N ops rest Q (upd ρ d v) w') :
    LW P N ops (⟨some d, .call { callee := .value (.func f), args := args, argTypes := tys }, ty, pos, af, none⟩ :: rest) Q ρ w := by
  refine LW.enter rfl (fun _ e => by cases e; exact Nat.le_of_ble_eq_true hd) ?_ hR h
  have hA : args.map (ev ρ) = l.toArray := by rw [← hl, ← Array.toList_map]
  simp [execOp, resolve, ev, hc, hA, invoke, Sem.run_bind, Deferred.ofValue]
theorem r_call0 {f : FuncId} {args : Array Operand} {tys : Array TypeId} {R : Ending → World → Prop} {l : List Value} (hc : ∀ (l : Array Value) w, (callFunc f l).run P w = .ok (.enter f l) w)
    (hl : (args.toList.map (ev ρ)) = l) (hR : Calls P f l.toArray w R) (h : ∀ e w', R e w' → ∃ v, e = .returned v ∧ LW P N ops rest Q ρ w') :
    LW P N ops (⟨none, .call { callee := .value (.func f), args := args, argTypes := tys }, ty, pos, af, none⟩ :: rest) Q ρ w := by
  refine LW.enter rfl (fun _ e => by cases e) ?_ hR h
  have hA : args.map (ev ρ) = l.toArray := by rw [← hl, ← Array.toList_map]
  simp [execOp, resolve, ev, hc, hA, invoke, Sem.run_bind, Deferred.ofValue]

theorem wr_i64 {n : Int} (h0 : -9223372036854775808 ≤ n) (h1 : n < 9223372036854775808) : IntKind.i64.wrap n = n := by rw [IntWalk.i64_in]; omega
theorem wr_u8 {n : Int} (h0 : 0 ≤ n) (h1 : n < 256) : IntKind.u8.wrap n = n := by rw [IntWalk.u8_in]; omega
theorem wr_u16 {n : Int} (h0 : 0 ≤ n) (h1 : n < 65536) : IntKind.u16.wrap n = n := by rw [IntWalk.u16_in]; omega
theorem wr_u64 {n : Int} (h0 : 0 ≤ n) (h1 : n < 18446744073709551616) : IntKind.u64.wrap n = n := by rw [IntWalk.u64_in]; omega

theorem r_callP {f : FuncId} {args : Array Operand} {tys : Array TypeId} {R : Ending → World → Prop} {l : List Value} (hd : Nat.blt d N.n = true) (hc : ∀ (l : Array Value) w, (callFunc f l).run P w = .ok (.enter f l) w)
    (hl : (args.toList.map (ev ρ)) = l) (hR : Calls P f l.toArray w R) (h : ∀ e w', R e w' → (∃ v, e = .returned v ∧ LW P N ops rest Q (upd ρ d v) w') ∨ (∃ c, e = .panicked c ∧ Q (.panic c) ρ w')) :
    LW P N ops (⟨some d, .call { callee := .value (.func f), args := args, argTypes := tys }, ty, pos, af, none⟩ :: rest) Q ρ w := by
  have hA : args.map (ev ρ) = l.toArray := by rw [← hl, ← Array.toList_map]
  have hr : (execOp (ev ρ) ⟨some d, .call { callee := .value (.func f), args := args, argTypes := tys }, ty, pos, af, none⟩).run P w = .ok (.enter f l.toArray) w := by
    simp [execOp, resolve, ev, hc, hA, invoke, Sem.run_bind, Deferred.ofValue]
  intro a ha
  refine wpList_plain rfl fun K hK => ?_
  unfold Oper.wp
  rw [ha.eval, hr]
  refine hR.mono fun e w' he => ?_
  rcases h e w' he with ⟨v, rfl, hv⟩ | ⟨c, rfl, hq⟩
  · exact hK _ _ (hv _ (ha.put (Nat.le_of_ble_eq_true hd) v))
  · exact ⟨ρ, ha, hq⟩

theorem cond_split {b : Bool} {G : Prop} (ht : b = true → G) (hf : b = false → G) : G := by cases b; exact hf rfl; exact ht rfl
end rules
end Go.V
