/-
  The order of texts; comparisons of texts. No program here.
-/
import Derived.Test.YtaggdlbjgjagbaaVMin
namespace Go.V
set_option linter.unusedSimpArgs false
set_option linter.unusedVariables false
open Go.RowKit

/-- Stands a text ahead of another one? -/
def ltS (a b : ByteArray) : Bool := Op.bytesLess a.data.toList b.data.toList
theorem bl_irr : ∀ x : List UInt8, Op.bytesLess x x = false
  | [] => rfl
  | a :: x => by
    rw [Op.bytesLess, bl_irr x]
    simp
theorem bl_tri : ∀ x y : List UInt8, Op.bytesLess x y = false → Op.bytesLess y x = false → x = y
  | [], [], _, _ => rfl
  | [], b :: y, h, _ => by simp [Op.bytesLess] at h
  | a :: x, [], _, h => by simp [Op.bytesLess] at h
  | a :: x, b :: y, h1, h2 => by
    simp only [Op.bytesLess, Bool.or_eq_false_iff, decide_eq_false_iff_not, UInt8.lt_iff_toNat_lt] at h1 h2
    have e : a = b := UInt8.toNat_inj.1 (by omega)
    subst e
    simp only [beq_self_eq_true, Bool.true_and] at h1 h2
    rw [bl_tri x y h1.2 h2.2]
theorem bl_trans : ∀ x y z : List UInt8, Op.bytesLess x y = true → Op.bytesLess y z = true → Op.bytesLess x z = true
  | _, [], _, h, _ => by simp [Op.bytesLess] at h
  | _, _ :: _, [], _, h => by simp [Op.bytesLess] at h
  | [], _ :: _, c :: z, _, _ => rfl
  | a :: x, b :: y, c :: z, h1, h2 => by
    simp only [Op.bytesLess, Bool.or_eq_true, Bool.and_eq_true, decide_eq_true_eq, beq_iff_eq, UInt8.lt_iff_toNat_lt] at h1 h2 ⊢
    rcases h1 with h1 | ⟨rfl, h1⟩
    · rcases h2 with h2 | ⟨rfl, h2⟩
      · exact .inl (by omega)
      · exact .inl h1
    · rcases h2 with h2 | ⟨rfl, h2⟩
      · exact .inl h2
      · exact .inr ⟨rfl, bl_trans x y z h1 h2⟩
theorem ltS_irr (a : ByteArray) : ltS a a = false := bl_irr _
theorem ltS_tri {a b : ByteArray} (h1 : ltS a b = false) (h2 : ltS b a = false) : a = b := by
  have := bl_tri _ _ h1 h2
  cases a; cases b
  simp at this
  simp [this]
theorem ltS_trans {a b c : ByteArray} (h1 : ltS a b = true) (h2 : ltS b c = true) : ltS a c = true := bl_trans _ _ _ h1 h2
theorem ltS_asym {a b : ByteArray} (h : ltS a b = true) : ltS b a = false := by
  cases h2 : ltS b a
  · rfl
  · have := ltS_trans h h2
    rw [ltS_irr] at this; cases this
theorem ltS_ne {a b : ByteArray} (h : ltS a b = true) : a ≠ b := by
  rintro rfl
  rw [ltS_irr] at h; cases h
theorem less_ltS (a b : ByteArray) : Op.bytesLess a.toList b.toList = ltS a b := by
  rw [ltS, ByteArray.toList_eq, ByteArray.toList_eq]
theorem leq_ltS (a b : ByteArray) : (Op.bytesLess a.toList b.toList || a.toList == b.toList) = !ltS b a := by
  rw [less_ltS, ba_beq]
  by_cases h : a = b
  · subst h; simp [ltS_irr]
  · cases h1 : ltS a b <;> cases h2 : ltS b a
    · exact absurd (ltS_tri h1 h2) h
    · simp [h]
    · simp
    · have := ltS_asym h1
      rw [h2] at this; cases this

section
variable {P : Program} {N : Fr} {ops : Array Oper} {rest : List Oper} {Q : EPost} {ρ : Env} {w : World} {d : Nat} {dd : Option Nat} {T T2 : TypeId} {x y : Operand} {ty : TypeId} {pos : String} {af : Array Edge} {gg : Option (Nat × Bool)}
theorem x_lssL {a b : ByteArray} (hx : ev ρ x = .string a) (hy : ev ρ y = .string b) : (execOp (ev ρ) ⟨dd, .binOp .lss T x y T2, ty, pos, af, gg⟩).run P w = .ok (.value (.bool (ltS a b))) w := by
  rw [← less_ltS]; exact x_lssS hx hy
theorem r_lssL {a b : ByteArray} (hd : Nat.blt d N.n = true) (hx : ev ρ x = .string a) (hy : ev ρ y = .string b) (h : LW P N ops rest Q (upd ρ d (.bool (ltS a b))) w) : LW P N ops (⟨some d, .binOp .lss T x y T2, ty, pos, af, none⟩ :: rest) Q ρ w := LW.v hd (x_lssL hx hy) h
theorem x_geqS {a b : ByteArray} (hx : ev ρ x = .string a) (hy : ev ρ y = .string b) : (execOp (ev ρ) ⟨dd, .binOp .geq T x y T2, ty, pos, af, gg⟩).run P w = .ok (.value (.bool (!ltS a b))) w := by
  rw [← less_ltS]; simp [go_sem, hx, hy]
theorem r_geqS {a b : ByteArray} (hd : Nat.blt d N.n = true) (hx : ev ρ x = .string a) (hy : ev ρ y = .string b) (h : LW P N ops rest Q (upd ρ d (.bool (!ltS a b))) w) : LW P N ops (⟨some d, .binOp .geq T x y T2, ty, pos, af, none⟩ :: rest) Q ρ w := LW.v hd (x_geqS hx hy) h
theorem x_leqS {a b : ByteArray} (hx : ev ρ x = .string a) (hy : ev ρ y = .string b) : (execOp (ev ρ) ⟨dd, .binOp .leq T x y T2, ty, pos, af, gg⟩).run P w = .ok (.value (.bool (!ltS b a))) w := by
  rw [← leq_ltS]; simp [go_sem, hx, hy]
theorem r_leqS {a b : ByteArray} (hd : Nat.blt d N.n = true) (hx : ev ρ x = .string a) (hy : ev ρ y = .string b) (h : LW P N ops rest Q (upd ρ d (.bool (!ltS b a))) w) : LW P N ops (⟨some d, .binOp .leq T x y T2, ty, pos, af, none⟩ :: rest) Q ρ w := LW.v hd (x_leqS hx hy) h
theorem x_gtrS {a b : ByteArray} (hx : ev ρ x = .string a) (hy : ev ρ y = .string b) : (execOp (ev ρ) ⟨dd, .binOp .gtr T x y T2, ty, pos, af, gg⟩).run P w = .ok (.value (.bool (ltS b a))) w := by
  have h := leq_ltS a b
  have h2 : ltS b a = !(Op.bytesLess a.toList b.toList || a.toList == b.toList) := by rw [h, Bool.not_not]
  rw [h2]; simp [go_sem, hx, hy]
theorem r_gtrS {a b : ByteArray} (hd : Nat.blt d N.n = true) (hx : ev ρ x = .string a) (hy : ev ρ y = .string b) (h : LW P N ops rest Q (upd ρ d (.bool (ltS b a))) w) : LW P N ops (⟨some d, .binOp .gtr T x y T2, ty, pos, af, none⟩ :: rest) Q ρ w := LW.v hd (x_gtrS hx hy) h
theorem x_addS {a b : ByteArray} (hx : ev ρ x = .string a) (hy : ev ρ y = .string b) (h : a.size + b.size ≤ 9223372036854775807) : (execOp (ev ρ) ⟨dd, .binOp .add T x y T2, ty, pos, af, gg⟩).run P w = .ok (.value (.string (a ++ b))) w := by
  have h' : ¬ ((a.size : Int) + (b.size : Int) > 9223372036854775807) := by omega
  simp [go_sem, hx, hy, IntKind.max, IntKind.bits, IntKind.signed]
  omega
theorem r_addS {a b : ByteArray} (hd : Nat.blt d N.n = true) (hx : ev ρ x = .string a) (hy : ev ρ y = .string b) (hs : a.size + b.size ≤ 9223372036854775807) (h : LW P N ops rest Q (upd ρ d (.string (a ++ b))) w) : LW P N ops (⟨some d, .binOp .add T x y T2, ty, pos, af, none⟩ :: rest) Q ρ w := LW.v hd (x_addS hx hy hs) h
end
theorem ba_app (a b : ByteArray) : (a ++ b).data.toList = a.data.toList ++ b.data.toList := by simp
/-- Bytes that are new, as a chunk that is looked at. -/
theorem SH.fromR {α : Type} [Row α] {w w' : World} {v : Value} {xs : List α} (e : Ext0 w w') (h : Rs (New w) w' v xs) : SH Non Non w w' [.R (fun b => New w b ∧ b < w'.heap.size) v xs] :=
  ⟨e, Val.one ⟨h.mono (fun b hb h => ⟨h, hb⟩), Ch.stR, fun b hb => hb.2, fun h => h.elim, fun b hb => .inl (.inr hb.1)⟩⟩
end Go.V
