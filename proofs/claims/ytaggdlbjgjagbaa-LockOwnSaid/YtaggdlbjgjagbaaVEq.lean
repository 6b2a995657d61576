/-
  Rules: two structs compared. No statement of the claim stands here.
-/
import Derived.Test.YtaggdlbjgjagbaaVDraw
import Derived.ChangeKeysEq
namespace Go.V
set_option linter.unusedSimpArgs false
set_option linter.unusedVariables false
open Go.RowKit

def EqA (P : Program) (d : Nat) (t : TypeId) (x y : Value) (b : Bool) : Prop := ∀ w, (Op.equalIn d t x y).run P w = .ok b w
def EqF (P : Program) (d : Nat) (fs : List Field) (xs ys : List Value) (b : Bool) : Prop := ∀ w, (Op.eqFields d xs.toArray ys.toArray fs).run P w = .ok b w
section
variable {P : Program} {d : Nat} {t : TypeId}
theorem EqA.int {k k' : IntKind} {a b : Int} (hu : P.underlying t = some (.int k)) : EqA P (d + 1) t (.int k' a) (.int k' b) (decide (a = b)) := fun w => by
  simp [Op.equalIn, run_underlying hu]
  rw [Bool.eq_iff_iff]; simp
theorem EqA.str {a b : ByteArray} (hu : P.underlying t = some .string) : EqA P (d + 1) t (.string a) (.string b) (decide (a = b)) := fun w => by
  rw [run_equalIn_string w d t a b hu, ba_beq]
theorem EqA.bool {a b : Bool} (hu : P.underlying t = some .bool) : EqA P (d + 1) t (.bool a) (.bool b) (a == b) := fun w => by
  simp [Op.equalIn, run_underlying hu]
theorem EqA.struct {fs : Array Field} {xs ys : List Value} {b : Bool} (hu : P.underlying t = some (.struct fs)) (hs : P.stoodInHeld t = false) (h : EqF P d fs.toList xs ys b) : EqA P (d + 1) t (.agg xs.toArray) (.agg ys.toArray) b := fun w => by
  have hf : P.fieldsOf t = fs := by simp [Program.fieldsOf, hu]
  rw [run_equalIn_struct (P := P) w d t xs.toArray ys.toArray (by rw [hf]; exact hu) hs, hf]
  exact h w
theorem EqF.nil {xs ys : List Value} : EqF P d [] xs ys true := fun w => by simp [Op.eqFields]
theorem EqF.one {f : Field} {fs : List Field} {xs ys : List Value} {x y : Value} {b c : Bool} (hn : (f.name != "_") = true) (ha : ∀ w, (isAgg f.type).run P w = .ok false w) (hx : xs[f.offset]? = some x) (hy : ys[f.offset]? = some y)
    (h1 : EqA P d f.type x y b) (h2 : EqF P d fs xs ys c) : EqF P d (f :: fs) xs ys (b && c) := fun w => by
  have hn' : f.name ≠ "_" := by simpa using hn
  have h1' : (Op.equalIn d f.type x y).run P w = .ok b w := h1 w
  have px : (part f.type xs.toArray f.offset).run P w = .ok x w := by simp [part, ha, hx]
  have py : (part f.type ys.toArray f.offset).run P w = .ok y w := by simp [part, ha, hy]
  simp only [Op.eqFields, hn', ne_eq, not_false_eq_true, if_true, Sem.run_bind, px, py, Result.andThen_ok, h1']
  cases b
  · simp
  · simpa using h2 w
theorem EqF.agg {f : Field} {fs : List Field} {xs ys : List Value} {n : Nat} {b c : Bool} (hn : (f.name != "_") = true) (ha : ∀ w, (isAgg f.type).run P w = .ok true w) (hs : ∀ w, (sizeOf f.type).run P w = .ok n w)
    (h1 : EqA P d f.type (.agg ((xs.drop f.offset).take n).toArray) (.agg ((ys.drop f.offset).take n).toArray) b) (h2 : EqF P d fs xs ys c) : EqF P d (f :: fs) xs ys (b && c) := fun w => by
  have hn' : f.name ≠ "_" := by simpa using hn
  have e : ∀ zs : List Value, zs.toArray.extract f.offset (f.offset + n) = ((zs.drop f.offset).take n).toArray := fun zs => by
    apply Array.ext'; simp
  have h1' := h1 w
  have px : ∀ zs : List Value, (part f.type zs.toArray f.offset).run P w = .ok (.agg ((zs.drop f.offset).take n).toArray) w := fun zs => by
    rw [← e]; simp only [part, Sem.run_bind, ha, hs, Result.andThen_ok, if_true, Sem.run_pure]
  simp only [Op.eqFields, hn', ne_eq, not_false_eq_true, if_true, Sem.run_bind, px, Result.andThen_ok, h1']
  cases b
  · simp
  · simpa using h2 w
end
section rules
variable {P : Program} {N : Fr} {ops : Array Oper} {rest : List Oper} {Q : EPost} {ρ : Env} {w : World}
variable {d : Nat} {dd : Option Nat} {gg : Option (Nat × Bool)} {ty T T2 : TypeId} {pos : String} {af : Array Edge} {x y : Operand}
theorem x_eqlG {xs ys : List Value} {b : Bool} (hT : P.eqGuardType P.depth T = false) (hx : ev ρ x = .agg xs.toArray) (hy : ev ρ y = .agg ys.toArray) (h : EqA P 10000 T (.agg xs.toArray) (.agg ys.toArray) b) :
    (execOp (ev ρ) ⟨dd, .binOp .eql T x y T2, ty, pos, af, gg⟩).run P w = .ok (.value (.bool b)) w := by
  have h' := h w
  simp only [execOp, hx, hy, eqGuard, Go.binOp]
  simp [hT, go_sem, Op.equal, Op.maxDepth, h']
theorem r_eqlG {xs ys : List Value} {b : Bool} (hd : Nat.blt d N.n = true) (hT : P.eqGuardType P.depth T = false) (hx : ev ρ x = .agg xs.toArray) (hy : ev ρ y = .agg ys.toArray) (h : EqA P 10000 T (.agg xs.toArray) (.agg ys.toArray) b)
    (k : LW P N ops rest Q (upd ρ d (.bool b)) w) : LW P N ops (⟨some d, .binOp .eql T x y T2, ty, pos, af, none⟩ :: rest) Q ρ w := LW.v hd (x_eqlG hT hx hy h) k
theorem x_neqG {xs ys : List Value} {b : Bool} (hT : P.eqGuardType P.depth T = false) (hx : ev ρ x = .agg xs.toArray) (hy : ev ρ y = .agg ys.toArray) (h : EqA P 10000 T (.agg xs.toArray) (.agg ys.toArray) b) :
    (execOp (ev ρ) ⟨dd, .binOp .neq T x y T2, ty, pos, af, gg⟩).run P w = .ok (.value (.bool (!b))) w := by
  have h' := h w
  simp only [execOp, hx, hy, eqGuard, Go.binOp]
  simp [hT, go_sem, Op.equal, Op.maxDepth, h']
theorem r_neqG {xs ys : List Value} {b : Bool} (hd : Nat.blt d N.n = true) (hT : P.eqGuardType P.depth T = false) (hx : ev ρ x = .agg xs.toArray) (hy : ev ρ y = .agg ys.toArray) (h : EqA P 10000 T (.agg xs.toArray) (.agg ys.toArray) b)
    (k : LW P N ops rest Q (upd ρ d (.bool (!b))) w) : LW P N ops (⟨some d, .binOp .neq T x y T2, ty, pos, af, none⟩ :: rest) Q ρ w := LW.v hd (x_neqG hT hx hy h) k
theorem x_b2s {E : TypeId} {F : Nat → Prop} {v : Value} {p : Nat} {xs : List UInt8} (hT : P.underlying T = some (.slice E)) (hE : P.underlying E = some (.int .u8)) (hT2 : P.underlying T2 = some .string) (hx : ev ρ x = v) (hv : Sl F w v p (xs.map u8v)) (hp : xs.length = p) :
    (execOp (ev ρ) ⟨dd, .convert T T2 x, ty, pos, af, gg⟩).run P w = .ok (.value (.string ⟨xs.toArray⟩)) w := by
  simp only [execOp, hx, Sem.run_bind, run_b2s hT hE hT2 hv hp, Result.andThen_ok, Sem.run_pure]
end rules
end Go.V
