/-
  Rules: a slice cut to its length has no room; what is appended to it makes a new array. No program here.
-/
import Derived.Test.YtalieccfdmokmaaVCell
import Derived.Test.YtalieccfdmokmaaVSepF
namespace Go.V
set_option linter.unusedSimpArgs false
set_option linter.unusedVariables false
open Go.RowKit

def fullV : Value → Value
  | .slice ao n _ => .slice ao n n
  | v => v
section
variable {P : Program} {N : Fr} {ops : Array Oper} {rest : List Oper} {Q : EPost} {ρ : Env} {w w0 : World} {d : Nat} {T T2 E : TypeId} {x y z y2 : Operand} {ty : TypeId} {pos : String} {af : Array Edge} {U G : Nat → Prop} {L : List Ch}
theorem r_sliceFull {α : Type} {_r : Row α} {F : Nat → Prop} {v : Value} {xs : List α} {kh km : IntKind} (hd : Nat.blt d N.n = true) (hT : P.underlying T = some (.slice E)) (hx : ev ρ x = v) (hz : ev ρ z = .int kh xs.length) (hz2 : ev ρ y2 = .int km xs.length) (hr : Rs F w v xs) (hs : ∀ w, (sizeOf E).run P w = .ok (Row.sz α) w)
    (hk : LW P N ops rest Q (upd ρ d (fullV v)) w) : LW P N ops (⟨some d, .slice T x none (some z) (some y2), ty, pos, af, none⟩ :: rest) Q ρ w := by
  obtain ⟨ao, cap, rfl, h1, h2⟩ := hr.shape
  refine r_sliceHMc hd hT hs hx hz hz2 (by omega) (by omega) (by omega) ?_
  rw [Int.toNat_natCast]
  exact hk
theorem s_appendFull {α : Type} {_r : Row α} {F K : Nat → Prop} {i : TypeInfo} {zv v u : Value} {xs ys : List α} (H : SH U G w0 w L) (hd : Nat.blt d N.n = true) (ht : P.underlying T = some (.slice E)) (hu : P.underlying T2 = some (.slice E)) (hi : P.info? E = some i) (hz : i.zero = some zv)
    (hx : ev ρ x = fullV v) (hy : ev ρ y = u) (hv : Rs F w v xs) (hr : Rs K w u ys) (hs : i.size = Row.sz α) (hzs : zv.cells.size = Row.sz α) (h0 : 0 < ys.length) (hb : (xs.length + ys.length) * i.bytes ≤ 140737488355328) (h63 : xs.length + ys.length ≤ maxLen)
    (h : ∀ v' w' g', SH U G w0 w' (L ++ [.O E v' (xs ++ ys) g']) → (v' = .slice none 0 0 ↔ False) → LW P N ops rest Q (upd ρ d v') w') :
    LW P N ops (⟨some d, .call { callee := .builtin .append, args := #[x, y], argTypes := #[T, T2] }, ty, pos, af, none⟩ :: rest) Q ρ w := by
  obtain ⟨⟨ao, cap, rfl, h1, h2, h3⟩, ho⟩ := hv
  have hv2 : Sl F w (.slice ao xs.length xs.length) xs.length (flat xs) := ⟨ao, xs.length, rfl, Nat.le_refl _, by omega, h3⟩
  refine r_appendU hd ht (.inl ⟨_, hu⟩) hi hz hs hzs Row.pos hx hy hv2 (flat_len xs) hr.src (by omega) h63 hb fun v' w' b hO hE hb' => h v' w' (some b) (H.call (SH.fromO (hE.mono (fun b h => h.elim)) ⟨by rw [List.length_append, flat_app]; exact hO, ho.app hr.2⟩ (fun c hc => .inr (by cases hc; exact hb')))) ?_
  constructor
  · rintro rfl
    rcases hO.2 with ⟨q, _⟩ | ⟨b', cap', cur, _, q, _⟩
    · cases q
    · cases q
  · exact fun h => h.elim
end
end Go.V
