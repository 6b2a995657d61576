/-
  Rules: a struct that is the one result; texts joined and cut. No statement of the claim stands here.
-/
import Derived.Test.YtaggdlbjgjagbaaVGrow
namespace Go.V
set_option linter.unusedSimpArgs false
set_option linter.unusedVariables false
open Go.RowKit

theorem retC1 {P : Program} {fn : Func} {R : Ending → World → Prop} {ρ : Env} {w : World} {s0 T0 p n : Nat} {cs : List Value} (h : fn.results = #[.cell s0 T0]) (h0 : ρ s0 = .pointer (some ⟨p, 0, none⟩))
    (hT : ∀ w, (isAgg T0).run P w = .ok true w) (hs : ∀ w, (sizeOf T0).run P w = .ok n w) (hc : Cells w p 0 cs) (hl : cs.length = n) (hR : R (.returned (.agg cs.toArray)) w) : bodyE P fn R .ret ρ w := by
  refine ⟨_, fun tmps ht => ?_, hR⟩
  have e0 := (ht s0).trans h0
  have := run_loadCells_list (P := P) w ⟨p, 0, none⟩ cs (fun j u hu => by rw [addr_add]; exact hc.get j u hu)
  rw [hl] at this
  unfold loadCells at this
  simp only [Array.getD_eq_getD_getElem?] at e0
  simp [results, h, e0, asAddr, loadVar, hT, hs, this, go_sem]

/-- append to a slice that has no room: a new array. -/
theorem run_appendU {P : Program} {F : Nat → Prop} {w : World} {t u ty E : TypeId} {i : TypeInfo} {z : Value} {s : Nat} (ht : P.underlying t = some (.slice E)) (hu : (∃ E', P.underlying u = some (.slice E')) ∨ P.underlying u = some .string) (hi : P.info? E = some i) (hz : i.zero = some z)
    (hs : i.size = s) (hzs : z.cells.size = s) (hsz : 0 < s) {ao : Option Addr} {x : Value} {n m sCap : Nat} {cs news : List Value} (hv : Sl F w (.slice ao n sCap) n cs) (hcl : cs.length = n * s) (hx : Src P s w x m news) (hcap : sCap < n + m)
    (h63 : n + m ≤ maxLen) (hb : (n + m) * i.bytes ≤ 140737488355328) :
    ∃ v' w' b, (Builtin.append_ #[t, u] ty #[.slice ao n sCap, x]).run P w = .ok v' w' ∧ Own E s w' v' (n + m) (cs ++ news) (some b) ∧ Ext0 w w' ∧ w.heap.size ≤ b := by
  subst hs
  obtain ⟨hl, h1, hlen, hf, hf'⟩ := hx
  have hll : (cs ++ news).length = (n + m) * i.size := by rw [List.length_append, hcl, hl, Nat.add_mul]
  have hold : (Builtin.firstCells i.size n (.slice ao n sCap)).run P w.drew = .ok cs.toArray w.drew := by
    obtain ⟨ao', cap', e1, _, _, e2⟩ := hv
    cases e1
    cases ao with
    | none =>
      have : cs = [] := by rcases e2 with h | ⟨_, _, h, _⟩; exact h; cases h
      subst this
      simp [Builtin.firstCells]
    | some a =>
      refine run_firstCells_some (P := P) w.drew i.size n a n sCap cs hcl ?_
      intro j u hj
      rcases e2 with rfl | ⟨b', o', e3, _, e4⟩
      · simp at hj
      · cases e3; rw [addr_add, World.cell?_drew]; exact e4.get j u hj
  have hn : ¬ (n + m ≤ sCap) := by omega
  have h63' : ¬ (9223372036854775807 < ((n : Int) + (m : Int))) := by simp only [maxLen] at h63; omega
  have hfit := growslice_fits hcap hb
  have h48' : ¬ (281474976710656 < Builtin.nextslicecap (n + m) sCap * i.bytes) := by omega
  have hge := grownCap_ge w (n + m) sCap E
  have hcm := grownCap_le_maxLen w (n + m) sCap E h63
  refine ⟨.slice (some ⟨w.heap.size, 0, none⟩) (n + m) (grownCap w (n + m) sCap E), w.drew.alloc (.cells (cs.toArray ++ news.toArray ++ Builtin.zeroCells z.cells (grownCap w (n + m) sCap E - (n + m))) E), w.heap.size, ?_, ⟨hll, .inr ⟨w.heap.size, _, _, rfl, rfl, heap_alloc_new w.drew _, hge, hcm, ?_, ?_⟩⟩,
    ⟨rfl, rfl, rfl, by simp, fun k hk _ => Below.heap_alloc w.drew _ k hk⟩, Nat.le_refl _⟩
  · rcases hu with ⟨E', hD⟩ | hD <;> (simp [Builtin.append_, run_underlying ht, run_underlying hD, sizeOf, typeInfo, zeroValue, hi, hz, hlen, hn, h63', h48', Question.forced, hf', hold, newRow, grownCap]; congr 2; apply Array.ext'; simp [List.append_assoc])
  · simp only [Array.size_append, List.size_toArray, size_zeroCells, hzs, hcl, hl, ← Nat.add_mul]
    congr 1
    omega
  · simp only [Array.toList_append, List.append_assoc]
    rw [← List.append_assoc, ← hll]
    exact List.take_left

section rules
variable {P : Program} {N : Fr} {ops : Array Oper} {rest : List Oper} {Q : EPost} {ρ : Env} {w : World}
variable {d : Nat} {dd : Option Nat} {gg : Option (Nat × Bool)} {ty T T2 E : TypeId} {pos : String} {af : Array Edge} {x y z y2 : Operand} {k : IntKind}
theorem r_appendU {F : Nat → Prop} {i : TypeInfo} {zv : Value} {s : Nat} {ao : Option Addr} {u : Value} {p q sCap : Nat} {cs news : List Value} (hd : Nat.blt d N.n = true) (ht : P.underlying T = some (.slice E)) (hu : (∃ E', P.underlying T2 = some (.slice E')) ∨ P.underlying T2 = some .string) (hi : P.info? E = some i) (hz : i.zero = some zv)
    (hs : i.size = s) (hzs : zv.cells.size = s) (hsz : Nat.blt 0 s = true) (hx : ev ρ x = .slice ao p sCap) (hy : ev ρ y = u) (hv : Sl F w (.slice ao p sCap) p cs) (hcl : cs.length = p * s) (hsrc : Src P s w u q news) (hcap : sCap < p + q) (h63 : p + q ≤ maxLen) (hb : (p + q) * i.bytes ≤ 140737488355328)
    (h : ∀ v' w' b, Own E s w' v' (p + q) (cs ++ news) (some b) → Ext0 w w' → w.heap.size ≤ b → LW P N ops rest Q (upd ρ d v') w') :
    LW P N ops (⟨some d, .call { callee := .builtin .append, args := #[x, y], argTypes := #[T, T2] }, ty, pos, af, none⟩ :: rest) Q ρ w := by
  obtain ⟨v', w', b, hr, h1, h2, h3⟩ := run_appendU (P := P) (ty := ty) ht hu hi hz hs hzs (Nat.le_of_ble_eq_true hsz) hv hcl hsrc hcap h63 hb
  refine LW.v hd ?_ (h v' w' b h1 h2 h3)
  simp only [execOp, resolve, invoke, builtin, Sem.run_bind, Sem.run_pure, Result.andThen_ok, List.map_toArray, List.map_cons, List.map_nil, hx, hy, hr]
/-- xs[:h:m], the value written out. -/
theorem r_sliceHMc {ao : Option Addr} {p cap s : Nat} {kh km : IntKind} {h m : Int} (hd : Nat.blt d N.n = true) (hT : P.underlying T = some (.slice E)) (hs : ∀ w, (sizeOf E).run P w = .ok s w) (hx : ev ρ x = .slice ao p cap) (hz : ev ρ z = .int kh h) (hz2 : ev ρ y2 = .int km m)
    (h1 : 0 ≤ h) (h2 : h ≤ m) (h3 : m ≤ cap) (hk : LW P N ops rest Q (upd ρ d (.slice ao h.toNat m.toNat)) w) :
    LW P N ops (⟨some d, .slice T x none (some z) (some y2), ty, pos, af, none⟩ :: rest) Q ρ w := by
  have hE : P.elem T = E := by simp [Program.elem, hT]
  have hr := run_slice_hm (P := P) w T ao p cap (by rw [hE]; exact hT) kh km h m h1 h2 (by omega)
  rw [hE, hs] at hr
  have hc : sliced ao 0 h.toNat m.toNat s = .slice ao h.toNat m.toNat := by
    unfold sliced
    split
    · rfl
    · cases ao with
      | none => rfl
      | some a => simp [Addr.add]
  refine LW.v hd ?_ hk
  simp only [execOp, hx, hz, hz2, Option.map_some, Option.map_none, Sem.run_bind]
  simp [go_sem, run_sliceAt_slice w T _ _ _ _ (by rw [hE]; exact hT), hr, sliced]
end rules
end Go.V
