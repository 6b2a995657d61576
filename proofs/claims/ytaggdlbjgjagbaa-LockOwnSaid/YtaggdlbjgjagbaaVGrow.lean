/-
  Rules: a slice that is made to grow; a slice cut at its end; results in variables of structs; two structs compared. No statement of the claim stands here.
-/
import Derived.Test.YtaggdlbjgjagbaaVDraw
namespace Go.V
set_option linter.unusedSimpArgs false
set_option linter.unusedVariables false
open Go.RowKit

theorem Own.take {E : TypeId} {s : Nat} {w : World} {ao : Option Addr} {n cap m : Nat} {cs : List Value} {g : Option Nat} (h : Own E s w (.slice ao n cap) n cs g) (hm : m ≤ n) : Own E s w (.slice ao m cap) m (cs.take (m * s)) g := by
  obtain ⟨hl, ⟨rfl, h1, rfl⟩ | ⟨b, cap', cur, rfl, h1, h2, h3, h4, h5, h6⟩⟩ := h
  · cases h1
    obtain rfl : m = 0 := by omega
    exact ⟨by simp, .inl ⟨rfl, rfl, rfl⟩⟩
  · cases h1
    have hms : m * s ≤ n * s := Nat.mul_le_mul_right _ hm
    refine ⟨by rw [List.length_take, hl]; exact Nat.min_eq_left hms, .inr ⟨b, cap, cur, rfl, rfl, h2, by omega, h4, h5, ?_⟩⟩
    rw [← h6, List.take_take, Nat.min_eq_left hms]

/-- append(nil, make(n)...): a new array. -/
theorem run_growNil {P : Program} {w : World} {t u ty E : TypeId} {i : TypeInfo} {z : Value} {s : Nat} (ht : P.underlying t = some (.slice E)) (hu : P.underlying u = some (.int .i64)) (hi : P.info? E = some i) (hz : i.zero = some z)
    (hs : i.size = s) (hzs : z.cells.size = s) (hsz : 0 < s) {n : Nat} (h0 : 0 < n) (hb : n * i.bytes ≤ 140737488355328) (h63 : n ≤ 9223372036854775807) :
    ∃ w' cap cur, (Builtin.append_ #[t, u] ty #[.slice none 0 0, .int .i64 n]).run P w = .ok (.slice (some ⟨w.heap.size, 0, none⟩) n cap) w' ∧ n ≤ cap ∧ cap ≤ maxLen ∧ w'.heap[w.heap.size]? = some (.cells cur E (0, 0)) ∧ cur.size = cap * s ∧ Ext0 w w' := by
  subst hs
  have hw : IntKind.i64.wrap (n : Int) = n := wr_i64 (by omega) (by omega)
  have hn : ¬ (n ≤ 0) := by omega
  have hfit := growslice_fits (show 0 < n from h0) hb
  have h48 : ¬ (281474976710656 < Builtin.nextslicecap n 0 * i.bytes) := by omega
  have h48i : ¬ ((n : Int) * (i.bytes : Int) > 281474976710656) := by
    have := Int.ofNat_le.2 hb
    rw [Int.natCast_mul] at this; omega
  have h48j : ¬ (281474976710656 < (n : Int) * (i.bytes : Int)) := by omega
  have hnn : ¬ ((n : Int) < 0) := by omega
  have hle : ¬ ((n : Int) ≤ 0) := by omega
  have hmax : max (n : Int) 0 = n := by omega
  have h63' : ¬ (9223372036854775807 < (n : Int)) := by omega
  have hge := grownCap_ge w n 0 E
  have hcm := grownCap_le_maxLen w n 0 E (by simp only [maxLen]; exact h63)
  have hns : ¬ (n * i.size = 0) := by
    have := Nat.mul_pos h0 hsz; omega
  refine ⟨w.drew.alloc (.cells (#[] ++ Builtin.zeroCells z.cells n ++ Builtin.zeroCells z.cells (grownCap w n 0 E - n)) E), grownCap w n 0 E, _, ?_, hge, hcm, heap_alloc_new w.drew _, ?_, ⟨rfl, rfl, rfl, by simp, fun k hk _ => Below.heap_alloc w.drew _ k hk⟩⟩
  · simp [Builtin.append_, run_underlying ht, run_underlying hu, sizeOf, typeInfo, zeroValue, hi, hz, asInt, asIntOf, hw, hn, h63', h48, h48i, h48j, hnn, hle, hmax, hns, Question.forced, newRow, grownCap, Builtin.firstCells]
    omega
  · simp only [Array.size_append, size_zeroCells, hzs, List.size_toArray, List.length_nil, Nat.zero_add, ← Nat.add_mul]
    congr 1
    omega

section rules
variable {P : Program} {N : Fr} {ops : Array Oper} {rest : List Oper} {Q : EPost} {ρ : Env} {w : World}
variable {d : Nat} {dd : Option Nat} {gg : Option (Nat × Bool)} {ty T T2 E : TypeId} {pos : String} {af : Array Edge} {x y z : Operand} {k : IntKind} {m n : Int}

theorem r_growNil {i : TypeInfo} {zv : Value} {n : Nat} {l : Int} (hd : Nat.blt d N.n = true) (ht : P.underlying T = some (.slice E)) (hu : P.underlying T2 = some (.int .i64)) (hi : P.info? E = some i) (hz : i.zero = some zv)
    (hs : i.size = 1) (hzs : zv.cells.size = 1) (hx : ev ρ x = .slice none 0 0) (hy : ev ρ y = .int .i64 l) (hl : l = (n : Int)) (h0 : 0 < n) (hb : n * i.bytes ≤ 140737488355328) (h63 : n ≤ 9223372036854775807)
    (h : ∀ b w' cap cur, b = w.heap.size → n ≤ cap → cap ≤ maxLen → w'.heap[b]? = some (.cells cur E (0, 0)) → cur.size = cap * 1 → Ext0 w w' → LW P N ops rest Q (upd ρ d (.slice (some ⟨b, 0, none⟩) n cap)) w') :
    LW P N ops (⟨some d, .call { callee := .builtin .append, args := #[x, y], argTypes := #[T, T2] }, ty, pos, af, none⟩ :: rest) Q ρ w := by
  subst hl
  obtain ⟨w', cap, cur, hr, h1, h2, h3, h4, h5⟩ := run_growNil (P := P) (w := w) (ty := ty) ht hu hi hz hs hzs (by decide) h0 hb h63
  refine LW.v hd ?_ (h _ w' cap cur rfl h1 h2 h3 h4 h5)
  simp only [execOp, resolve, invoke, builtin, Sem.run_bind, Sem.run_pure, Result.andThen_ok, List.map_toArray, List.map_cons, List.map_nil, hx, hy, hr]

/-- xs[:h], the value written out. -/
theorem r_sliceHc {ao : Option Addr} {p cap s : Nat} {kh : IntKind} {h : Int} (hd : Nat.blt d N.n = true) (hT : P.underlying T = some (.slice E)) (hs : ∀ w, (sizeOf E).run P w = .ok s w) (hx : ev ρ x = .slice ao p cap) (hz : ev ρ z = .int kh h)
    (h1 : 0 ≤ h) (h2 : h ≤ cap) (hk : LW P N ops rest Q (upd ρ d (.slice ao h.toNat cap)) w) :
    LW P N ops (⟨some d, .slice T x none (some z) none, ty, pos, af, none⟩ :: rest) Q ρ w := by
  have hE : P.elem T = E := by simp [Program.elem, hT]
  have hr := run_slice_h (P := P) w T ao p cap (by rw [hE]; exact hT) kh h h1 (by omega)
  rw [hE, hs] at hr
  refine LW.v hd ?_ hk
  simp only [execOp, hx, hz, Option.map_some, Option.map_none, Sem.run_bind]
  simp [go_sem, run_sliceAt_slice w T _ _ _ _ (by rw [hE]; exact hT), hr, sliced]
theorem x_cap {a : Option Addr} {len cap : Nat} {E : TypeId} (hT : P.underlying T = some (.slice E)) (hx : ev ρ x = .slice a len cap) : (execOp (ev ρ) ⟨dd, .call { callee := .builtin .cap, args := #[x], argTypes := #[T] }, ty, pos, af, gg⟩).run P w = .ok (.value (.int .i64 cap)) w := by
  simp [go_sem, hx, hT]
theorem r_cap {a : Option Addr} {len cap : Nat} {E : TypeId} (hd : Nat.blt d N.n = true) (hT : P.underlying T = some (.slice E)) (hx : ev ρ x = .slice a len cap) (h : LW P N ops rest Q (upd ρ d (.int .i64 cap)) w) : LW P N ops (⟨some d, .call { callee := .builtin .cap, args := #[x], argTypes := #[T] }, ty, pos, af, none⟩ :: rest) Q ρ w := LW.v hd (x_cap hT hx) h
end rules

/-- A struct that is a named result, and two more. -/
theorem retC3 {P : Program} {fn : Func} {R : Ending → World → Prop} {ρ : Env} {w : World} {s0 T0 s1 s2 p n : Nat} {cs : List Value} {u v : Value} (h : fn.results = #[.cell s0 T0, .tmp s1, .tmp s2]) (h0 : ρ s0 = .pointer (some ⟨p, 0, none⟩))
    (hu : ρ s1 = u) (hv : ρ s2 = v) (hT : ∀ w, (isAgg T0).run P w = .ok true w) (hs : ∀ w, (sizeOf T0).run P w = .ok n w) (hc : Cells w p 0 cs) (hl : cs.length = n) (hR : R (.returned (.tuple #[.agg cs.toArray, u, v])) w) : bodyE P fn R .ret ρ w := by
  refine ⟨_, fun tmps ht => ?_, hR⟩
  have e0 := (ht s0).trans h0
  have e1 := (ht s1).trans hu
  have e2 := (ht s2).trans hv
  have := run_loadCells_list (P := P) w ⟨p, 0, none⟩ cs (fun j u hu => by rw [addr_add]; exact hc.get j u hu)
  rw [hl] at this
  unfold loadCells at this
  simp only [Array.getD_eq_getD_getElem?] at e0 e1 e2
  simp [results, h, e0, e1, e2, asAddr, loadVar, hT, hs, this, go_sem]
end Go.V
