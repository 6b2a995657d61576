/-
  Rules for slices.Insert: append(s, make(n)...) into a new block; overlaps. No program here.
-/
import Derived.Test.YtaggdlbjgjagbaaVCmp
import Derived.Lib.Overlaps
import Derived.Laws.Externs
namespace Go.V
set_option linter.unusedSimpArgs false
set_option linter.unusedVariables false
open Go.RowKit

/-- append(v, make(n)...) where there is no room: a new block, the old cells ahead. -/
theorem run_growB {P : Program} {w : World} {t u ty E : TypeId} {i : TypeInfo} {z : Value} {s : Nat} (ht : P.underlying t = some (.slice E)) (hu : P.underlying u = some (.int .i64)) (hi : P.info? E = some i) (hz : i.zero = some z)
    (hs : i.size = s) (hzs : z.cells.size = s) {b p cap n : Nat} {cs : List Value} (hc : Cells w b 0 cs) (hcl : cs.length = p * s) (hcap : cap < p + n) (hb : (p + n) * i.bytes ≤ 140737488355328) (h63 : p + n ≤ maxLen) (h0 : 0 < n) (hsz : 0 < s) :
    ∃ w' cap' cur, (Builtin.append_ #[t, u] ty #[.slice (some ⟨b, 0, none⟩) p cap, .int .i64 n]).run P w = .ok (.slice (some ⟨w.heap.size, 0, none⟩) (p + n) cap') w' ∧ p + n ≤ cap' ∧ cap' ≤ maxLen ∧ Blk w' w.heap.size E cur ∧ cur.length = cap' * s ∧ cur.take (p * s) = cs ∧ w'.heap.size = w.heap.size + 1 ∧ Ext0 w w' := by
  subst hs
  have h63m : p + n ≤ 9223372036854775807 := by simpa [maxLen] using h63
  have hw : IntKind.i64.wrap (n : Int) = n := wr_i64 (by omega) (by omega)
  have hfit := growslice_fits hcap hb
  have h48 : ¬ (281474976710656 < Builtin.nextslicecap (p + n) cap * i.bytes) := by omega
  have hnb : n * i.bytes ≤ 140737488355328 := Nat.le_trans (Nat.mul_le_mul_right _ (by omega)) hb
  have h48i : ¬ ((n : Int) * (i.bytes : Int) > 281474976710656) := by
    have := Int.ofNat_le.2 hnb
    rw [Int.natCast_mul] at this; omega
  have h48j : ¬ (281474976710656 < (n : Int) * (i.bytes : Int)) := by omega
  have hnn : ¬ ((n : Int) < 0) := by omega
  have hmax : max (n : Int) 0 = n := by omega
  have h63' : ¬ (9223372036854775807 < (n : Int)) := by omega
  have h63s : ¬ (9223372036854775807 < ((p : Int) + (n : Int))) := by omega
  have hn : ¬ (p + n ≤ cap) := by omega
  have hge := grownCap_ge w (p + n) cap E
  have hcm := grownCap_le_maxLen w (p + n) cap E h63
  have hfc := run_firstCells_some (P := P) w.drew i.size p ⟨b, 0, none⟩ p cap cs hcl (fun j u hj => by rw [addr_add, World.cell?_drew]; exact hc.get j u hj)
  refine ⟨w.drew.alloc (.cells (cs.toArray ++ Builtin.zeroCells z.cells n ++ Builtin.zeroCells z.cells (grownCap w (p + n) cap E - (p + n))) E), grownCap w (p + n) cap E, (cs.toArray ++ Builtin.zeroCells z.cells n ++ Builtin.zeroCells z.cells (grownCap w (p + n) cap E - (p + n))).toList, ?_, hge, hcm, ?_, ?_, ?_, by simp, ⟨rfl, rfl, rfl, by simp, fun k hk _ => Below.heap_alloc w.drew _ k hk⟩⟩
  · simp [Builtin.append_, run_underlying ht, run_underlying hu, sizeOf, typeInfo, zeroValue, hi, hz, asInt, asIntOf, hw, hn, h63', h63s, h48, h48i, h48j, hnn, hmax, Question.forced, newRow, grownCap, hfc]
    intro h
    have := Nat.mul_pos h0 hsz
    omega
  · rw [Blk, Array.toArray_toList]; exact heap_alloc_new w.drew _
  · simp only [Array.length_toList, Array.size_append, List.size_toArray, size_zeroCells, hzs, hcl, ← Nat.add_mul]
    congr 1
    omega
  · simp only [Array.toList_append, List.append_assoc]
    rw [← hcl]
    exact List.take_left
section
variable {U G : Nat → Prop} {w0 : World} {L : List Ch}
variable {P : Program} {N : Fr} {ops : Array Oper} {rest : List Oper} {Q : EPost} {ρ : Env} {w : World}
variable {d : Nat} {dd : Option Nat} {gg : Option (Nat × Bool)} {ty T T2 E : TypeId} {pos : String} {af : Array Edge} {x y z : Operand} {k : IntKind}
theorem s_growB {i : TypeInfo} {zv : Value} {s b p cap n : Nat} {l : Int} {cs : List Value} (H : SH U G w0 w L) (hd : Nat.blt d N.n = true) (ht : P.underlying T = some (.slice E)) (hu : P.underlying T2 = some (.int .i64)) (hi : P.info? E = some i) (hz : i.zero = some zv) (hs : i.size = s) (hzs : zv.cells.size = s)
    (hx : ev ρ x = .slice (some ⟨b, 0, none⟩) p cap) (hy : ev ρ y = .int .i64 l) (hl : l = (n : Int)) (hc : Cells w b 0 cs) (hcl : cs.length = p * s) (hcap : cap < p + n) (hb : (p + n) * i.bytes ≤ 140737488355328) (h63 : p + n ≤ maxLen) (h0 : 0 < n) (hsz : Nat.blt 0 s = true)
    (h : ∀ b' w' cap' cur, p + n ≤ cap' → cap' ≤ maxLen → cur.length = cap' * s → cur.take (p * s) = cs → SH U G w0 w' (L ++ [.B b' E cur]) → LW P N ops rest Q (upd ρ d (.slice (some ⟨b', 0, none⟩) (p + n) cap')) w') :
    LW P N ops (⟨some d, .call { callee := .builtin .append, args := #[x, y], argTypes := #[T, T2] }, ty, pos, af, none⟩ :: rest) Q ρ w := by
  subst hl
  obtain ⟨w', cap', cur, hr, h1, h2, h3, h4, h5, h6, h7⟩ := run_growB (P := P) (w := w) (ty := ty) ht hu hi hz hs hzs hc hcl hcap hb h63 h0 (Nat.le_of_ble_eq_true hsz)
  refine LW.v hd ?_ (h _ w' cap' cur h1 h2 h4 h5 (SH.call H (SH.fromB h7 rfl h6 h3)))
  simp only [execOp, resolve, invoke, builtin, Sem.run_bind, Sem.run_pure, Result.andThen_ok, List.map_toArray, List.map_cons, List.map_nil, hx, hy, hr]
/-- A call of what the model answers itself. -/
theorem r_callX {f : FuncId} {args : Array Operand} {tys : Array TypeId} {l : List Value} {v : Value} (hd : Nat.blt d N.n = true) (hl : (args.toList.map (ev ρ)) = l) (hr : (callFunc f l.toArray).run P w = .ok (.value v) w) (h : LW P N ops rest Q (upd ρ d v) w) :
    LW P N ops (⟨some d, .call { callee := .value (.func f), args := args, argTypes := tys }, ty, pos, af, none⟩ :: rest) Q ρ w := by
  have hA : args.map (ev ρ) = l.toArray := by rw [← hl, ← Array.toList_map]
  refine LW.v hd ?_ h
  simp [execOp, resolve, ev, hA, hr, invoke, Sem.run_bind, Deferred.ofValue]
/-- slices.overlaps of two slices of two blocks. -/
theorem run_overlapsB {f : FuncId} {fn : Func} {tS tR e EA EB : TypeId} {size ba oa bb ob la ca lb cb : Nat} {csa csb : List Value} (hf : P.funcs[f]? = some fn) (hname : (fn.name == "runtime.NumGoroutine") = false) (hb : fn.body.isNone = true) (hn : Extern.findNext fn = none)
    (he : Extern.find fn = some (Extern.SlicesOverlaps.overlaps #[tS, tS] #[tR])) (ht : P.underlying tS = some (.slice e)) (hz : ∀ w, (Go.sizeOf e).run P w = .ok size w) (hne : ba ≠ bb) (hA : Blk w ba EA csa) (hB : Blk w bb EB csb) (hkB : csb.length ≠ 0) :
    (callFunc f #[.slice (some ⟨ba, oa, none⟩) la ca, .slice (some ⟨bb, ob, none⟩) lb cb]).run P w = .ok (.value (.bool false)) w := by
  unfold Blk at hA hB
  rw [run_callFunc_extern hf hname hb hn he, Lib.run_overlaps_apart w tS tR e ht size hz ⟨ba, oa, none⟩ ⟨bb, ob, none⟩ la ca lb cb hne EA EB csa.length csb.length (by simp [World.shape?, hA]) (by simp [World.shape?, hB]) hkB (by simp [World.frozen?, hA]) (by simp [World.frozen?, hA])]
  rfl
theorem x_sliceLp {b p cap s : Nat} {kl : IntKind} {l : Int} (hT : P.underlying T = some (.slice E)) (hs : ∀ w, (sizeOf E).run P w = .ok s w) (hx : ev ρ x = .slice (some ⟨b, 0, none⟩) p cap) (hy : ev ρ y = .int kl l)
    (h0 : 0 ≤ l) (h2 : l ≤ p) (h3 : l < cap) : (execOp (ev ρ) ⟨dd, .slice T x (some y) none none, ty, pos, af, gg⟩).run P w = .ok (.value (.slice (some ⟨b, l.toNat * s, none⟩) (p - l.toNat) (cap - l.toNat))) w := by
  have := x_sliceLc (dd := dd) (gg := gg) (ty := ty) (pos := pos) (af := af) (w := w) hT hs hx hy h0 h2
  rwa [at_part (by omega)] at this
end
theorem SH.anyG {U : Nat → Prop} {w0 w : World} {L : List Ch} (H : SH U Non w0 w L) : SH U Any w0 w L := ⟨H.ext, H.val.mono (fun _ _ h => h) (fun _ _ h => h.elim)⟩
theorem SH.argI {U F : Nat → Prop} {A : World → Prop} {w : World} {L : List Ch} (H : SH U Any w w L) (hA : A w) (hst : Ch.St F A) (hlt : ∀ b, F b → b < w.heap.size) (hF : ∀ b, F b → ¬ U b) : SH U Any w w (L ++ [.I F A]) := by
  refine ⟨H.ext, H.val.app (Val.one ⟨hA, hst, hlt, fun h => h.elim, fun b hb => .inr trivial⟩) ?_⟩
  intro c hc d hd ho b h2 h3
  rw [List.mem_singleton] at hd
  subst hd
  rcases ho with ho | ho
  · rcases (H.val.1 c hc).own ho b h2 with q | q
    · exact hF b h3 q
    · exact absurd (hlt b h3) (by omega)
  · exact ho
theorem ins_grow {cur Y D A : List Value} {o o2 l : Nat} (ho : o ≤ cur.length) (hA : cur.take o = A) (ho2 : o2 = o + Y.length) (hl : l = o2 + D.length) (hc : l ≤ cur.length) : (spliceL (spliceL cur o Y) o2 D).take l = A ++ Y ++ D := by
  subst ho2 hl
  have h1 : (spliceL cur o Y).length = cur.length := splice_len (by omega)
  rw [splice_upto (by omega), splice_upto ho, hA]
theorem ins_room {cur Y D A : List Value} {o o2 l : Nat} (ho : o ≤ cur.length) (hA : cur.take o = A) (ho2 : o2 = o + Y.length) (hl : l = o2 + D.length) (hc : l ≤ cur.length) : (spliceL (spliceL cur o2 D) o Y).take l = A ++ Y ++ D := by
  subst ho2 hl
  have h2 : (spliceL cur (o + Y.length) D).take o = A := by
    have := splice_front (cur := cur) (vs := D) (o := o + Y.length) (by omega)
    have h4 := congrArg (List.take o) this
    rw [List.take_take, List.take_take, Nat.min_eq_left (by omega)] at h4
    rw [h4, hA]
  have h3 : (spliceL cur (o + Y.length) D).drop (o + Y.length) = D ++ cur.drop (o + Y.length + D.length) := by
    simp only [spliceL, List.append_assoc]
    rw [List.drop_left' (by rw [List.length_take]; omega)]
  rw [show spliceL (spliceL cur (o + Y.length) D) o Y = A ++ Y ++ D ++ cur.drop (o + Y.length + D.length) from by rw [spliceL, h2, h3, List.append_assoc (A ++ Y)]]
  rw [List.take_left' (by
    have : A.length = o := by rw [← hA, List.length_take]; omega
    simp [this]; omega)]
end Go.V
