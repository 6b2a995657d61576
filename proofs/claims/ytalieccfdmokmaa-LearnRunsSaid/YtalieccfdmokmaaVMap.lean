/-
  Maps from numbers to things of several cells: made, looked up, written, gone through, their entries taken away. No statement of the claim stands here: these are rules, whatever the program.
-/
import Derived.Test.YtalieccfdmokmaaVObj
import Derived.Maps.RangeRun
namespace Go.V
set_option linter.unusedSimpArgs false
set_option linter.unusedVariables false
open Go.RowKit Go.MapKept
open Go.ChangeMaps (setBlock)

section maps0
variable {α : Type}
def lookM : List (Int × α) → Int → Option α
  | [], _ => none
  | p :: r, n => if p.1 = n then some p.2 else lookM r n
def setM : List (Int × α) → Int → α → List (Int × α)
  | [], n, y => [(n, y)]
  | p :: r, n, y => if p.1 = n then (n, y) :: r else p :: setM r n y
def delM : List (Int × α) → Int → List (Int × α)
  | [], _ => []
  | p :: r, n => if p.1 = n then r else p :: delM r n
def idxM : List (Int × α) → Int → Nat → Option (Nat × α)
  | [], _, _ => none
  | p :: r, n, i => if p.1 = n then some (i, p.2) else idxM r n (i + 1)
theorem idx_look : ∀ (l : List (Int × α)) (n : Int) (i : Nat), (idxM l n i).map (·.2) = lookM l n
  | [], n, i => rfl
  | p :: r, n, i => by
    rw [idxM, lookM]
    split
    · rfl
    · exact idx_look r n (i + 1)
theorem idx_ge : ∀ {l : List (Int × α)} {n : Int} {i j : Nat} {x : α}, idxM l n i = some (j, x) → i ≤ j
  | [], n, i, j, x, h => by cases h
  | p :: r, n, i, j, x, h => by
    rw [idxM] at h
    split at h
    · cases h; exact Nat.le_refl _
    · exact Nat.le_of_succ_le (idx_ge h)
theorem idx_none_set : ∀ {l : List (Int × α)} {n : Int} {i : Nat} {y : α}, idxM l n i = none → setM l n y = l ++ [(n, y)]
  | [], n, i, y, _ => rfl
  | p :: r, n, i, y, h => by
    rw [idxM] at h
    split at h
    · cases h
    · rename_i hp
      rw [setM, if_neg hp, idx_none_set h]; rfl
theorem idx_none_del : ∀ {l : List (Int × α)} {n : Int} {i : Nat}, idxM l n i = none → delM l n = l
  | [], n, i, _ => rfl
  | p :: r, n, i, h => by
    rw [idxM] at h
    split at h
    · cases h
    · rename_i hp
      rw [delM, if_neg hp, idx_none_del h]
theorem idx_some_set : ∀ {l : List (Int × α)} {n : Int} {i j : Nat} {x y : α}, idxM l n i = some (i + j, x) → setM l n y = l.set j (n, y)
  | [], n, i, j, x, y, h => by cases h
  | p :: r, n, i, j, x, y, h => by
    rw [idxM] at h
    split at h
    · rename_i hp
      simp only [Option.some.injEq, Prod.mk.injEq] at h
      have hj : j = 0 := by omega
      subst hj
      rw [setM, if_pos hp]; rfl
    · rename_i hp
      have := idx_ge h
      obtain ⟨j, rfl⟩ : ∃ k, j = k + 1 := ⟨j - 1, by omega⟩
      rw [setM, if_neg hp, idx_some_set (j := j) (by rw [h]; congr 2; omega)]; rfl
theorem idx_some_del : ∀ {l : List (Int × α)} {n : Int} {i j : Nat} {x : α}, idxM l n i = some (i + j, x) → delM l n = l.eraseIdx j
  | [], n, i, j, x, h => by cases h
  | p :: r, n, i, j, x, h => by
    rw [idxM] at h
    split at h
    · rename_i hp
      simp only [Option.some.injEq, Prod.mk.injEq] at h
      have hj : j = 0 := by omega
      subst hj
      rw [delM, if_pos hp]; rfl
    · rename_i hp
      have := idx_ge h
      obtain ⟨j, rfl⟩ : ∃ k, j = k + 1 := ⟨j - 1, by omega⟩
      rw [delM, if_neg hp, idx_some_del (j := j) (by rw [h]; congr 2; omega)]; rfl
theorem idx_some_get : ∀ {l : List (Int × α)} {n : Int} {i j : Nat} {x : α}, idxM l n i = some (i + j, x) → l[j]? = some (n, x)
  | [], n, i, j, x, h => by cases h
  | p :: r, n, i, j, x, h => by
    rw [idxM] at h
    split at h
    · rename_i hp
      simp only [Option.some.injEq, Prod.mk.injEq] at h
      have hj : j = 0 := by omega
      subst hj
      obtain ⟨p1, p2⟩ := p
      dsimp only at hp h
      rw [hp, h.2]; rfl
    · rename_i hp
      have := idx_ge h
      obtain ⟨j, rfl⟩ : ∃ k, j = k + 1 := ⟨j - 1, by omega⟩
      rw [List.getElem?_cons_succ]
      exact idx_some_get (i := i + 1) (by rw [h]; congr 2; omega)
theorem look_mem : ∀ {l : List (Int × α)} {n : Int} {x : α}, lookM l n = some x → (n, x) ∈ l
  | [], n, x, h => by cases h
  | p :: r, n, x, h => by
    rw [lookM] at h
    split at h
    · rename_i hp
      cases h; subst hp; exact List.mem_cons_self ..
    · exact List.mem_cons_of_mem _ (look_mem h)

theorem del_sub : ∀ {l : List (Int × α)} {n : Int}, (delM l n).Sublist l
  | [], n => List.Sublist.refl _
  | p :: r, n => by
    rw [delM]
    split
    · exact List.sublist_cons_self ..
    · exact del_sub.cons_cons _
end maps0

section maps
variable {α : Type} [Row α]
/-- The entries of a map are these. -/
def EsR (es : List MapEntry) (kvs : List (Int × α)) : Prop := es.map (fun e => (e.key, e.val)) = kvs.map (fun p => (Value.int .i64 p.1, agg p.2))
theorem EsR.nil : EsR [] ([] : List (Int × α)) := rfl
theorem EsR.get {es : List MapEntry} {kvs : List (Int × α)} (h : EsR es kvs) (i : Nat) : (es[i]?).map (fun e => (e.key, e.val)) = (kvs[i]?).map (fun p => (Value.int .i64 p.1, agg p.2)) := by
  rw [← List.getElem?_map, ← List.getElem?_map, h]
theorem EsR.mem {es : List MapEntry} {kvs : List (Int × α)} (h : EsR es kvs) {e : MapEntry} (he : e ∈ es) : ∃ p ∈ kvs, e.key = .int .i64 p.1 ∧ e.val = agg p.2 := by
  have : (e.key, e.val) ∈ kvs.map (fun p => (Value.int .i64 p.1, agg p.2)) := by rw [← h]; exact List.mem_map.2 ⟨e, he, rfl⟩
  obtain ⟨p, hp, hq⟩ := List.mem_map.1 this
  simp only [Prod.mk.injEq] at hq
  exact ⟨p, hp, hq.1.symm, hq.2.symm⟩
theorem EsR.mem' {es : List MapEntry} {kvs : List (Int × α)} (h : EsR es kvs) {p : Int × α} (hp : p ∈ kvs) : ∃ e ∈ es, e.key = .int .i64 p.1 ∧ e.val = agg p.2 := by
  have : (Value.int .i64 p.1, agg p.2) ∈ es.map (fun e => (e.key, e.val)) := by rw [h]; exact List.mem_map.2 ⟨p, hp, rfl⟩
  obtain ⟨e, he, hq⟩ := List.mem_map.1 this
  simp only [Prod.mk.injEq] at hq
  exact ⟨e, he, hq.1, hq.2⟩
theorem EsR.len {es : List MapEntry} {kvs : List (Int × α)} (h : EsR es kvs) : es.length = kvs.length := by
  have := congrArg List.length h
  simpa using this
theorem find_now : ∀ {es : List MapEntry} {kvs : List (Int × α)} (h : EsR es kvs) (n : Int) (i : Nat), Instr.findNow (.int .i64) (.int .i64 n) es i = some ((idxM kvs n i).map fun p => (p.1, agg p.2))
  | [], [], _, n, i => rfl
  | [], p :: r, h, _, _ => by simp [EsR] at h
  | e :: es, [], h, _, _ => by simp [EsR] at h
  | e :: es, p :: r, h, n, i => by
    simp only [EsR, List.map_cons, List.cons.injEq, Prod.mk.injEq] at h
    obtain ⟨⟨h1, h2⟩, h3⟩ := h
    rw [Instr.findNow, h1, idxM]
    simp only [Instr.sameNow, if_true]
    by_cases hk : p.1 = n
    · subst hk
      simp [h2]
    · rw [if_neg hk, show (n == p.1) = false from by simpa using fun e => hk e.symm]
      exact find_now h3 n (i + 1)
/-- A map, in a block. -/
def Mp (b : Nat) (kvs : List (Int × α)) (w : World) : Prop := ∃ es clock, w.heap[b]? = some (.map es clock) ∧ EsR es.toList kvs ∧ (∀ e ∈ es.toList, e.born < clock) ∧ (es.toList.map (·.born)).Nodup
theorem mp_st {b : Nat} {kvs : List (Int × α)} : Ch.St (fun k => k = b) (Mp b kvs) := fun V w w' h e hd => by
  obtain ⟨es, clock, h1, h2⟩ := h
  exact ⟨es, clock, by rw [e.block b (Array.getElem?_eq_some_iff.1 h1).1 (hd b rfl), h1], h2⟩
theorem Mp.lt {b : Nat} {kvs : List (Int × α)} {w : World} (h : Mp b kvs w) : b < w.heap.size := by
  obtain ⟨es, clock, h1, _⟩ := h
  exact (Array.getElem?_eq_some_iff.1 h1).1
/-- A map that is gone through: what is left in it, and which numbers one has seen. -/
def Rg (b r : Nat) (kvs : List (Int × α)) (vis : List Int) (w : World) : Prop := ∃ es since seen clock, w.heap[b]? = some (.map es clock) ∧ w.heap[r]? = some (.mapIter (some b) since seen clock) ∧ since ≤ clock ∧ (∀ e ∈ es.toList, e.born < since) ∧
  EsR es.toList kvs ∧ (es.toList.map (·.born)).Nodup ∧ (kvs.map (·.1)).Nodup ∧ r ≠ b ∧ ∀ e ∈ es.toList, seen.contains e.born = true ↔ ∃ k ∈ vis, e.key = .int .i64 k
theorem rg_st {b r : Nat} {kvs : List (Int × α)} {vis : List Int} : Ch.St (fun k => k = b ∨ k = r) (Rg b r kvs vis) := fun V w w' h e hd => by
  obtain ⟨es, since, seen, clock, h1, h2, h3⟩ := h
  exact ⟨es, since, seen, clock, by rw [e.block b (Array.getElem?_eq_some_iff.1 h1).1 (hd b (.inl rfl)), h1], by rw [e.block r (Array.getElem?_eq_some_iff.1 h2).1 (hd r (.inr rfl)), h2], h3⟩
theorem Rg.mp {b r : Nat} {kvs : List (Int × α)} {vis : List Int} {w : World} (h : Rg b r kvs vis w) : Mp b kvs w := by
  obtain ⟨es, since, seen, clock, h1, h2, h3, h4, h5, h6, _⟩ := h
  exact ⟨es, clock, h1, h5, fun e he => Nat.lt_of_lt_of_le (h4 e he) h3, h6⟩
theorem set_ext {w : World} {b : Nat} {o : Obj} : Ext (fun k => k = b) w (setBlock w b o) :=
  ⟨rfl, rfl, rfl, by simp [setBlock], fun k _ hk => by simp [setBlock]; rw [Array.getElem?_setIfInBounds_ne (fun h => hk h.symm)]⟩
theorem set_same {w : World} {b : Nat} {o o' : Obj} (h : w.heap[b]? = some o') : (setBlock w b o).heap[b]? = some o := by
  have hlt := (Array.getElem?_eq_some_iff.1 h).1
  simp [setBlock, hlt]
theorem set_other {w : World} {b k : Nat} {o : Obj} (h : k ≠ b) : (setBlock w b o).heap[k]? = w.heap[k]? := by
  simp [setBlock]; rw [Array.getElem?_setIfInBounds_ne (fun e => h e.symm)]
theorem run_setO {P : Program} {w : World} {b : Nat} {es : Array MapEntry} {clock : Nat} {o : Obj} (h : w.heap[b]? = some (.map es clock)) : (setObj b o).run P w = .ok () (setBlock w b o) := MapKept.run_setObj_map o h
theorem map_erase {β γ : Type} (f : β → γ) : ∀ (l : List β) (i : Nat), (l.eraseIdx i).map f = (l.map f).eraseIdx i
  | [], i => by simp
  | a :: l, 0 => rfl
  | a :: l, i + 1 => by simp [map_erase f l i]
theorem drew_ext (w : World) : Ext0 w w.drew := ⟨rfl, rfl, rfl, Nat.le_refl _, fun _ _ _ => rfl⟩
theorem nodup_inj {β γ : Type} {f : β → γ} : ∀ {l : List β}, (l.map f).Nodup → ∀ {x y : β}, x ∈ l → y ∈ l → f x = f y → x = y
  | [], _, x, _, hx, _, _ => by cases hx
  | a :: l, h, x, y, hx, hy, e => by
    rw [List.map_cons, List.nodup_cons] at h
    cases hx with
    | head => cases hy with
      | head => rfl
      | tail _ hy => exact absurd (by rw [e]; exact List.mem_map.2 ⟨y, hy, rfl⟩) h.1
    | tail _ hx => cases hy with
      | head => exact absurd (by rw [← e]; exact List.mem_map.2 ⟨x, hx, rfl⟩) h.1
      | tail _ hy => exact nodup_inj h.2 hx hy e

variable {P : Program} {N : Fr} {ops : Array Oper} {rest : List Oper} {Q : EPost} {ρ : Env} {w : World}
variable {d : Nat} {ty T K E D : TypeId} {pos : String} {af : Array Edge} {x y z : Operand} {n : Int} {b r : Nat} {kvs : List (Int × α)} {vis : List Int}

theorem r_makeMap (hd : Nat.blt d N.n = true) (h : ∀ b w', b = w.heap.size → w'.heap.size = b + 1 → Ext0 w w' → Mp b ([] : List (Int × α)) w' → LW P N ops rest Q (upd ρ d (.map (some b))) w') :
    LW P N ops (⟨some d, .makeMap T none, ty, pos, af, none⟩ :: rest) Q ρ w :=
  LW.v hd (w' := w.alloc (.map #[] 0)) (v := .map (some w.heap.size)) (by
      have hr : (Instr.makeMap T none).run P w = .ok (.map (some w.heap.size)) (w.alloc (.map #[] 0)) := rfl
      simp only [execOp, Option.map_none, Sem.run_bind, hr, Result.andThen]; rfl)
    (h _ _ rfl (by simp) (alloc_ext w _) ⟨#[], 0, heap_alloc_new w _, rfl, by simp, by simp⟩)
theorem run_lookupM (hT : P.underlying T = some (.map K E)) (hK : P.underlying K = some (.int .i64)) {zv : Value} (hz : ∀ w, (zeroValue E).run P w = .ok zv w) (hm : Mp b kvs w) (ok : Bool) :
    (Instr.lookup T (.map (some b)) (.int .i64 n) ok).run P w = .ok (if ok = true then .tuple #[((lookM kvs n).map agg).getD zv, .bool (lookM kvs n).isSome] else ((lookM kvs n).map agg).getD zv) w := by
  obtain ⟨es, clock, h1, h2, h3, h4⟩ := hm
  have hf := run_findKey (P := P) (w := w) hK (find_now h2 n 0)
  have hc : (Instr.checkKey es.isEmpty (9999 + 1) K (.int .i64 n)).run P w = .ok () w := MapKept.run_checkKey (k := .int .i64 n) hK rfl _ _
  have hl := idx_look kvs n 0
  rw [← hl]
  cases hi : idxM kvs n 0 with
  | none =>
    rw [hi] at hf
    simp [Instr.lookup, run_underlying hT, MapKept.run_getObj_map h1, hc, hf, hz, Result.andThen, Sem.run_bind, Sem.run_pure]
  | some p =>
    rw [hi] at hf
    simp [Instr.lookup, run_underlying hT, MapKept.run_getObj_map h1, hc, hf, hz, Result.andThen, Sem.run_bind, Sem.run_pure]
theorem x_lookup2 {zv : Value} (hT : P.underlying T = some (.map K E)) (hK : P.underlying K = some (.int .i64)) (hz : ∀ w, (zeroValue E).run P w = .ok zv w) (hx : ev ρ x = .map (some b)) (hy : ev ρ y = .int .i64 n) (hm : Mp b kvs w) {dd : Option Nat} {gg : Option (Nat × Bool)} :
    (execOp (ev ρ) ⟨dd, .lookup T x y true, ty, pos, af, gg⟩).run P w = .ok (.value (.tuple #[((lookM kvs n).map agg).getD zv, .bool (lookM kvs n).isSome])) w := by
  simp [execOp, hx, hy, run_lookupM hT hK hz hm, Sem.run_bind, Sem.run_pure, Result.andThen]
theorem x_lookup1 {zv : Value} (hT : P.underlying T = some (.map K E)) (hK : P.underlying K = some (.int .i64)) (hz : ∀ w, (zeroValue E).run P w = .ok zv w) (hx : ev ρ x = .map (some b)) (hy : ev ρ y = .int .i64 n) (hm : Mp b kvs w) {dd : Option Nat} {gg : Option (Nat × Bool)} :
    (execOp (ev ρ) ⟨dd, .lookup T x y false, ty, pos, af, gg⟩).run P w = .ok (.value (((lookM kvs n).map agg).getD zv)) w := by
  simp [execOp, hx, hy, run_lookupM hT hK hz hm, Sem.run_bind, Sem.run_pure, Result.andThen]
theorem r_lookup2 {zv : Value} (hd : Nat.blt d N.n = true) (hT : P.underlying T = some (.map K E)) (hK : P.underlying K = some (.int .i64)) (hz : ∀ w, (zeroValue E).run P w = .ok zv w) (hx : ev ρ x = .map (some b)) (hy : ev ρ y = .int .i64 n) (hm : Mp b kvs w)
    (h : LW P N ops rest Q (upd ρ d (.tuple #[((lookM kvs n).map agg).getD zv, .bool (lookM kvs n).isSome])) w) : LW P N ops (⟨some d, .lookup T x y true, ty, pos, af, none⟩ :: rest) Q ρ w := LW.v hd (x_lookup2 hT hK hz hx hy hm) h
theorem r_lookup1 {zv : Value} (hd : Nat.blt d N.n = true) (hT : P.underlying T = some (.map K E)) (hK : P.underlying K = some (.int .i64)) (hz : ∀ w, (zeroValue E).run P w = .ok zv w) (hx : ev ρ x = .map (some b)) (hy : ev ρ y = .int .i64 n) (hm : Mp b kvs w)
    (h : LW P N ops rest Q (upd ρ d (((lookM kvs n).map agg).getD zv)) w) : LW P N ops (⟨some d, .lookup T x y false, ty, pos, af, none⟩ :: rest) Q ρ w := LW.v hd (x_lookup1 hT hK hz hx hy hm) h
theorem r_lookup2S {zv : Value} {u : α} (hd : Nat.blt d N.n = true) (hT : P.underlying T = some (.map K E)) (hK : P.underlying K = some (.int .i64)) (hz : ∀ w, (zeroValue E).run P w = .ok zv w) (hx : ev ρ x = .map (some b)) (hy : ev ρ y = .int .i64 n) (hm : Mp b kvs w) (hl : lookM kvs n = some u)
    (h : LW P N ops rest Q (upd ρ d (.tuple #[agg u, .bool true])) w) : LW P N ops (⟨some d, .lookup T x y true, ty, pos, af, none⟩ :: rest) Q ρ w := r_lookup2 hd hT hK hz hx hy hm (by rw [hl]; exact h)
theorem r_lookup2N {zv : Value} (hd : Nat.blt d N.n = true) (hT : P.underlying T = some (.map K E)) (hK : P.underlying K = some (.int .i64)) (hz : ∀ w, (zeroValue E).run P w = .ok zv w) (hx : ev ρ x = .map (some b)) (hy : ev ρ y = .int .i64 n) (hm : Mp b kvs w) (hl : lookM kvs n = none)
    (h : LW P N ops rest Q (upd ρ d (.tuple #[zv, .bool false])) w) : LW P N ops (⟨some d, .lookup T x y true, ty, pos, af, none⟩ :: rest) Q ρ w := r_lookup2 hd hT hK hz hx hy hm (by rw [hl]; exact h)
theorem r_lookup1S {zv : Value} {u : α} (hd : Nat.blt d N.n = true) (hT : P.underlying T = some (.map K E)) (hK : P.underlying K = some (.int .i64)) (hz : ∀ w, (zeroValue E).run P w = .ok zv w) (hx : ev ρ x = .map (some b)) (hy : ev ρ y = .int .i64 n) (hm : Mp b kvs w) (hl : lookM kvs n = some u)
    (h : LW P N ops rest Q (upd ρ d (agg u)) w) : LW P N ops (⟨some d, .lookup T x y false, ty, pos, af, none⟩ :: rest) Q ρ w := r_lookup1 hd hT hK hz hx hy hm (by rw [hl]; exact h)
theorem r_lookup1N {zv : Value} (hd : Nat.blt d N.n = true) (hT : P.underlying T = some (.map K E)) (hK : P.underlying K = some (.int .i64)) (hz : ∀ w, (zeroValue E).run P w = .ok zv w) (hx : ev ρ x = .map (some b)) (hy : ev ρ y = .int .i64 n) (hm : Mp b kvs w) (hl : lookM kvs n = none)
    (h : LW P N ops rest Q (upd ρ d zv) w) : LW P N ops (⟨some d, .lookup T x y false, ty, pos, af, none⟩ :: rest) Q ρ w := r_lookup1 hd hT hK hz hx hy hm (by rw [hl]; exact h)
theorem run_updateM (hT : P.underlying T = some (.map K E)) (hK : P.underlying K = some (.int .i64)) (hm : Mp b kvs w) (u : α) :
    ∃ w', (Instr.mapUpdate T (.map (some b)) (.int .i64 n) (agg u)).run P w = .ok () w' ∧ w'.heap.size = w.heap.size ∧ Ext (fun k => k = b) w w' ∧ Mp b (setM kvs n u) w' := by
  obtain ⟨es, clock, h1, h2, h3, h4⟩ := hm
  have hf := run_findKey (P := P) (w := w) hK (find_now h2 n 0)
  have hc : (Instr.checkKey false (9999 + 1) K (.int .i64 n)).run P w = .ok () w := MapKept.run_checkKey (k := .int .i64 n) hK rfl _ _
  cases hi : idxM kvs n 0 with
  | none =>
    rw [hi] at hf
    refine ⟨setBlock w b (.map (es.push ⟨.int .i64 n, agg u, clock⟩) (clock + 1)), ?_, by simp [setBlock], set_ext, _, _, set_same h1, ?_, ?_, ?_⟩
    · simp [Instr.mapUpdate, run_underlying hT, MapKept.run_getObj_map h1, hc, hf, run_setO h1, Result.andThen, Sem.run_bind, Sem.run_pure]
    · rw [idx_none_set hi]
      simp only [EsR, Array.toList_push, List.map_append, List.map_cons, List.map_nil]
      rw [show es.toList.map (fun e => (e.key, e.val)) = _ from h2]
    · intro e he
      rw [Array.toList_push] at he
      rcases List.mem_append.1 he with he | he
      · have := h3 e he; omega
      · rw [List.mem_singleton] at he; subst he; exact Nat.lt_succ_self _
    · rw [Array.toList_push, List.map_append, List.nodup_append]
      refine ⟨h4, by simp, ?_⟩
      intro a ha c hcc
      obtain ⟨e, he, rfl⟩ := List.mem_map.1 ha
      simp only [List.map_cons, List.map_nil, List.mem_singleton] at hcc
      have := h3 e he
      omega
  | some p =>
    obtain ⟨j, u0⟩ := p
    rw [hi] at hf
    have hi' : idxM kvs n 0 = some (0 + j, u0) := by rw [hi, Nat.zero_add]
    have hg := h2.get j
    rw [idx_some_get hi'] at hg
    obtain ⟨e0, he0, he1⟩ := Option.map_eq_some_iff.1 hg
    simp only [Prod.mk.injEq] at he1
    have hes : es[j]? = some e0 := by rw [← Array.getElem?_toList]; exact he0
    have hk : (Instr.keyThatStays (.int .i64 n) (.int .i64 n)).run P w = .ok (.int .i64 n) w := run_keyThatStays (d := .int .i64) rfl
    have hjl : j < es.toList.length := (List.getElem?_eq_some_iff.1 he0).1
    have hml : (es.modify j fun e => { e with key := .int .i64 n, val := agg u }).toList = es.toList.set j ⟨.int .i64 n, agg u, e0.born⟩ := by
      apply List.ext_getElem?
      intro q
      rw [Array.getElem?_toList, Array.getElem?_modify, List.getElem?_set]
      by_cases hq : j = q
      · subst hq
        rw [if_pos rfl, if_pos rfl, if_pos hjl, hes]; rfl
      · rw [if_neg hq, if_neg hq, Array.getElem?_toList]
    refine ⟨setBlock w b (.map (es.modify j fun e => { e with key := .int .i64 n, val := agg u }) clock), ?_, by simp [setBlock], set_ext, _, _, set_same h1, ?_, ?_, ?_⟩
    · simp [Instr.mapUpdate, run_underlying hT, MapKept.run_getObj_map h1, hc, hf, hes, he1.1, hk, run_setO h1, Result.andThen, Sem.run_bind, Sem.run_pure]
    · rw [idx_some_set (y := u) hi', hml, EsR, List.map_set, List.map_set, h2]
    · intro e he
      rw [hml] at he
      rcases List.mem_or_eq_of_mem_set he with he | rfl
      · exact h3 e he
      · exact h3 e0 (List.mem_of_getElem? he0)
    · rw [hml, List.map_set]
      have : (es.toList.map (·.born)).set j e0.born = es.toList.map (·.born) := by
        apply List.ext_getElem?
        intro q
        rw [List.getElem?_set]
        by_cases hq : j = q
        · subst hq
          rw [if_pos rfl, if_pos (by simpa using hjl), List.getElem?_map, he0]; rfl
        · rw [if_neg hq]
      rw [this]; exact h4
theorem r_mapUpdate {u : α} {uv : Value} (hT : P.underlying T = some (.map K E)) (hK : P.underlying K = some (.int .i64)) (hx : ev ρ x = .map (some b)) (hy : ev ρ y = .int .i64 n) (hz : ev ρ z = uv) (hu : uv = agg u) (hm : Mp b kvs w)
    (h : ∀ w', w'.heap.size = w.heap.size → Ext (fun k => k = b) w w' → Mp b (setM kvs n u) w' → LW P N ops rest Q ρ w') :
    LW P N ops (⟨none, .mapUpdate T x y z, ty, pos, af, none⟩ :: rest) Q ρ w := by
  subst hu
  obtain ⟨w', hr, hs, he, hm'⟩ := run_updateM (n := n) hT hK hm u
  exact LW.skp rfl (fun _ e => by cases e) (by simp [execOp, hx, hy, hz, hr, Sem.run_bind, Sem.run_pure, Result.andThen]) (h _ hs he hm')
/-- A map begins to be gone through. -/
theorem r_range (hd : Nat.blt d N.n = true) (hT : P.underlying T = some (.map K E)) (hx : ev ρ x = .map (some b)) (hm : Mp b kvs w) (hn : (kvs.map (·.1)).Nodup)
    (h : ∀ r w', r = w.heap.size → w'.heap.size = r + 1 → Ext0 w w' → Rg b r kvs [] w' → LW P N ops rest Q (upd ρ d (.pointer (some ⟨r, 0, none⟩))) w') :
    LW P N ops (⟨some d, .range T x, ty, pos, af, none⟩ :: rest) Q ρ w := by
  have hlt := hm.lt
  obtain ⟨es, clock, h1, h2, h3, h4⟩ := hm
  exact LW.v hd (by simp only [execOp, hx, Sem.run_bind, run_range_map w T K E b es clock hT h1, Result.andThen]; rfl)
    (h _ _ rfl (by simp) (alloc_ext w _) ⟨es, clock, #[], clock, by rw [heap_alloc_old w _ hlt, h1], heap_alloc_new w _, Nat.le_refl _, h3, h2, h4, hn, by omega, fun e he => by simp⟩)
/-- The entry that has just come. -/
def NxE (b r : Nat) (k : Int) (u : α) (w : World) : Prop := ∃ (es : Array MapEntry) (since : Nat) (seen : Array Nat) (clock : Nat) (e : MapEntry), w.heap[b]? = some (.map es clock) ∧ w.heap[r]? = some (.mapIter (some b) since (seen.push e.born) clock) ∧ e ∈ es.toList ∧ (es.toList.map (·.born)).Nodup ∧ e.key = .int .i64 k ∧ e.val = agg u
theorem r_entry {k : Int} {u : α} (hd : Nat.blt d N.n = true) (hx : ev ρ x = .pointer (some ⟨r, 0, none⟩)) (hm : NxE b r k u w)
    (h : LW P N ops rest Q (upd ρ d (.tuple #[.int .i64 k, agg u])) w) : LW P N ops (⟨some d, .entry x, ty, pos, af, none⟩ :: rest) Q ρ w := by
  obtain ⟨es, since, seen, clock, e, q1, q2, q3, q4, q5, q6⟩ := hm
  have hr := run_entry_at (P := P) w r b since seen es clock e q2 q1 q3 q4
  rw [q5, q6] at hr
  exact LW.v hd (by simp only [execOp, hx, Sem.run_bind, hr, Result.andThen]; rfl) h
/-- The next entry, whichever. -/
theorem r_next (hd : Nat.blt d N.n = true) (hx : ev ρ x = .pointer (some ⟨r, 0, none⟩)) (hm : Rg b r kvs vis w)
    (h0 : (∀ p ∈ kvs, p.1 ∈ vis) → LW P N ops rest Q (upd ρ d (.tuple #[.bool false])) w)
    (h1 : ∀ (k : Int) (u : α) w', (k, u) ∈ kvs → k ∉ vis → w'.heap.size = w.heap.size → Ext (fun k => k = r) w w' → Rg b r kvs (k :: vis) w' → NxE b r k u w' → LW P N ops rest Q (upd ρ d (.tuple #[.bool true, .int .i64 k, agg u])) w') :
    LW P N ops (⟨some d, .next x false, ty, pos, af, none⟩ :: rest) Q ρ w := by
  obtain ⟨es, since, seen, clock, q1, q2, q3, q4, q5, q6, q7, q8, q9⟩ := hm
  rcases run_next_at (P := P) w ty r b since clock seen es clock q2 q1 q4 q3 with ⟨hs, hr⟩ | ⟨e, he, w1, hw1, hr⟩
  · refine LW.v hd (by simp only [execOp, hx, Sem.run_bind, hr, Result.andThen]; rfl) (h0 fun p hp => ?_)
    obtain ⟨e, he, k1, k2⟩ := q5.mem' hp
    obtain ⟨k, hk, hke⟩ := (q9 e he).1 (all_seen es seen hs e he)
    rw [k1] at hke
    cases hke
    exact hk
  · obtain ⟨hee, hse⟩ := mem_left he
    obtain ⟨⟨k, u⟩, hp, k1, k2⟩ := q5.mem hee
    dsimp only at k1 k2
    have hnv : k ∉ vis := fun hk => by
      have := (q9 e hee).2 ⟨k, hk, k1⟩
      rw [hse] at this; cases this
    rw [k1, k2] at hr
    have hh : w1.heap = w.heap := by rcases hw1 with rfl | rfl <;> rfl
    have hsz : (setBlock w1 r (.mapIter (some b) since (seen.push e.born) clock)).heap.size = w.heap.size := by simp [setBlock, hh]
    have hx1 : Ext0 w w1 := by rcases hw1 with rfl | rfl; exact Ext.refl _ _; exact drew_ext w
    have hx2 : Ext (fun k => k = r) w (setBlock w1 r (.mapIter (some b) since (seen.push e.born) clock)) := Ext.trans hx1 set_ext (fun _ _ h => h.elim) (fun _ _ h => h)
    refine LW.v hd (by simp only [execOp, hx, Sem.run_bind, hr, Result.andThen]; rfl) (h1 k u _ hp hnv hsz hx2 ⟨es, since, seen.push e.born, clock, by rw [set_other (fun h => q8 h.symm), hh, q1], set_same (by rw [hh]; exact q2), q3, q4, q5, q6, q7, q8, fun e' he' => ?_⟩
      ⟨es, since, seen, clock, e, by rw [set_other (fun h => q8 h.symm), hh, q1], set_same (by rw [hh]; exact q2), hee, q6, k1, k2⟩)
    rw [contains_push, Bool.or_eq_true, q9 e' he', beq_iff_eq]
    constructor
    · rintro (⟨k', hk', he''⟩ | hbe)
      · exact ⟨k', List.mem_cons_of_mem _ hk', he''⟩
      · have : e' = e := nodup_inj q6 he' hee hbe
        subst this
        exact ⟨k, List.mem_cons_self .., k1⟩
    · rintro ⟨k', hk', he''⟩
      rcases List.mem_cons.1 hk' with rfl | hk'
      · obtain ⟨⟨k2', u'⟩, hp', j1, j2⟩ := q5.mem he'
        right
        have hkn : (es.toList.map (·.key)).Nodup := by
          have : es.toList.map (·.key) = kvs.map (fun p => Value.int .i64 p.1) := by
            have := congrArg (List.map Prod.fst) q5
            simpa [Function.comp_def] using this
          rw [this, show kvs.map (fun p => Value.int .i64 p.1) = (kvs.map (·.1)).map (Value.int .i64) from by simp [Function.comp_def]]
          exact List.Pairwise.map _ (fun a c h e => h (by cases e; rfl)) q7
        have : e' = e := nodup_inj hkn he' hee (by rw [he'', k1])
        rw [this]
      · exact .inl ⟨k', hk', he''⟩
theorem r_nextF (hd : Nat.blt d N.n = true) (hx : ev ρ x = .pointer (some ⟨r, 0, none⟩)) (hm : Rg b r kvs vis w) (hall : ∀ p ∈ kvs, p.1 ∈ vis)
    (h : LW P N ops rest Q (upd ρ d (.tuple #[.bool false])) w) : LW P N ops (⟨some d, .next x false, ty, pos, af, none⟩ :: rest) Q ρ w :=
  r_next hd hx hm (fun _ => h) (fun k u w' hku hk => absurd (hall _ hku) hk)
theorem r_nextT (hd : Nat.blt d N.n = true) (hx : ev ρ x = .pointer (some ⟨r, 0, none⟩)) (hm : Rg b r kvs vis w) (hall : ¬ ∀ p ∈ kvs, p.1 ∈ vis)
    (h : ∀ (k : Int) (u : α) w', (k, u) ∈ kvs → k ∉ vis → w'.heap.size = w.heap.size → Ext (fun k => k = r) w w' → Rg b r kvs (k :: vis) w' → NxE b r k u w' → LW P N ops rest Q (upd ρ d (.tuple #[.bool true, .int .i64 k, agg u])) w') :
    LW P N ops (⟨some d, .next x false, ty, pos, af, none⟩ :: rest) Q ρ w :=
  r_next hd hx hm (fun q => absurd q hall) h
theorem r_delete {args : Array Operand} (hT : P.underlying T = some (.map K E)) (hK : P.underlying K = some (.int .i64)) (ha : args = #[x, y]) (hx : ev ρ x = .map (some b)) (hy : ev ρ y = .int .i64 n) (hm : Rg b r kvs vis w) {dd : Option Nat} (hd : ∀ q, dd = some q → q < N.n) {tt : TypeId}
    (h : ∀ w', w'.heap.size = w.heap.size → Ext (fun k => k = b) w w' → Rg b r (delM kvs n) vis w' → LW P N ops rest Q (updo ρ dd (.tuple #[])) w') :
    LW P N ops (⟨dd, .call { callee := .builtin .delete, args := args, argTypes := #[T, tt] }, ty, pos, af, none⟩ :: rest) Q ρ w := by
  subst ha
  obtain ⟨es, since, seen, clock, q1, q2, q3, q4, q5, q6, q7, q8, q9⟩ := hm
  have hf := run_findKey (P := P) (w := w) hK (find_now q5 n 0)
  have hc : (Instr.checkKey es.isEmpty (9999 + 1) K (.int .i64 n)).run P w = .ok () w := MapKept.run_checkKey (k := .int .i64 n) hK rfl _ _
  have hnod : ((delM kvs n).map (·.1)).Nodup := List.Nodup.sublist (del_sub.map _) q7
  cases hi : idxM kvs n 0 with
  | none =>
    rw [hi] at hf
    rw [idx_none_del hi] at h hnod
    refine LW.val (w' := setBlock w b (.map es clock)) (v := .tuple #[]) rfl hd ?_ (h _ (by simp [setBlock]) set_ext ⟨es, since, seen, clock, set_same q1, by rw [set_other q8, q2], q3, q4, q5, q6, q7, q8, q9⟩)
    simp [execOp, resolve, hx, hy, invoke, builtin, Builtin.delete_, run_underlying hT, MapKept.run_getObj_map q1, hc, hf, run_setO q1, Result.andThen, Sem.run_bind, Sem.run_pure]
  | some p =>
    obtain ⟨j, u0⟩ := p
    rw [hi] at hf
    have hi' : idxM kvs n 0 = some (0 + j, u0) := by rw [hi, Nat.zero_add]
    have hjl : (es.eraseIdxIfInBounds j).toList = es.toList.eraseIdx j := by simp
    have hsub : (es.toList.eraseIdx j).Sublist es.toList := List.eraseIdx_sublist ..
    refine LW.val (w' := setBlock w b (.map (es.eraseIdxIfInBounds j) clock)) (v := .tuple #[]) rfl hd ?_ (h _ (by simp [setBlock]) set_ext ⟨_, since, seen, clock, set_same q1, by rw [set_other q8, q2], q3, ?_, ?_, ?_, hnod, q8, ?_⟩)
    · simp [execOp, resolve, hx, hy, invoke, builtin, Builtin.delete_, run_underlying hT, MapKept.run_getObj_map q1, hc, hf, run_setO q1, Result.andThen, Sem.run_bind, Sem.run_pure]
    · rw [hjl]; exact fun e he => q4 e (hsub.subset he)
    · rw [hjl, idx_some_del hi', EsR, map_erase, map_erase, q5]
    · rw [hjl]; exact List.Nodup.sublist (hsub.map _) q6
    · rw [hjl]; exact fun e he => q9 e (hsub.subset he)
section
variable {U G : Nat → Prop} {w0 w1 w2 : World} {L : List Ch}
theorem SH.addMap {b : Nat} {kvs : List (Int × α)} (H : SH U G w0 w1 L) (hb : b = w1.heap.size) (he : Ext0 w1 w2) (hm : Mp b kvs w2) : SH U G w0 w2 (L ++ [.P (fun k => k = b) (Mp b kvs)]) :=
  H.call ⟨he, Val.one ⟨hm, mp_st, fun k hk => by cases hk; exact hm.lt, fun _ k hk => .inr (by cases hk; omega), fun k hk => .inl (.inr (by cases hk; omega))⟩⟩
theorem SH.addRange {b r i : Nat} {kvs : List (Int × α)} {vis : List Int} (H : SH U G w0 w1 L) (hi : At L i (.P (fun k => k = b) (Mp b kvs))) (hr : r = w1.heap.size) (hs : w2.heap.size = r + 1) (he : Ext0 w1 w2) (hm : Rg b r kvs vis w2) : SH U G w0 w2 (replC L i [.P (fun k => k = b ∨ k = r) (Rg b r kvs vis)]) :=
  SH.upd H hi trivial ⟨he.mono fun _ h => h.elim, Val.one ⟨hm, rg_st, fun k hk => by
      have hb := (SH.val H).1 _ (At.mem hi) |>.lt b rfl
      have hb2 : b < w1.heap.size := hb
      rcases hk with rfl | rfl <;> omega,
    fun _ k hk => hk.elim .inl fun q => .inr (by subst q; omega), fun k hk => .inl (hk.elim .inl fun q => .inr (by subst q; omega))⟩⟩
/-- A block of a thing's own is written. -/
theorem SH.wroteM {F : Nat → Prop} {A A' : World → Prop} {i b : Nat} (H : SH U G w0 w1 L) (hi : At L i (.P F A)) (hb : F b) (hs : w2.heap.size = w1.heap.size) (e : Ext (fun k => k = b) w1 w2) (hst : Ch.St F A') (hA : A' w2) : SH U G w0 w2 (replC L i [.P F A']) :=
  SH.upd H hi trivial ⟨e.mono fun k hk => by subst hk; exact hb, Val.one ⟨hA, hst, fun k hk => by rw [hs]; exact (SH.val H).1 _ (At.mem hi) |>.lt k hk, fun _ k hk => .inl hk, fun k hk => .inl (.inl hk)⟩⟩
end
end maps
end Go.V
