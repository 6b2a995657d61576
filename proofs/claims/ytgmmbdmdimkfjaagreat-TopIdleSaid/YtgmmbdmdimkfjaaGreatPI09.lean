/-
  Maps from numbers, on the abstract heap. No statement of the claim stands here: these are rules, whatever the program; Abstract values and heaps compared. No statement of the claim stands here: these are rules, whatever the program; Regions that draw their order: what was looked at early must stay as it was up to what waits for it. No statement of the claim stands here: these are rules, whatever the program
-/
import Derived.Test.YtgmmbdmdimkfjaaGreatPI08
import Derived.Test.YtgmmbdmdimkfjaaGreatPI02
namespace Go.V
set_option linter.unusedSimpArgs false
set_option linter.unusedVariables false
open Go.RowKit Go.MapKept
open Go.ChangeMaps (setBlock)
section
variable {P : Program} {A : NM} {e : AEnv} {ρ : Env} {U : Nat → Prop} {w0 w : World} {S S' : AS}
variable {dd : Option Nat} {gg : Option (Nat × Bool)} {ty T T2 E K : TypeId} {pos : String} {af : Array Edge} {x y z : Operand}
def iEq : Int → Int → Bool
  | .ofNat a, .ofNat b => Nat.beq a b
  | .negSucc a, .negSucc b => Nat.beq a b
  | _, _ => false
theorem iEq_ok : ∀ {a b : Int}, iEq a b = true → a = b
  | .ofNat a, .ofNat b, h => by rw [beqT h]
  | .negSucc a, .negSucc b, h => by rw [beqT h]
  | .ofNat a, .negSucc b, h => by cases h
  | .negSucc a, .ofNat b, h => by cases h
theorem iEq_no : ∀ {a b : Int}, iEq a b = false → a ≠ b
  | .ofNat a, .ofNat b, h => fun e => beqF h (Int.ofNat.inj e)
  | .negSucc a, .negSucc b, h => fun e => beqF h (Int.negSucc.inj e)
  | .ofNat a, .negSucc b, h => fun e => by cases e
  | .negSucc a, .ofNat b, h => fun e => by cases e
def findE : List (Int × Nat × AV) → Int → Nat → Option (Nat × Nat × AV)
  | [], _, _ => none
  | p :: r, n, i => bif iEq p.1 n then some (i, p.2.1, p.2.2) else findE r n (i + 1)
theorem RM.none : ∀ {es : List (Int × Nat × AV)} {l : List MapEntry} {n : Int} {i : Nat}, RM A es l → findE es n i = none → Instr.findNow (.int .i64) (.int .i64 n) l i = some none
  | [], l, n, i, H, h => by cases H; rfl
  | p :: r, l, n, i, H, h => by
    obtain ⟨v, t, rfl, h1, h2⟩ := H
    unfold findE at h
    cases hb : iEq p.1 n with
    | true => rw [hb] at h; cases h
    | false =>
      rw [hb] at h
      have := iEq_no hb
      rw [Instr.findNow]
      simp only [Instr.sameNow, if_true, show (n == p.1) = false from by simpa using fun e => this e.symm]
      exact RM.none h2 h
theorem RM.some : ∀ {es : List (Int × Nat × AV)} {l : List MapEntry} {n : Int} {i j bn : Nat} {a : AV}, RM A es l → findE es n i = some (i + j, bn, a) →
    ∃ v, Instr.findNow (.int .i64) (.int .i64 n) l i = some (some (i + j, v)) ∧ RV A a v ∧ l[j]? = some { key := .int .i64 n, val := v, born := bn } ∧
      (∀ a' v', RV A a' v' → RM A (es.set j (n, bn, a')) (l.set j { key := .int .i64 n, val := v', born := bn })) ∧ RM A (es.eraseIdx j) (l.eraseIdx j)
  | [], l, n, i, j, bn, a, H, h => by cases h
  | p :: r, l, n, i, j, bn, a, H, h => by
    obtain ⟨v, t, rfl, h1, h2⟩ := H
    unfold findE at h
    cases hb : iEq p.1 n with
    | true =>
      rw [hb] at h
      simp only [cond_true, Option.some.injEq, Prod.mk.injEq] at h
      obtain ⟨k1, k2, k3⟩ := h
      have hj : j = 0 := by omega
      subst hj
      have := iEq_ok hb
      subst this; subst k2; subst k3
      refine ⟨v, ?_, h1, rfl, fun a' v' hr => ⟨v', t, rfl, hr, h2⟩, h2⟩
      rw [Instr.findNow]
      simp [Instr.sameNow]
    | false =>
      rw [hb, cond_false] at h
      have hne := iEq_no hb
      have hge : ∀ {es : List (Int × Nat × AV)} {i j bn : Nat} {a : AV}, findE es n i = Option.some (j, bn, a) → i ≤ j := by
        intro es
        induction es with
        | nil => intro i j bn a h; cases h
        | cons q s ih =>
          intro i j bn a h
          unfold findE at h
          cases hq : iEq q.1 n with
          | true => rw [hq] at h; cases h; exact Nat.le_refl _
          | false => rw [hq] at h; exact Nat.le_of_succ_le (ih h)
      have := hge h
      obtain ⟨j, rfl⟩ : ∃ k, j = k + 1 := ⟨j - 1, by omega⟩
      have h' : findE r n (i + 1) = Option.some (i + 1 + j, bn, a) := by rw [h]; congr 2; omega
      obtain ⟨u, e1, e2, e3, e4, e5⟩ := RM.some h2 h'
      refine ⟨u, ?_, e2, by rw [List.getElem?_cons_succ]; exact e3, fun a' v' hr => ⟨v, _, rfl, h1, e4 a' v' hr⟩, ⟨v, _, rfl, h1, e5⟩⟩
      rw [Instr.findNow]
      simp only [Instr.sameNow, if_true, show (n == p.1) = false from by simpa using fun e => hne e.symm]
      rw [e1]; congr 3; omega
theorem RM.push : ∀ {es : List (Int × Nat × AV)} {l : List MapEntry} {n : Int} {bn : Nat} {a : AV} {v : Value}, RM A es l → RV A a v → RM A (es ++ [(n, bn, a)]) (l ++ [{ key := .int .i64 n, val := v, born := bn }])
  | [], l, n, bn, a, v, H, h => by cases H; exact ⟨v, [], rfl, h, rfl⟩
  | p :: r, l, n, bn, a, v, H, h => by
    obtain ⟨u, t, rfl, h1, h2⟩ := H
    exact ⟨u, _, rfl, h1, RM.push h2 h⟩
theorem RM.length : ∀ {es : List (Int × Nat × AV)} {l : List MapEntry}, RM A es l → l.length = es.length
  | [], l, H => by cases H; rfl
  | p :: r, l, H => by
    obtain ⟨u, t, rfl, h1, h2⟩ := H
    rw [List.length_cons, List.length_cons, RM.length h2]
def mapOf (P : Program) (T : TypeId) : Option TypeId := match P.underlying T with
  | some (.map K E) => match P.underlying K with
    | some (.int .i64) => some E
    | _ => none
  | _ => none
theorem mapOf_ok (h : mapOf P T = some E) : ∃ K, P.underlying T = some (.map K E) ∧ P.underlying K = some (.int .i64) := by
  unfold mapOf at h
  split at h
  · rename_i K E' hT
    split at h
    · rename_i hK; cases h; exact ⟨K, hT, hK⟩
    · cases h
  · cases h
def makeMapA (S : AS) : Option (AV × AS) := match freeName S with
  | true => some (.map S.next, (S.put S.next (.map [] 0)).step (S.next + 1))
  | false => none
theorem makeMapA_ok {r : AV} (H : RW U w0 A S w) (h : makeMapA S = some (r, S')) : Stp P U w0 A ρ ⟨dd, .makeMap T none, ty, pos, af, gg⟩ w r S' := by
  unfold makeMapA at h
  split at h
  · rename_i hf
    cases h
    obtain ⟨B, h1, h2, h3⟩ := H.newO (n := S.next) (z := 0) (o := .map [] 0) (w' := w.alloc (.map #[] 0)) (freeName_ok hf) rfl (alloc_ext w _) (fun B hle hB => ⟨w.heap.size, 0, 0, #[], hB, heap_alloc_new w _, rfl⟩)
    refine ⟨B, .map (some w.heap.size), _, h1, by simp only [RV]; exact ⟨_, _, _, h2, rfl⟩, h3.step _, ?_⟩
    have hr : (Instr.makeMap T none).run P w = .ok (.map (some w.heap.size)) (w.alloc (.map #[] 0)) := rfl
    simp only [execOp, Option.map_none, Sem.run_bind, hr, Result.andThen]; rfl
  · cases h
def lookupA (P : Program) (S : AS) (T : TypeId) (a k : AV) (ok : Bool) : Option AV := match mapOf P T with
  | none => none
  | some E => match k with
    | .int .i64 n => match a with
      | .nilm => match tZero P E with
        | some z => match ofV z with
          | some za => some (bif ok then .tup [za, .bool false] else za)
          | none => none
        | none => none
      | .map m => match S.get m with
        | some (.map es _) => match findE es n 0 with
          | some (_, _, v) => some (bif ok then .tup [v, .bool true] else v)
          | none => match tZero P E with
            | some z => match ofV z with
              | some za => some (bif ok then .tup [za, .bool false] else za)
              | none => none
            | none => none
        | _ => none
      | _ => none
    | _ => none
theorem lookupA_ok {a k r : AV} {ok : Bool} (H : RW U w0 A S w) (hx : RV A a (ev ρ x)) (hy : RV A k (ev ρ y)) (h : lookupA P S T a k ok = some r) : ∃ v, RV A r v ∧ (execOp (ev ρ) ⟨dd, .lookup T x y ok, ty, pos, af, gg⟩).run P w = .ok (.value v) w := by
  unfold lookupA at h
  split at h
  · cases h
  rename_i E hE
  obtain ⟨K, hT, hK⟩ := mapOf_ok hE
  have tup : ∀ (u : AV) (v : Value) (b : Bool), RV A u v → RV A (bif ok then .tup [u, .bool b] else u) (if ok = true then .tuple #[v, .bool b] else v) := by
    intro u v b hu
    cases ok with
    | true => simp only [cond_true, if_true, RV]; exact ⟨[v, .bool b], rfl, RVs.cons hu (RVs.cons (by simp [RV]) (RVs.nil A))⟩
    | false => exact hu
  split at h
  · rename_i n
    simp only [RV] at hy
    have hc : ∀ e, (Instr.checkKey e (9999 + 1) K (.int .i64 n)).run P w = .ok () w := fun e => MapKept.run_checkKey (k := .int .i64 n) hK rfl _ _
    split at h
    · split at h
      · rename_i z hz
        split at h
        · rename_i za hza
          cases h
          simp only [RV] at hx
          refine ⟨_, tup za z false (ofV_ok hza), ?_⟩
          have hf : (Instr.findKey K (.int .i64 n) []).run P w = .ok none w := run_findKey hK rfl
          simp [execOp, hx, hy, Instr.lookup, run_underlying hT, hc, hf, tZero_ok hz, Result.andThen, Sem.run_bind, Sem.run_pure]
        · cases h
      · cases h
    · rename_i m
      simp only [RV] at hx
      obtain ⟨b, p, q, hA, hx⟩ := hx
      split at h
      · rename_i es clock hS
        obtain ⟨b', p', q', ents, hA', hw, hM⟩ := H.obj m _ hS
        rw [hA] at hA'; cases hA'
        split at h
        · rename_i j bn v hj
          cases h
          obtain ⟨u, e1, e2, _⟩ := RM.some (i := 0) (j := j) hM (by rw [Nat.zero_add]; exact hj)
          refine ⟨_, tup v u true e2, ?_⟩
          have hf := run_findKey (P := P) (w := w) hK e1
          simp [execOp, hx, hy, Instr.lookup, run_underlying hT, MapKept.run_getObj_map hw, hc, hf, Result.andThen, Sem.run_bind, Sem.run_pure]
        · rename_i hj
          split at h
          · rename_i z hz
            split at h
            · rename_i za hza
              cases h
              refine ⟨_, tup za z false (ofV_ok hza), ?_⟩
              have hf := run_findKey (P := P) (w := w) hK (RM.none hM hj)
              simp [execOp, hx, hy, Instr.lookup, run_underlying hT, MapKept.run_getObj_map hw, hc, hf, tZero_ok hz, Result.andThen, Sem.run_bind, Sem.run_pure]
            · cases h
          · cases h
      · cases h
    · cases h
  · cases h
theorem RW.setO {m b p z : Nat} {ents : Array MapEntry} {clock : Nat} {es : List (Int × Nat × AV)} {o' : AO} {obj : Obj} (H : RW U w0 A S w) (hS : S.get m = some (.map es clock)) (hA : A m = some (b, p, z)) (hO : RO A (setBlock w b obj) m o') : RW U w0 A (S.put m o') (setBlock w b obj) :=
  H.upd hS (by simp) hA (by simp [setBlock]) (fun k hk => set_other hk) ⟨rfl, rfl, rfl⟩ hO
def mapUpdateA (P : Program) (S : AS) (T : TypeId) (a k v : AV) : Option AS := match mapOf P T, a, k with
  | some _, .map m, .int .i64 n => match S.get m with
    | some (.map es clock) => match findE es n 0 with
      | some (j, bn, _) => some (S.put m (.map (es.set j (n, bn, v)) clock))
      | none => some (S.put m (.map (es ++ [(n, clock, v)]) (clock + 1)))
    | _ => none
  | _, _, _ => none
theorem mapUpdateA_ok {a k v : AV} (H : RW U w0 A S w) (hx : RV A a (ev ρ x)) (hy : RV A k (ev ρ y)) (hz : RV A v (ev ρ z)) (h : mapUpdateA P S T a k v = some S') :
    ∃ w', RW U w0 A S' w' ∧ (execOp (ev ρ) ⟨dd, .mapUpdate T x y z, ty, pos, af, gg⟩).run P w = .ok .skip w' := by
  unfold mapUpdateA at h
  split at h
  · rename_i E m n hE
    obtain ⟨K, hT, hK⟩ := mapOf_ok hE
    have hc : ∀ e, (Instr.checkKey e (9999 + 1) K (.int .i64 n)).run P w = .ok () w := fun e => MapKept.run_checkKey (k := .int .i64 n) hK rfl _ _
    simp only [RV] at hx hy
    obtain ⟨b, p, q, hA, hx⟩ := hx
    split at h
    · rename_i es clock hS
      obtain ⟨b', p', q', ents, hA', hw, hM⟩ := H.obj m _ hS
      rw [hA] at hA'; cases hA'
      split at h
      · rename_i j bn v0 hj
        cases h
        obtain ⟨u, e1, e2, e3, e4, e5⟩ := RM.some (i := 0) (j := j) hM (by rw [Nat.zero_add]; exact hj)
        have hf := run_findKey (P := P) (w := w) hK e1
        have hes : ents[j]? = some { key := .int .i64 n, val := u, born := bn } := by rw [← Array.getElem?_toList]; exact e3
        have hk : (Instr.keyThatStays (.int .i64 n) (.int .i64 n)).run P w = .ok (.int .i64 n) w := run_keyThatStays (d := .int .i64) rfl
        have hjl : j < ents.toList.length := (List.getElem?_eq_some_iff.1 e3).1
        have hml : (ents.modify j fun e => { e with key := .int .i64 n, val := ev ρ z }).toList = ents.toList.set j { key := .int .i64 n, val := ev ρ z, born := bn } := by
          apply List.ext_getElem?
          intro q
          rw [Array.getElem?_toList, Array.getElem?_modify, List.getElem?_set]
          by_cases hq : j = q
          · subst hq
            rw [if_pos rfl, if_pos rfl, if_pos hjl, hes]; rfl
          · rw [if_neg hq, if_neg hq, Array.getElem?_toList]
        refine ⟨setBlock w b (.map (ents.modify j fun e => { e with key := .int .i64 n, val := ev ρ z }) clock), H.setO (ents := ents) hS hA ⟨b, p, q, _, hA, set_same hw, ?_⟩, ?_⟩
        · rw [hml]; exact e4 v _ hz
        · rw [Nat.zero_add] at hf
          simp [execOp, hx, hy, Instr.mapUpdate, run_underlying hT, MapKept.run_getObj_map hw, hc, hf, hes, hk, run_setO hw, Result.andThen, Sem.run_bind, Sem.run_pure]
      · rename_i hj
        cases h
        have hf := run_findKey (P := P) (w := w) hK (RM.none hM hj)
        refine ⟨setBlock w b (.map (ents.push { key := .int .i64 n, val := ev ρ z, born := clock }) (clock + 1)), H.setO (ents := ents) hS hA ⟨b, p, q, _, hA, set_same hw, ?_⟩, ?_⟩
        · rw [Array.toList_push]; exact hM.push hz
        · simp [execOp, hx, hy, Instr.mapUpdate, run_underlying hT, MapKept.run_getObj_map hw, hc, hf, run_setO hw, Result.andThen, Sem.run_bind, Sem.run_pure]
    · cases h
  · cases h
def deleteOp (T T2 : TypeId) (x y : Operand) : Op := .call { callee := .builtin .delete, args := #[x, y], argTypes := #[T, T2] }
theorem delete_step {v : Value} {w' : World} (h : (Builtin.delete_ #[T, T2] ty #[ev ρ x, ev ρ y]).run P w = .ok v w') : (execOp (ev ρ) ⟨dd, deleteOp T T2 x y, ty, pos, af, gg⟩).run P w = .ok (.value v) w' := by
  simp only [deleteOp, execOp, resolve, invoke, builtin, Sem.run_bind, Sem.run_pure, Result.andThen_ok, List.map_toArray, List.map_cons, List.map_nil, h]
def deleteA (P : Program) (S : AS) (T : TypeId) (a k : AV) : Option (AV × AS) := match mapOf P T, a, k with
  | some _, .map m, .int .i64 n => match S.get m with
    | some (.map es clock) => match findE es n 0 with
      | some (j, _, _) => some (.tup [], S.put m (.map (es.eraseIdx j) clock))
      | none => some (.tup [], S.put m (.map es clock))
    | _ => none
  | _, _, _ => none
theorem deleteA_ok {a k r : AV} (H : RW U w0 A S w) (hx : RV A a (ev ρ x)) (hy : RV A k (ev ρ y)) (h : deleteA P S T a k = some (r, S')) : Stp P U w0 A ρ ⟨dd, deleteOp T T2 x y, ty, pos, af, gg⟩ w r S' := by
  unfold deleteA at h
  have htup : ∀ B, RV B (.tup []) (.tuple #[]) := fun B => by simp only [RV]; exact ⟨[], rfl, RVs.nil B⟩
  split at h
  · rename_i E m n hE
    obtain ⟨K, hT, hK⟩ := mapOf_ok hE
    have hc : ∀ e, (Instr.checkKey e (9999 + 1) K (.int .i64 n)).run P w = .ok () w := fun e => MapKept.run_checkKey (k := .int .i64 n) hK rfl _ _
    simp only [RV] at hx hy
    obtain ⟨b, p, q, hA, hx⟩ := hx
    split at h
    · rename_i es clock hS
      obtain ⟨b', p', q', ents, hA', hw, hM⟩ := H.obj m _ hS
      rw [hA] at hA'; cases hA'
      split at h
      · rename_i j bn v0 hj
        cases h
        obtain ⟨u, e1, e2, e3, e4, e5⟩ := RM.some (i := 0) (j := j) hM (by rw [Nat.zero_add]; exact hj)
        have hf := run_findKey (P := P) (w := w) hK e1
        refine ⟨A, .tuple #[], setBlock w b (.map (ents.eraseIdxIfInBounds j) clock), NM.le.refl A, htup A, H.setO (ents := ents) hS hA ⟨b, p, q, _, hA, set_same hw, by simpa using e5⟩, delete_step ?_⟩
        rw [Nat.zero_add] at hf
        simp [hx, hy, Builtin.delete_, run_underlying hT, MapKept.run_getObj_map hw, hc, hf, run_setO hw, Result.andThen, Sem.run_bind, Sem.run_pure]
      · rename_i hj
        cases h
        have hf := run_findKey (P := P) (w := w) hK (RM.none hM hj)
        refine ⟨A, .tuple #[], setBlock w b (.map ents clock), NM.le.refl A, htup A, H.setO (ents := ents) hS hA ⟨b, p, q, _, hA, set_same hw, hM⟩, delete_step ?_⟩
        simp [hx, hy, Builtin.delete_, run_underlying hT, MapKept.run_getObj_map hw, hc, hf, run_setO hw, Result.andThen, Sem.run_bind, Sem.run_pure]
    · cases h
  · cases h
def rangeA (P : Program) (S : AS) (T : TypeId) (a : AV) : Option (AV × AS) := match mapOf P T, a, freeName S with
  | some _, .map m, true => match S.get m with
    | some (.map es clock) => some (.ptr S.next 0, (S.put S.next (.iter m clock [] clock)).step (S.next + 1))
    | _ => none
  | _, _, _ => none
theorem rangeA_ok {a r : AV} (H : RW U w0 A S w) (hx : RV A a (ev ρ x)) (h : rangeA P S T a = some (r, S')) : Stp P U w0 A ρ ⟨dd, .range T x, ty, pos, af, gg⟩ w r S' := by
  unfold rangeA at h
  split at h
  · rename_i E m hE hf
    obtain ⟨K, hT, hK⟩ := mapOf_ok hE
    simp only [RV] at hx
    obtain ⟨b, p, q, hA, hx⟩ := hx
    split at h
    · rename_i es clock hS
      cases h
      obtain ⟨b', p', q', ents, hA', hw, hM⟩ := H.obj m _ hS
      rw [hA] at hA'; cases hA'
      obtain ⟨B, h1, h2, h3⟩ := H.newO (n := S.next) (z := 0) (o := .iter m clock [] clock) (w' := w.alloc (.mapIter (some b) clock #[] clock)) (freeName_ok hf) rfl (alloc_ext w _) (fun B hle hB => ⟨w.heap.size, 0, b, p, q, hB, hle.1 _ _ hA, heap_alloc_new w _⟩)
      refine ⟨B, .pointer (some ⟨w.heap.size, 0, none⟩), _, h1, by simp only [RV]; exact ⟨_, _, _, h2, rfl⟩, h3.step _, ?_⟩
      simp only [execOp, hx, Sem.run_bind, run_range_map w T K E b ents clock hT hw, Result.andThen]; rfl
    · cases h
  · cases h
def memN (x : Nat) : List Nat → Bool
  | [] => false
  | y :: r => bif Nat.beq x y then true else memN x r
theorem memN_ok (x : Nat) : ∀ l : List Nat, memN x l = l.contains x
  | [] => rfl
  | y :: r => by
    rw [memN, memN_ok x r, List.contains_cons]
    cases h : Nat.beq x y with
    | true => have := beqT h; subst this; simp
    | false => have := beqF h; simp [this]
def nextA (S : AS) (a : AV) : Option (AV × AS) := match a with
  | .ptr n 0 => match S.get n with
    | some (.iter m since seen last) => match S.get m with
      | some (.map [] _) => bif Nat.ble since last then some (.tup [.bool false], S) else none
      | some (.map [(k, bn, v)] clock) => bif Nat.ble since last && Nat.blt bn since then (bif memN bn seen then some (.tup [.bool false], S) else some (.tup [.bool true, .int .i64 k, v], S.put n (.iter m since (seen ++ [bn]) clock))) else none
      | _ => none
    | _ => none
  | _ => none
theorem nextA_ok {a r : AV} (H : RW U w0 A S w) (hx : RV A a (ev ρ x)) (h : nextA S a = some (r, S')) : Stp P U w0 A ρ ⟨dd, .next x false, ty, pos, af, gg⟩ w r S' := by
  unfold nextA at h
  split at h
  · rename_i n
    simp only [RV] at hx
    obtain ⟨b, p, q, hA, hx⟩ := hx
    have hover : RV A (.tup [.bool false]) (.tuple #[.bool false]) := by simp only [RV]; exact ⟨[.bool false], rfl, RVs.cons (by simp [RV]) (RVs.nil A)⟩
    split at h
    · rename_i m since seen last hS
      obtain ⟨b', q', bm, pm, zm, hA', hAm, hw⟩ := H.obj n _ hS
      rw [hA] at hA'; cases hA'
      simp only [Nat.add_zero] at hx
      split at h
      · rename_i clock hM
        cases hb : Nat.ble since last with
        | false => rw [hb] at h; cases h
        | true =>
          rw [hb] at h
          cases h
          obtain ⟨b', p', q', ents, hA', hwm, hR⟩ := H.obj m _ hM
          rw [hAm] at hA'; cases hA'
          have he : ents.toList = [] := hR
          rcases run_next_at (P := P) w ty b bm since last seen.toArray ents clock hw hwm (by rw [he]; simp) (Nat.le_of_ble_eq_true hb) with ⟨hs, hr⟩ | ⟨e, he', _⟩
          · exact ⟨A, _, w, NM.le.refl A, hover, H, by simp only [execOp, hx, Sem.run_bind, hr, Result.andThen]; rfl⟩
          · have := (mem_left he').1
            rw [he] at this; cases this
      · rename_i k bn v clock hM
        cases hb : (Nat.ble since last && Nat.blt bn since) with
        | false => rw [hb] at h; cases h
        | true =>
          rw [hb, cond_true] at h
          rw [Bool.and_eq_true] at hb
          have hbn : bn < since := Nat.le_of_ble_eq_true hb.2
          obtain ⟨b', p', q', ents, hA', hwm, hR⟩ := H.obj m _ hM
          rw [hAm] at hA'; cases hA'
          obtain ⟨u, t, he, hu, ht⟩ := hR
          cases ht
          rcases run_next_at (P := P) w ty b bm since last seen.toArray ents clock hw hwm (by rw [he]; intro x hx; rw [List.mem_singleton] at hx; subst hx; exact hbn) (Nat.le_of_ble_eq_true hb.1) with ⟨hs, hr⟩ | ⟨e, he', w1, hw1, hr⟩
          · cases hm : memN bn seen with
            | true =>
              rw [hm] at h
              cases h
              exact ⟨A, _, w, NM.le.refl A, hover, H, by simp only [execOp, hx, Sem.run_bind, hr, Result.andThen]; rfl⟩
            | false =>
              exfalso
              have := all_seen ents seen.toArray hs { key := .int .i64 k, val := u, born := bn } (by rw [he]; simp)
              rw [memN_ok] at hm
              simp only [List.contains_toArray] at this
              rw [hm] at this; cases this
          · obtain ⟨hee, hse⟩ := mem_left he'
            rw [he, List.mem_singleton] at hee
            subst hee
            simp only [List.contains_toArray] at hse
            rw [memN_ok, hse] at h
            cases h
            have hh : w1.heap = w.heap := by rcases hw1 with rfl | rfl <;> rfl
            have hx1 : Ext0 w w1 := by rcases hw1 with rfl | rfl; exact Ext.refl _ _; exact drew_ext w
            have H1 : RW U w0 A S w1 := H.same hh hx1
            have hw' : w1.heap[b]? = some (.mapIter (some bm) since seen.toArray last) := by rw [hh]; exact hw
            refine ⟨A, .tuple #[.bool true, .int .i64 k, u], setBlock w1 b (.mapIter (some bm) since (seen.toArray.push bn) clock), NM.le.refl A, ?_, H1.upd hS (by simp) hA (by simp [setBlock]) (fun k hk => set_other hk) ⟨rfl, rfl, rfl⟩ ?_, by simp only [execOp, hx, Sem.run_bind, hr, Result.andThen]; rfl⟩
            · simp only [RV]
              exact ⟨[.bool true, .int .i64 k, u], rfl, RVs.cons (by simp [RV]) (RVs.cons (by simp [RV]) (RVs.cons hu (RVs.nil A)))⟩
            · exact ⟨b, _, bm, pm, zm, hA, hAm, by rw [set_same hw']; simp⟩
      · cases h
    · cases h
  · cases h
def entryA (S : AS) (a : AV) : Option AV := match a with
  | .ptr n 0 => match S.get n with
    | some (.iter m _ [b] last) => match S.get m with
      | some (.map [(k, bn, v)] clock) => bif Nat.beq b bn && Nat.beq last clock then some (.tup [.int .i64 k, v]) else none
      | _ => none
    | _ => none
  | _ => none
theorem entryA_ok {a r : AV} (H : RW U w0 A S w) (hx : RV A a (ev ρ x)) (h : entryA S a = some r) : ∃ v, RV A r v ∧ (execOp (ev ρ) ⟨dd, .entry x, ty, pos, af, gg⟩).run P w = .ok (.value v) w := by
  unfold entryA at h
  split at h
  · rename_i n
    simp only [RV] at hx
    obtain ⟨b, p, q, hA, hx⟩ := hx
    split at h
    · rename_i m since sb last hS
      obtain ⟨b', q', bm, pm, zm, hA', hAm, hw⟩ := H.obj n _ hS
      rw [hA] at hA'; cases hA'
      simp only [Nat.add_zero] at hx
      split at h
      · rename_i k bn v clock hM
        cases hb : (Nat.beq sb bn && Nat.beq last clock) with
        | false => rw [hb] at h; cases h
        | true =>
          rw [hb] at h
          cases h
          rw [Bool.and_eq_true] at hb
          have e1 := beqT hb.1
          have e2 := beqT hb.2
          subst e1; subst e2
          obtain ⟨b', p', q', ents, hA', hwm, hR⟩ := H.obj m _ hM
          rw [hAm] at hA'; cases hA'
          obtain ⟨u, t, he, hu, ht⟩ := hR
          cases ht
          have hr := run_entry_at (P := P) w b bm since #[] ents last { key := .int .i64 k, val := u, born := sb } (by simpa using hw) hwm (by rw [he]; simp) (by rw [he]; simp)
          refine ⟨.tuple #[.int .i64 k, u], by simp only [RV]; exact ⟨[.int .i64 k, u], rfl, RVs.cons (by simp [RV]) (RVs.cons hu (RVs.nil A))⟩, ?_⟩
          simp only [execOp, hx, Sem.run_bind, hr, Result.andThen]; rfl
      · cases h
    · cases h
  · cases h
def lenMapA (P : Program) (S : AS) (T : TypeId) (a : AV) : Option AV := match a, P.underlying T with
  | .map m, some (.map _ _) => match S.get m with
    | some (.map es _) => some (.int .i64 es.length)
    | _ => none
  | .nilm, some (.map _ _) => some (.int .i64 0)
  | _, _ => none
theorem lenMapA_ok {a r : AV} (H : RW U w0 A S w) (hx : RV A a (ev ρ x)) (h : lenMapA P S T a = some r) : ∃ v, RV A r v ∧ (execOp (ev ρ) ⟨dd, .call { callee := .builtin .len, args := #[x], argTypes := #[T] }, ty, pos, af, gg⟩).run P w = .ok (.value v) w := by
  unfold lenMapA at h
  split at h
  · rename_i m K E hT
    simp only [RV] at hx
    obtain ⟨b, p, q, hA, hx⟩ := hx
    split at h
    · rename_i es clock hS
      cases h
      obtain ⟨b', p', q', ents, hA', hw, hM⟩ := H.obj m _ hS
      rw [hA] at hA'; cases hA'
      have hl := hM.length
      refine ⟨goInt ents.size, by simp only [RV, goInt]; rw [← Array.length_toList, hl], ?_⟩
      simp [execOp, resolve, invoke, builtin, hx, Builtin.len_, run_underlying hT, MapKept.run_getObj_map hw, Sem.run_bind, Sem.run_pure, Result.andThen]
    · cases h
  · rename_i K E hT
    cases h
    simp only [RV] at hx
    refine ⟨goInt (0 : Nat), by simp [RV, goInt], ?_⟩
    simp [execOp, resolve, invoke, builtin, hx, Builtin.len_, run_underlying hT, Sem.run_bind, Sem.run_pure, Result.andThen]
  · cases h
end
end Go.V
namespace Go.V
set_option linter.unusedSimpArgs false
set_option linter.unusedVariables false
open Go.RowKit
def bEq : Bool → Bool → Bool
  | true, b => b
  | false, true => false
  | false, false => true
theorem bEq_ok : ∀ {a b : Bool}, bEq a b = true → a = b
  | true, true, _ => rfl
  | false, false, _ => rfl
  | true, false, h => by cases h
  | false, true, h => by cases h
def kEq (j k : IntKind) : Bool := decide (j = k)
def oEq : Option Nat → Option Nat → Bool
  | none, none => true
  | some a, some b => Nat.beq a b
  | _, _ => false
theorem oEq_ok : ∀ {a b : Option Nat}, oEq a b = true → a = b
  | none, none, _ => rfl
  | some a, some b, h => by rw [beqT h]
  | none, some _, h => by cases h
  | some _, none, h => by cases h
def fEq : Fn → Fn → Bool
  | .func f, .func g => Nat.beq f g
  | _, _ => false
theorem fEq_ok {f g : Fn} (h : fEq f g = true) : f = g := by
  unfold fEq at h
  split at h
  · rw [beqT h]
  · cases h
def itEq : IT → IT → Bool
  | .sym i, .sym j => Nat.beq i j
  | .lit m, .lit n => iEq m n
  | .add k a b, .add l c d => decide (k = l) && (itEq a c && itEq b d)
  | .sub k a b, .sub l c d => decide (k = l) && (itEq a c && itEq b d)
  | .mx a b, .mx c d => itEq a c && itEq b d
  | .mn a b, .mn c d => itEq a c && itEq b d
  | .wr k a, .wr l c => decide (k = l) && itEq a c
  | _, _ => false
theorem itEq_ok : ∀ {a b : IT}, itEq a b = true → a = b := by
  intro a
  induction a with
  | sym i => intro b h; cases b <;> simp only [itEq, Bool.false_eq_true] at h; rw [beqT h]
  | lit n => intro b h; cases b <;> simp only [itEq, Bool.false_eq_true] at h; rw [iEq_ok h]
  | add k a b iha ihb => intro c h; cases c <;> simp only [itEq, Bool.and_eq_true, Bool.false_eq_true] at h; rw [of_decide_eq_true h.1, iha h.2.1, ihb h.2.2]
  | sub k a b iha ihb => intro c h; cases c <;> simp only [itEq, Bool.and_eq_true, Bool.false_eq_true] at h; rw [of_decide_eq_true h.1, iha h.2.1, ihb h.2.2]
  | mx a b iha ihb => intro c h; cases c <;> simp only [itEq, Bool.and_eq_true, Bool.false_eq_true] at h; rw [iha h.1, ihb h.2]
  | mn a b iha ihb => intro c h; cases c <;> simp only [itEq, Bool.and_eq_true, Bool.false_eq_true] at h; rw [iha h.1, ihb h.2]
  | wr k a iha => intro c h; cases c <;> simp only [itEq, Bool.and_eq_true, Bool.false_eq_true] at h; rw [of_decide_eq_true h.1, iha h.2]
def btEq : BT → BT → Bool
  | .lss a b, .lss c d => itEq a c && itEq b d
  | .leq a b, .leq c d => itEq a c && itEq b d
  | .eql a b, .eql c d => itEq a c && itEq b d
  | .sym i, .sym j => Nat.beq i j
  | .not a, .not b => btEq a b
  | _, _ => false
theorem btEq_ok : ∀ {a b : BT}, btEq a b = true → a = b := by
  intro a
  induction a with
  | lss a b => intro c h; cases c <;> simp only [btEq, Bool.and_eq_true, Bool.false_eq_true] at h; rw [itEq_ok h.1, itEq_ok h.2]
  | leq a b => intro c h; cases c <;> simp only [btEq, Bool.and_eq_true, Bool.false_eq_true] at h; rw [itEq_ok h.1, itEq_ok h.2]
  | eql a b => intro c h; cases c <;> simp only [btEq, Bool.and_eq_true, Bool.false_eq_true] at h; rw [itEq_ok h.1, itEq_ok h.2]
  | sym i => intro b h; cases b <;> simp only [btEq, Bool.false_eq_true] at h; rw [beqT h]
  | not a ih => intro b h; cases b <;> simp only [btEq, Bool.false_eq_true] at h; rw [ih h]
mutual
def avEq : AV → AV → Bool
  | .und, b => match b with
    | .und => true
    | _ => false
  | .bool x, b => match b with
    | .bool y => bEq x y
    | _ => false
  | .int j m, b => match b with
    | .int k n => kEq j k && iEq m n
    | _ => false
  | .flt j m, b => match b with
    | .flt k n => decide (j = k) && Nat.beq m n
    | _ => false
  | .exp j m, b => match b with
    | .exp k n => decide (j = k) && itEq m n
    | _ => false
  | .bex m, b => match b with
    | .bex n => btEq m n
    | _ => false
  | .str s, b => match b with
    | .str t => sEq s t
    | _ => false
  | .nilp, b => match b with
    | .nilp => true
    | _ => false
  | .ptr n o, b => match b with
    | .ptr m q => Nat.beq n m && Nat.beq o q
    | _ => false
  | .nils, b => match b with
    | .nils => true
    | _ => false
  | .sl n o l c s, b => match b with
    | .sl n' o' l' c' s' => Nat.beq n n' && (Nat.beq o o' && (Nat.beq l l' && (oEq c c' && Nat.beq s s')))
    | _ => false
  | .sle, b => match b with
    | .sle => true
    | _ => false
  | .nilm, b => match b with
    | .nilm => true
    | _ => false
  | .map n, b => match b with
    | .map m => Nat.beq n m
    | _ => false
  | .func f x y, b => match b with
    | .func g u v => fEq f g && (avsEq x u && avsEq y v)
    | _ => false
  | .nilf, b => match b with
    | .nilf => true
    | _ => false
  | .iface t v, b => match b with
    | .iface u w => Nat.beq t u && avEq v w
    | _ => false
  | .nilif, b => match b with
    | .nilif => true
    | _ => false
  | .agg x, b => match b with
    | .agg y => avsEq x y
    | _ => false
  | .tup x, b => match b with
    | .tup y => avsEq x y
    | _ => false
  | .pan v, b => match b with
    | .pan w => avEq v w
    | _ => false
def avsEq : List AV → List AV → Bool
  | [], b => match b with
    | [] => true
    | _ => false
  | x :: r, b => match b with
    | y :: s => avEq x y && avsEq r s
    | _ => false
end
mutual
theorem avEq_ok : ∀ (a b : AV), avEq a b = true → a = b
  | .und, b, h => by unfold avEq at h; split at h <;> first | rfl | cases h
  | .bool x, b, h => by unfold avEq at h; split at h; · rw [bEq_ok h]
                        · cases h
  | .int j m, b, h => by
    unfold avEq at h; split at h
    · rw [Bool.and_eq_true] at h
      rw [of_decide_eq_true h.1, iEq_ok h.2]
    · cases h
  | .flt j m, b, h => by
    unfold avEq at h; split at h
    · rw [Bool.and_eq_true] at h
      rw [of_decide_eq_true h.1, beqT h.2]
    · cases h
  | .exp j m, b, h => by
    unfold avEq at h; split at h
    · rw [Bool.and_eq_true] at h
      rw [of_decide_eq_true h.1, itEq_ok h.2]
    · cases h
  | .bex m, b, h => by
    unfold avEq at h; split at h
    · rw [btEq_ok h]
    · cases h
  | .str s, b, h => by
    unfold avEq at h; split at h
    · rw [sEq_ok] at h; rw [of_decide_eq_true h]
    · cases h
  | .nilp, b, h => by unfold avEq at h; split at h <;> first | rfl | cases h
  | .ptr n o, b, h => by
    unfold avEq at h; split at h
    · rw [Bool.and_eq_true] at h; rw [beqT h.1, beqT h.2]
    · cases h
  | .nils, b, h => by unfold avEq at h; split at h <;> first | rfl | cases h
  | .sl n o l c s, b, h => by
    unfold avEq at h; split at h
    · simp only [Bool.and_eq_true] at h
      rw [beqT h.1, beqT h.2.1, beqT h.2.2.1, oEq_ok h.2.2.2.1, beqT h.2.2.2.2]
    · cases h
  | .sle, b, h => by unfold avEq at h; split at h <;> first | rfl | cases h
  | .nilm, b, h => by unfold avEq at h; split at h <;> first | rfl | cases h
  | .map n, b, h => by
    unfold avEq at h; split at h
    · rw [beqT h]
    · cases h
  | .func f x y, b, h => by
    unfold avEq at h; split at h
    · simp only [Bool.and_eq_true] at h
      rw [fEq_ok h.1, avsEq_ok x _ h.2.1, avsEq_ok y _ h.2.2]
    · cases h
  | .nilf, b, h => by unfold avEq at h; split at h <;> first | rfl | cases h
  | .iface t v, b, h => by
    unfold avEq at h; split at h
    · rw [Bool.and_eq_true] at h; rw [beqT h.1, avEq_ok v _ h.2]
    · cases h
  | .nilif, b, h => by unfold avEq at h; split at h <;> first | rfl | cases h
  | .agg x, b, h => by
    unfold avEq at h; split at h
    · rw [avsEq_ok x _ h]
    · cases h
  | .tup x, b, h => by
    unfold avEq at h; split at h
    · rw [avsEq_ok x _ h]
    · cases h
  | .pan v, b, h => by
    unfold avEq at h; split at h
    · rw [avEq_ok v _ h]
    · cases h
theorem avsEq_ok : ∀ (a b : List AV), avsEq a b = true → a = b
  | [], b, h => by unfold avsEq at h; split at h <;> first | rfl | cases h
  | x :: r, b, h => by
    unfold avsEq at h; split at h
    · rw [Bool.and_eq_true] at h; rw [avEq_ok x _ h.1, avsEq_ok r _ h.2]
    · cases h
end
def esEq : List (Int × Nat × AV) → List (Int × Nat × AV) → Bool
  | [], [] => true
  | p :: r, q :: s => iEq p.1 q.1 && (Nat.beq p.2.1 q.2.1 && (avEq p.2.2 q.2.2 && esEq r s))
  | _, _ => false
theorem esEq_ok : ∀ {a b : List (Int × Nat × AV)}, esEq a b = true → a = b
  | [], [], _ => rfl
  | p :: r, q :: s, h => by
    simp only [esEq, Bool.and_eq_true] at h
    obtain ⟨h1, h2, h3, h4⟩ := h
    obtain ⟨p1, p2, p3⟩ := p
    obtain ⟨q1, q2, q3⟩ := q
    rw [esEq_ok h4]
    dsimp only at h1 h2 h3
    rw [iEq_ok h1, beqT h2, avEq_ok _ _ h3]
  | [], _ :: _, h => by cases h
  | _ :: _, [], h => by cases h
def nsEq : List Nat → List Nat → Bool
  | [], [] => true
  | a :: r, b :: s => Nat.beq a b && nsEq r s
  | _, _ => false
theorem nsEq_ok : ∀ {a b : List Nat}, nsEq a b = true → a = b
  | [], [], _ => rfl
  | a :: r, b :: s, h => by
    simp only [nsEq, Bool.and_eq_true] at h
    rw [beqT h.1, nsEq_ok h.2]
  | [], _ :: _, h => by cases h
  | _ :: _, [], h => by cases h
def aoEq : AO → AO → Bool
  | .cells x E, b => match b with
    | .cells y F => Nat.beq E F && avsEq x y
    | _ => false
  | .map x c, b => match b with
    | .map y d => Nat.beq c d && esEq x y
    | _ => false
  | .iter m s l t, b => match b with
    | .iter m' s' l' t' => Nat.beq m m' && (Nat.beq s s' && (nsEq l l' && Nat.beq t t'))
    | _ => false
  | .dead, b => match b with
    | .dead => true
    | _ => false
theorem aoEq_ok {a b : AO} (h : aoEq a b = true) : a = b := by
  cases a <;> cases b <;> simp only [aoEq, Bool.and_eq_true, Bool.false_eq_true] at h
  · rw [beqT h.1, avsEq_ok _ _ h.2]
  · rw [beqT h.1, esEq_ok h.2]
  · rw [beqT h.1, beqT h.2.1, nsEq_ok h.2.2.1, beqT h.2.2.2]
  · rfl
def trEq {α : Type} (f : α → α → Bool) : Tr α → Tr α → Bool
  | .nil, b => match b with
    | .nil => true
    | _ => false
  | .node v l r, b => match b with
    | .node w m s => (match v, w with
      | none, none => true
      | some x, some y => f x y
      | _, _ => false) && (trEq f l m && trEq f r s)
    | _ => false
theorem trEq_ok {α : Type} {f : α → α → Bool} (hf : ∀ {x y}, f x y = true → x = y) : ∀ {a b : Tr α}, trEq f a b = true → a = b
  | .nil, b, h => by unfold trEq at h; split at h <;> first | rfl | cases h
  | .node v l r, b, h => by
    unfold trEq at h
    split at h
    · simp only [Bool.and_eq_true] at h
      obtain ⟨h1, h2, h3⟩ := h
      rw [trEq_ok hf h2, trEq_ok hf h3]
      split at h1
      · rfl
      · rw [hf h1]
      · cases h1
    · cases h
def ksEq : List (BT × Bool) → List (BT × Bool) → Bool
  | [], [] => true
  | p :: r, q :: s => btEq p.1 q.1 && (bEq p.2 q.2 && ksEq r s)
  | _, _ => false
theorem ksEq_ok : ∀ {a b : List (BT × Bool)}, ksEq a b = true → a = b
  | [], [], _ => rfl
  | p :: r, q :: s, h => by
    simp only [ksEq, Bool.and_eq_true] at h
    obtain ⟨p1, p2⟩ := p
    obtain ⟨q1, q2⟩ := q
    rw [ksEq_ok h.2.2, show p1 = q1 from btEq_ok h.1, show p2 = q2 from bEq_ok h.2.1]
  | [], _ :: _, h => by cases h
  | _ :: _, [], h => by cases h
def asEq (S T : AS) : Bool := Nat.beq S.next T.next && (Nat.beq S.low T.low && (ksEq S.facts T.facts && trEq aoEq S.heap T.heap))
theorem asEq_ok {S T : AS} (h : asEq S T = true) : S = T := by
  unfold asEq at h
  rw [Bool.and_eq_true] at h
  cases S; cases T
  have h3 := h.2
  simp only [Bool.and_eq_true] at h3
  have h1 := beqT h.1
  have h2 := trEq_ok aoEq_ok h3.2.2
  have h4 := beqT h3.1
  have h5 := ksEq_ok h3.2.1
  dsimp only at h1 h2 h4 h5
  rw [h1, h2, h4, h5]
/-- What e says of its slots f says too. -/
def aeLe : AEnv → AEnv → AEnv → Bool
  | _, _, [] => true
  | e, f, p :: r => (match aget e p.1, aget f p.1 with
    | some a, some b => avEq a b
    | _, _ => false) && aeLe e f r
theorem aeLe_ok {e f : AEnv} : ∀ {l : AEnv}, aeLe e f l = true → ∀ p ∈ l, ∀ a, aget e p.1 = some a → aget f p.1 = some a
  | [], _, p, hp, _, _ => by cases hp
  | q :: r, h, p, hp, a, ha => by
    unfold aeLe at h
    rw [Bool.and_eq_true] at h
    rcases List.mem_cons.1 hp with rfl | hp
    · have h1 := h.1
      rw [ha] at h1
      split at h1
      · rename_i a' b h2 h3
        cases h2
        rw [h3, avEq_ok _ _ h1]
      · cases h1
    · exact aeLe_ok h.2 p hp a ha
theorem aget_mem : ∀ {e : AEnv} {t : Nat} {a : AV}, aget e t = some a → ∃ p ∈ e, p.1 = t
  | [], _, _, h => by cases h
  | p :: r, t, a, h => by
    unfold aget at h
    cases hq : Nat.beq p.1 t with
    | true => exact ⟨p, List.mem_cons_self .., beqT hq⟩
    | false =>
      simp only [hq, cond_false] at h
      obtain ⟨q, h1, h2⟩ := aget_mem h
      exact ⟨q, List.mem_cons_of_mem _ h1, h2⟩
theorem RE.le {A : NM} {e f : AEnv} {ρ : Env} (H : RE A f ρ) (h : aeLe e f e = true) : RE A e ρ := by
  intro t a ha
  obtain ⟨p, hp, rfl⟩ := aget_mem ha
  exact H _ _ (aeLe_ok h p hp a ha)
end Go.V
namespace Go.V
set_option linter.unusedSimpArgs false
set_option linter.unusedVariables false
open Go.RowKit
/-- An obligation: but for what waits for the early operation, T holds behind every operation. -/
abbrev Ob := List Nat × (World → Prop)
def keepO (i : Nat) (obs : List Ob) : List Ob := obs.filter fun ob => !memN i ob.1
def hold (obs : List Ob) (w : World) : Prop := ∀ ob ∈ obs, ob.2 w
theorem hold.sub {xs ys : List Ob} {w : World} (h : xs.Sublist ys) (H : hold ys w) : hold xs w := fun ob hb => H ob (h.subset hb)
theorem keepO_sub {xs ys : List Ob} (i : Nat) (h : xs.Sublist ys) : (keepO i xs).Sublist (keepO i ys) := h.filter _
theorem keepO_le (i : Nat) (xs : List Ob) : (keepO i xs).Sublist xs := List.filter_sublist
section
variable {P : Program} {ops : Array Oper} {Q : Exit → Act → World → Prop} {md : Region.Mode}
def wpAnyO (P : Program) (md : Region.Mode) (ops : Array Oper) (Q : Exit → Act → World → Prop) : Nat → List Ob → Array Bool → Act → World → Prop
  | 0, _, listed, a, w => Region.ready md ops listed = [] ∧ Q .normal a w
  | fuel + 1, obs, listed, a, w =>
    (Region.ready md ops listed = [] → Q .normal a w) ∧
    ∀ i ∈ Region.ready md ops listed, wpOp P ops Q i (fun a' w' => hold (keepO i obs) w' ∧ wpAnyO P md ops Q fuel (keepO i obs) (listed.setIfInBounds i true) a' w') a w
theorem wpAny_of_O : ∀ (fuel : Nat) (obs : List Ob) (listed : Array Bool) (a : Act) (w : World), wpAnyO P md ops Q fuel obs listed a w → wpAny P md ops Q fuel listed a w
  | 0, _, _, _, _, h => h
  | fuel + 1, obs, _, _, _, h => ⟨h.1, fun i hi => wpOp_mono (fun a' w' h' => wpAny_of_O fuel _ _ a' w' h'.2) (h.2 i hi)⟩
theorem wpAnyO_sub : ∀ (fuel : Nat) (xs ys : List Ob) (listed : Array Bool) (a : Act) (w : World), xs.Sublist ys → wpAnyO P md ops Q fuel ys listed a w → wpAnyO P md ops Q fuel xs listed a w
  | 0, _, _, _, _, _, _, h => h
  | fuel + 1, xs, ys, listed, a, w, hs, h => ⟨h.1, fun i hi => wpOp_mono (fun a' w' h' => ⟨h'.1.sub (keepO_sub i hs), wpAnyO_sub fuel _ _ _ a' w' (keepO_sub i hs) h'.2⟩) (h.2 i hi)⟩
theorem memN_iff {x : Nat} {l : List Nat} : memN x l = true ↔ x ∈ l := by rw [memN_ok]; exact List.contains_iff_mem
/-- An operation is taken first: it looks at nothing; or what it looked at stays. -/
theorem wpAnyO_first {T : World → Prop} {i : Nat} {oi : Oper} {v : Value} (B : List Nat) (pre : List Ob) (hi : ops[i]? = some oi) (hsel : ∀ (j : Nat) (o : Oper) cs b, ops[j]? = some o → o.op ≠ .select cs b)
    (hQ : ∀ c a w, Q (.panic c) (a.put oi.dst v) w → Q (.panic c) a w) :
    ∀ (fuel : Nat) (obs : List Ob) (listed : Array Bool) (a : Act) (w : World),
      (∀ j oj, ops[j]? = some oj → j ≠ i → listed.getD j true = false → (∀ e ∈ oj.after, Region.binds md e = true → e.on ≠ i) → oi.apart ops oj = true) →
      ((pre = [] ∧ ∀ w, T w) ∨ (pre = [(B, T)] ∧ (∀ k ∈ B, listed.getD k true = false) ∧ ∀ j oj, ops[j]? = some oj → j ∈ B → j ≠ i → ∃ e ∈ oj.after, Region.binds md e = true ∧ e.on ∈ B)) →
      i ∈ Region.ready md ops listed → YieldsIf P ops T oi v a → T w → hold obs w →
      wpAnyO P md ops Q fuel (pre ++ obs) (listed.setIfInBounds i true) (a.put oi.dst v) w → wpAnyO P md ops Q (fuel + 1) obs listed a w := by
  intro fuel
  have hself : ∀ (fuel : Nat) (obs : List Ob) (listed : Array Bool) (a : Act) (w : World), YieldsIf P ops T oi v a → T w → hold obs w → wpAnyO P md ops Q fuel (pre ++ obs) (listed.setIfInBounds i true) (a.put oi.dst v) w →
      wpOp P ops Q i (fun a' w' => hold (keepO i obs) w' ∧ wpAnyO P md ops Q fuel (keepO i obs) (listed.setIfInBounds i true) a' w') a w := by
    intro fuel obs listed a w hy hT hO H
    have hs : (keepO i obs).Sublist (pre ++ obs) := (keepO_le i obs).trans (List.sublist_append_right _ _)
    exact hy.wpOp hi hT ⟨hO.sub (keepO_le i obs), wpAnyO_sub fuel _ _ _ _ _ hs H⟩
  induction fuel with
  | zero =>
    intro obs listed a w _ _ hr hy hT hO H
    refine ⟨fun h => (by rw [h] at hr; cases hr), fun j hj => ?_⟩
    by_cases hji : j = i
    · subst hji; exact hself 0 obs listed a w hy hT hO H
    · have := ready_mono hj hji
      rw [H.1] at this
      cases this
  | succ fuel ih =>
    intro obs listed a w hfree hpre hr hy hT hO H
    refine ⟨fun h => (by rw [h] at hr; cases hr), fun j hj => ?_⟩
    by_cases hji : j = i
    · subst hji; exact hself (fuel + 1) obs listed a w hy hT hO H
    · have h1 := H.2 j (ready_mono hj hji)
      obtain ⟨hjun, oj, hoj, hall⟩ := mem_ready.1 hj
      have hnot : ∀ e ∈ oj.after, Region.binds md e = true → e.on ≠ i := fun e he hb heq => by
        have h1 := hall e he hb
        have h0 := (mem_ready.1 hr).1
        rw [heq] at h1
        rcases Nat.lt_or_ge i listed.size with h' | h'
        · simp [h'] at h0 h1; rw [h0] at h1; cases h1
        · simp [Array.getElem?_eq_none h'] at h1
      have h2 := wpOp_putIf hoj (hfree j oj hoj hji hjun hnot) (fun cs b => hsel i oi cs b hi) (fun cs b => hsel j oj cs b hoj) hQ hy h1
      have hfree' : ∀ k ok, ops[k]? = some ok → k ≠ i → (listed.setIfInBounds j true).getD k true = false →
          (∀ e ∈ ok.after, Region.binds md e = true → e.on ≠ i) → oi.apart ops ok = true := fun k ok hk hki hun hno => by
        refine hfree k ok hk hki ?_ hno
        by_cases hjk : j = k
        · subst hjk; exact hjun
        · rw [getD_set_ne true hjk] at hun; exact hun
      have hjB : (∀ k ∈ B, listed.getD k true = false) → (∀ j oj, ops[j]? = some oj → j ∈ B → j ≠ i → ∃ e ∈ oj.after, Region.binds md e = true ∧ e.on ∈ B) → j ∉ B := fun hu hb hm => by
        obtain ⟨e, he, hbe, hk⟩ := hb j oj hoj hm hji
        have h1 := hall e he hbe
        have h0 := hu _ hk
        rcases Nat.lt_or_ge e.on listed.size with h' | h'
        · simp [h'] at h0 h1; rw [h0] at h1; cases h1
        · simp [Array.getElem?_eq_none h'] at h1
      have hkeep : keepO j (pre ++ obs) = pre ++ keepO j obs := by
        unfold keepO
        rw [List.filter_append]
        congr 1
        rcases hpre with ⟨rfl, _⟩ | ⟨rfl, h1, h2⟩
        · rfl
        · have hm : memN j B = false := by
            cases hc : memN j B with
            | false => rfl
            | true => exact absurd (memN_iff.1 hc) (hjB h1 h2)
          simp [hm]
      rw [hkeep] at h2
      refine wpOp_mono (fun a' w' h3 => ?_) h2
      have hO' : hold (keepO j obs) w' := h3.2.1.sub (List.sublist_append_right _ _)
      have hT' : T w' := by
        rcases hpre with ⟨_, h⟩ | ⟨rfl, _⟩
        · exact h w'
        · exact h3.2.1 (B, T) (by simp)
      have hpre' : ((pre = [] ∧ ∀ w, T w) ∨ (pre = [(B, T)] ∧ (∀ k ∈ B, (listed.setIfInBounds j true).getD k true = false) ∧ ∀ j oj, ops[j]? = some oj → j ∈ B → j ≠ i → ∃ e ∈ oj.after, Region.binds md e = true ∧ e.on ∈ B)) := by
        rcases hpre with h | ⟨h0, h1, h2⟩
        · exact .inl h
        · refine .inr ⟨h0, fun k hk => ?_, h2⟩
          have hne : j ≠ k := fun e => hjB h1 h2 (e ▸ hk)
          rw [getD_set_ne true hne]; exact h1 k hk
      exact ⟨hO', ih _ (listed.setIfInBounds j true) a' w' hfree' hpre' (ready_mono hr (Ne.symm hji)) h3.1 hT' hO' (by rw [Array.setIfInBounds_comm _ _ hji]; exact h3.2.2)⟩
/-- What waits for i, by way of those of B alone. -/
def closedB (ops : Array Oper) (listed : Array Bool) (B : List Nat) (i : Nat) : Bool :=
  B.all fun k => !(listed.getD k true) && (Nat.beq k i || match ops[k]? with
    | some oj => oj.after.any fun e => Region.binds .any e && memN e.on B
    | none => true)
theorem closedB_spec {listed : Array Bool} {B : List Nat} {i : Nat} (h : closedB ops listed B i = true) :
    (∀ k ∈ B, listed.getD k true = false) ∧ ∀ j oj, ops[j]? = some oj → j ∈ B → j ≠ i → ∃ e ∈ oj.after, Region.binds .any e = true ∧ e.on ∈ B := by
  unfold closedB at h
  refine ⟨fun k hk => ?_, fun j oj hj hm hne => ?_⟩
  · have := List.all_eq_true.1 h k hk
    rw [Bool.and_eq_true] at this
    simpa using this.1
  · have := List.all_eq_true.1 h j hm
    rw [Bool.and_eq_true, hj] at this
    have h2 := this.2
    rw [Bool.or_eq_true] at h2
    rcases h2 with h2 | h2
    · exact absurd (beqT h2) hne
    · simp only [Array.any_eq_true'] at h2
      obtain ⟨e, he, hb⟩ := h2
      rw [Bool.and_eq_true] at hb
      exact ⟨e, he, hb.1, memN_iff.1 hb.2⟩
theorem wpAnyO_done {listed : Array Bool} {a : Act} {w : World} {obs : List Ob} (hr : Region.ready md ops listed = []) (h : Q .normal a w) : ∀ fuel, wpAnyO P md ops Q fuel obs listed a w
  | 0 => ⟨hr, h⟩
  | _ + 1 => ⟨fun _ => h, by rw [hr]; simp⟩
end
def DO (P : Program) (N : Fr) (ops : Array Oper) (Q : EPost) (fuel : Nat) (obs : List Ob) (listed : Array Bool) (ρ : Env) (w : World) : Prop :=
  ∀ a, Fits N ρ a → wpAnyO P .any ops (lift N (nopan Q)) fuel obs listed a w
section
variable {P : Program} {N : Fr} {ops : Array Oper} {Q : EPost} {ρ : Env} {w : World} {fuel : Nat} {obs : List Ob} {listed : Array Bool}
theorem CW.drawO {id n : Nat} (hm : P.follows .mixedOrders = true) (hn : ops.size = n) (h : ∀ w1, w1.heap = w.heap → Ext0 w w1 → DO P N ops Q n [] (Array.replicate n false) ρ w1) : CW P N (.region id ops true) Q ρ w := by
  intro a ha
  subst hn
  refine wp_mono (wp_region_any hm (wpAny_of_O _ _ _ _ _ (h { w with drawn := w.drawn + 1 } rfl ⟨rfl, rfl, rfl, Nat.le_refl _, fun _ _ _ => rfl⟩ a ha))) ?_
  intro e a' w' ⟨ρ', hf, hq⟩
  cases e <;> first | exact ⟨ρ', hf, hq⟩ | exact hq.elim
theorem DO.first {i : Nat} {o : Oper} {v : Value} {T : World → Prop} (B : List Nat) (pre : List Ob) (hi : ops[i]? = some o) (hs : Region.noSelect ops = true) (hf : Region.free .any ops listed i = true) (hr : (Region.ready .any ops listed).contains i = true)
    (hpre : (pre = [] ∧ ∀ w, T w) ∨ (pre = [(B, T)] ∧ closedB ops listed B i = true)) (hd : ∀ x, o.dst = some x → x < N.n)
    (hy : (Region.wanted o (yE ops ρ) = true ∧ ∀ u, T u → (execOp (ev ρ) o).run P u = .ok (.value v) u) ∨ (Region.wanted o (yE ops ρ) = false ∧ v = undef)) (hT : T w) (hO : hold obs w)
    (h : DO P N ops Q fuel (pre ++ obs) (listed.setIfInBounds i true) (updo ρ o.dst v) w) : DO P N ops Q (fuel + 1) obs listed ρ w := by
  intro a ha
  refine wpAnyO_first (T := T) B pre hi (Region.noSelect_spec hs) ?_ fuel obs listed a w (Region.free_spec hi hf) (hpre.imp id fun ⟨h1, h2⟩ => ⟨h1, (closedB_spec h2).1, (closedB_spec h2).2⟩) (by simpa using hr) ?_ hT hO (h _ (ha.puto hd v))
  · intro c a' w' ⟨_, _, hq⟩
    exact hq.elim
  · rcases hy with ⟨h1, h2⟩ | ⟨h1, h2⟩
    · exact .inl ⟨by rw [yE_eq ha]; exact h1, fun u hu => by rw [ha.eval]; exact h2 u hu⟩
    · exact .inr ⟨by rw [yE_eq ha]; exact h1, h2⟩
/-- One operation comes up, and the others behind it. -/
def LO (P : Program) (N : Fr) (ops : Array Oper) (Q : EPost) (fuel : Nat) (obs : List Ob) (listed : Array Bool) (i : Nat) (ρ : Env) (w : World) : Prop :=
  ∀ a, Fits N ρ a → wpOp P ops (lift N (nopan Q)) i (fun a' w' => hold (keepO i obs) w' ∧ wpAnyO P .any ops (lift N (nopan Q)) fuel (keepO i obs) (listed.setIfInBounds i true) a' w') a w
theorem LO.of {i : Nat} {o : Oper} (hi : ops[i]? = some o) (hw : Region.wanted o (yE ops ρ) = true)
    (h : LW P N ops [{ o with guard := none }] (thenE (fun ρ' w' => hold (keepO i obs) w' ∧ DO P N ops Q fuel (keepO i obs) (listed.setIfInBounds i true) ρ' w') (fun _ _ _ => False)) ρ w) : LO P N ops Q fuel obs listed i ρ w := by
  obtain ⟨d, op, ty, pos, af, g⟩ := o
  intro a ha
  have h1 := h a ha
  unfold wpOp
  rw [hi]
  simp only [yE_eq ha, hw, if_true]
  unfold wpList at h1
  simp only [Region.wanted, if_true] at h1
  rcases h1 with h1 | ⟨_, a₀, w₀, ρ', _, hq⟩
  · refine .inl ?_
    have hk : ∀ a' w', wpList P ops (lift N (thenE (fun ρ' w' => hold (keepO i obs) w' ∧ DO P N ops Q fuel (keepO i obs) (listed.setIfInBounds i true) ρ' w') (fun _ _ _ => False))) [] a' w' → hold (keepO i obs) w' ∧ wpAnyO P .any ops (lift N (nopan Q)) fuel (keepO i obs) (listed.setIfInBounds i true) a' w' := by
      intro a' w' ⟨ρ', hf, hq⟩
      exact ⟨hq.1, hq.2 a' hf⟩
    unfold Oper.wp at h1 ⊢
    have hex : (execOp a.eval ⟨d, op, ty, pos, af, none⟩) = (execOp a.eval ⟨d, op, ty, pos, af, g⟩) := rfl
    rw [hex] at h1
    generalize (execOp a.eval ⟨d, op, ty, pos, af, g⟩).run P w = r at h1 ⊢
    cases r with
    | ok n w' =>
      cases n <;> simp only [Oper.upon] at h1 ⊢ <;>
        first
          | exact hk _ _ h1
          | exact Calls.mono h1 (fun e w'' he => by
              cases e with
              | returned v => exact hk _ _ he
              | panicked c => obtain ⟨_, _, hq⟩ := he; exact hq.elim
              | outgrown => obtain ⟨_, _, _, _, hq⟩ := he; exact hq.elim)
          | exact Rows.mono h1 (fun _ _ he => hk _ _ he)
    | halt x w' =>
      cases x <;> simp only [Oper.upon] at h1 ⊢
      obtain ⟨_, _, hq⟩ := h1; exact hq.elim
  · exact hq.elim
theorem LO.skip {i : Nat} {o : Oper} (hi : ops[i]? = some o) (hw : Region.wanted o (yE ops ρ) = false) (hd : ∀ x, o.dst = some x → x < N.n) (hO : hold (keepO i obs) w)
    (h : DO P N ops Q fuel (keepO i obs) (listed.setIfInBounds i true) (updo ρ o.dst undef) w) : LO P N ops Q fuel obs listed i ρ w := by
  intro a ha
  unfold wpOp
  rw [hi]
  simp only [yE_eq ha, hw, Bool.false_eq_true, if_false]
  exact ⟨hO, h _ (ha.puto hd undef)⟩
/-- Those that may come up. -/
theorem DO.alts {is : List Nat} (hr : Region.ready .any ops listed = is) (hne : is ≠ []) (h : ∀ i ∈ is, LO P N ops Q fuel obs listed i ρ w) : DO P N ops Q (fuel + 1) obs listed ρ w := fun a ha =>
  ⟨fun h0 => absurd (hr ▸ h0) hne, hr ▸ fun i hi => h i hi a ha⟩
theorem DO.done (hr : Region.ready .any ops listed = []) (h : Q .normal ρ w) : DO P N ops Q fuel obs listed ρ w := fun a ha => wpAnyO_done hr ⟨ρ, ha, h⟩ fuel
end
end Go.V
