/-
  More operations that look at no memory, evaluated on abstract values: slices, structs put together, closures. No statement of the claim stands here: these are rules, whatever the program; The rest of the operations that look at no memory, evaluated on abstract values. No statement of the claim stands here: these are rules, whatever the program; Rules: elements of arrays. No program here; Structs put together, on abstract values; what an operation that looks at no memory yields. No statement of the claim stands here: these are rules, whatever the program; Loads, stores and new variables on the abstract heap. No statement of the claim stands here: these are rules, whatever the program; New variables and literals on the abstract heap. No statement of the claim stands here: these are rules, whatever the program; New slices on the abstract heap: literals, make. No statement of the claim stands here: these are rules, whatever the program
-/
import Derived.Test.YtgmmbdmdimkfjaaGreatPI06
import Derived.Test.YtgmmbdmdimkfjaaGreatPI04
namespace Go.V
set_option linter.unusedSimpArgs false
set_option linter.unusedVariables false
open Go.RowKit
section
variable {P : Program} {A : NM} {e : AEnv} {ρ : Env}
variable {dd : Option Nat} {gg : Option (Nat × Bool)} {ty T T2 E : TypeId} {pos : String} {af : Array Edge} {x y z : Operand}
/-- A number from 0 on, below a bound. -/
def natOf : AV → Option Nat
  | .int _ (.ofNat n) => some n
  | _ => none
theorem natOf_ok {a : AV} {n : Nat} {V : Value} (h : natOf a = some n) (H : RV A a V) : ∃ k, V = .int k (n : Int) := by
  unfold natOf at h
  split at h
  · cases h; simp only [RV] at H; exact ⟨_, H⟩
  · cases h
def indexAddrA (P : Program) (T : TypeId) (a i : AV) : Option AV := match a, natOf i, elemsOf P T with
  | .sl n o len _ s, some j, some E => match tSize P E with
    | some s' => bif Nat.blt j len then bif Nat.beq s s' then some (.ptr n (o + j * s)) else none else none
    | none => none
  | _, _, _ => none
theorem indexAddrA_ok {a i r : AV} (hx : RV A a (ev ρ x)) (hy : RV A i (ev ρ y)) (h : indexAddrA P T a i = some r) : Yld P A ρ ⟨dd, .indexAddr T x y, ty, pos, af, gg⟩ r := by
  unfold indexAddrA at h
  split at h
  · rename_i n o len cap s j E hj hE
    split at h
    · rename_i s' hs
      cases h1 : Nat.blt j len with
      | false => rw [h1] at h; cases h
      | true =>
        cases h2 : Nat.beq s s' with
        | false => rw [h1, h2] at h; cases h
        | true =>
          rw [h1, h2] at h
          cases h
          have := beqT h2; subst this
          obtain ⟨k, hy⟩ := natOf_ok hj hy
          simp only [RV] at hx
          obtain ⟨b, p, q, c, hA, hx, _⟩ := hx
          refine ⟨.pointer (some ⟨b, p + (o + j * s), none⟩), by simp only [RV]; exact ⟨b, p, q, hA, rfl⟩, fun w => ?_⟩
          have hlt : j < len := Nat.le_of_ble_eq_true h1
          rw [x_indexAddr (elemsOf_ok hE) (tSize_ok hs) hx hy (by omega) (by omega), Int.toNat_natCast, Nat.add_assoc]
    · cases h
  · cases h
/-! ### Slices cut -/
/-- A bound that is given is n; of one that is not D holds. -/
def BoundIs (ρ : Env) (x : Option Operand) (n : Nat) (D : Prop) : Prop := match x with
  | some y => ∃ k, ev ρ y = .int k (n : Int)
  | none => D
theorem BoundIs.mono {x : Option Operand} {n : Nat} {D D' : Prop} (H : BoundIs ρ x n D) (h : x = none → D → D') : BoundIs ρ x n D' := by
  cases x with
  | none => exact h rfl H
  | some y => exact H
theorem x_sliceG {ao : Option Addr} {len cap s l h m : Nat} {lo hi mx : Option Operand} {w : World} (hT : P.underlying T = some (.slice E)) (hs : ∀ w, (sizeOf E).run P w = .ok s w) (hx : ev ρ x = .slice ao len cap)
    (hlo : BoundIs ρ lo l (l = 0)) (hhi : BoundIs ρ hi h (h = len ∧ mx = none)) (hmx : BoundIs ρ mx m (m = cap))
    (h1 : l ≤ h) (h2 : h ≤ m) (h3 : m ≤ cap) : (execOp (ev ρ) ⟨dd, .slice T x lo hi mx, ty, pos, af, gg⟩).run P w = .ok (.value (sliced ao l h m s)) w := by
  have hE : P.elem T = E := by simp [Program.elem, hT]
  have hE' : P.underlying T = some (.slice (P.elem T)) := by rw [hE]; exact hT
  cases lo with
  | none =>
    have hlo : l = 0 := hlo
    subst hlo
    cases hi with
    | none =>
      obtain ⟨hh, hm⟩ := hhi
      subst hm; subst hh
      have hmx : m = cap := hmx; subst hmx
      simp only [execOp, hx, Option.map_none, Sem.run_bind]
      simp [run_sliceAt_slice w T _ _ _ _ hE', Instr.slice, run_underlying hT, Instr.sliceBounds, hs, sliced, Sem.run_bind, Sem.run_pure]
    | some y =>
      obtain ⟨k, hy⟩ := hhi
      cases mx with
      | none =>
        have hmx : m = cap := hmx; subst hmx
        simp only [execOp, hx, hy, Option.map_none, Option.map_some, Sem.run_bind]
        have e : ((h : Int) ≤ (m : Int)) := by omega
        simp [run_sliceAt_slice w T _ _ _ _ hE', Instr.slice, run_underlying hT, Instr.sliceBounds, Instr.sliceBound, asIntOf, hs, sliced, Sem.run_bind, Sem.run_pure, h2]
      | some u =>
        obtain ⟨k', hu⟩ := hmx
        simp only [execOp, hx, hy, hu, Option.map_none, Option.map_some, Sem.run_bind]
        have e : ((h : Int) ≤ (m : Int)) := by omega
        have e' : ((m : Int) ≤ (cap : Int)) := by omega
        simp [run_sliceAt_slice w T _ _ _ _ hE', Instr.slice, run_underlying hT, Instr.sliceBounds, Instr.sliceBound, asIntOf, hs, sliced, Sem.run_bind, Sem.run_pure, h1, h2, h3]
  | some v =>
    obtain ⟨k0, hv⟩ := hlo
    have e0 : ((l : Int) ≤ (h : Int)) := by omega
    cases hi with
    | none =>
      obtain ⟨hh, hm⟩ := hhi
      subst hm; subst hh
      have hmx : m = cap := hmx; subst hmx
      simp only [execOp, hx, hv, Option.map_none, Option.map_some, Sem.run_bind]
      simp [run_sliceAt_slice w T _ _ _ _ hE', Instr.slice, run_underlying hT, Instr.sliceBounds, Instr.sliceBound, asIntOf, hs, sliced, Sem.run_bind, Sem.run_pure, h1]
    | some y =>
      obtain ⟨k, hy⟩ := hhi
      cases mx with
      | none =>
        have hmx : m = cap := hmx; subst hmx
        simp only [execOp, hx, hy, hv, Option.map_none, Option.map_some, Sem.run_bind]
        have e : ((h : Int) ≤ (m : Int)) := by omega
        simp [run_sliceAt_slice w T _ _ _ _ hE', Instr.slice, run_underlying hT, Instr.sliceBounds, Instr.sliceBound, asIntOf, hs, sliced, Sem.run_bind, Sem.run_pure, h1, h2]
      | some u =>
        obtain ⟨k', hu⟩ := hmx
        simp only [execOp, hx, hy, hv, hu, Option.map_none, Option.map_some, Sem.run_bind]
        have e : ((h : Int) ≤ (m : Int)) := by omega
        have e' : ((m : Int) ≤ (cap : Int)) := by omega
        simp [run_sliceAt_slice w T _ _ _ _ hE', Instr.slice, run_underlying hT, Instr.sliceBounds, Instr.sliceBound, asIntOf, hs, sliced, Sem.run_bind, Sem.run_pure, h1, h2, h3]
/-- A bound: given, or what it is when it is not. -/
def bound (e : AEnv) (d : Option Nat) : Option Operand → Option Nat
  | none => d
  | some x => match aop e x with
    | some a => natOf a
    | none => none
def capOk (cap : Option Nat) (len m : Nat) : Bool := match cap with
  | some c => Nat.ble m c
  | none => Nat.ble m len
def sliceCut (n o len : Nat) (cap : Option Nat) (s l h : Nat) (m : Option Nat) : Option AV :=
  bif Nat.ble l h then
    match m with
    | some m => bif Nat.ble h m && capOk cap len m then
        bif Nat.beq m l then some (.sl n o (h - l) (some (m - l)) s) else some (.sl n (o + l * s) (h - l) (some (m - l)) s) else none
    | none => match cap with
      | some c => bif Nat.ble h c then bif Nat.beq c l then some (.sl n o (h - l) (some (c - l)) s) else some (.sl n (o + l * s) (h - l) (some (c - l)) s) else none
      | none => bif Nat.ble h len then bif Nat.blt l h || Nat.beq l 0 then some (.sl n (o + l * s) (h - l) none s) else some .sle else none
  else none
/-- lb: what the capacity is at least, if that is known. -/
def lower (lb : Option Nat) (len : Nat) : Nat := match lb with
  | some k => k
  | none => len
def sliceA (P : Program) (e : AEnv) (T : TypeId) (lb : Option Nat) (a : AV) (lo hi mx : Option Operand) : Option AV := match a, elemsOf P T with
  | .sl n o len cap s, some E => match tSize P E, bound e (some 0) lo, bound e (some len) hi with
    | some s', some l, some h => bif Nat.beq s s' && (hi.isSome || mx.isNone) then
      match mx with
      | none => sliceCut n o (lower lb len) cap s l h none
      | some u => match bound e none mx with
        | some m => sliceCut n o (lower lb len) cap s l h (some m)
        | none => none
      else none
    | _, _, _ => none
  | .nils, some E => match tSize P E, bound e (some 0) lo, bound e (some 0) hi with
    | some _, some 0, some 0 => bif (hi.isSome || mx.isNone) then
      match mx with
      | none => some .nils
      | some u => match bound e none mx with
        | some 0 => some .nils
        | _ => none
      else none
    | _, _, _ => none
  | _, _ => none
theorem bound_ok {d : Option Nat} {x : Option Operand} {n : Nat} (H : RE A e ρ) (h : bound e d x = some n) : BoundIs ρ x n (d = some n) := by
  cases x with
  | none => exact h
  | some y =>
    unfold bound at h
    simp only at h
    split at h
    · rename_i a ha
      exact natOf_ok h (aop_ok H ha)
    · cases h
theorem sliceCut_ok {n o len s l h c : Nat} {cap m : Option Nat} {r : AV} {b p q : Nat} (hA : A n = some (b, p, q)) (h1 : cap = none → len ≤ c) (h2 : c ≤ maxLen) (h3 : o + c * s ≤ q) (h4 : 0 < s) (h5 : cap = some c ∨ (cap = none ∧ o + c * s = q)) (hr : sliceCut n o len cap s l h m = some r) :
    ∃ m', (match m with | some x => m' = x | none => m' = c) ∧ l ≤ h ∧ h ≤ m' ∧ m' ≤ c ∧ RV A r (sliced (some ⟨b, p + o, none⟩) l h m' s) := by
  have key : ∀ (cap' : Option Nat) (m' : Nat), l ≤ h → h ≤ m' → m' ≤ c → (cap' = some (m' - l) ∨ (cap' = none ∧ m' = c ∧ o + c * s = q)) →
      ((m' = l → (r = .sl n o (h - l) cap' s ∧ cap' = some (m' - l)) ∨ (r = .sl n (o + l * s) (h - l) cap' s ∧ l = 0)) ∧ (m' ≠ l → r = .sl n (o + l * s) (h - l) cap' s)) → RV A r (sliced (some ⟨b, p + o, none⟩) l h m' s) := by
    intro cap' m' e1 e2 e3 e4 ⟨e5, e6⟩
    have hms : (m' - l) * s = m' * s - l * s := Nat.sub_mul _ _ _
    have hle : l * s ≤ m' * s := Nat.mul_le_mul_right _ (by omega)
    have hle2 : m' * s ≤ c * s := Nat.mul_le_mul_right _ e3
    unfold sliced
    by_cases e : m' = l
    · rw [if_pos e]
      rcases e5 e with ⟨rfl, e9⟩ | ⟨rfl, e0⟩
      · simp only [RV]
        refine ⟨b, p, q, m' - l, hA, rfl, by omega, by omega, ?_, h4, ?_⟩
        · have : m' - l = 0 := by omega
          rw [this]; omega
        · exact .inl e9
      · subst e0
        simp only [RV]
        have h0 : m' - 0 = 0 := by omega
        refine ⟨b, p, q, m' - 0, hA, by simp, by omega, by omega, ?_, h4, ?_⟩
        · rw [h0]; omega
        · rcases e4 with e4 | ⟨e4, e7, e8⟩
          · exact .inl e4
          · refine .inr ⟨e4, ?_⟩
            have hc0 : c = 0 := by omega
            have hm0 : m' = 0 := by omega
            rw [hm0]
            rw [hc0] at e8
            simpa using e8
    · rw [if_neg e, e6 e]
      simp only [RV]
      refine ⟨b, p, q, m' - l, hA, by simp [addr_add, Nat.add_assoc], by omega, by omega, by omega, h4, ?_⟩
      rcases e4 with e4 | ⟨e4, e7, e8⟩
      · exact .inl e4
      · refine .inr ⟨e4, ?_⟩
        subst e7; omega
  unfold sliceCut at hr
  cases hl : Nat.ble l h with
  | false => rw [hl] at hr; cases hr
  | true =>
    rw [hl, cond_true] at hr
    have hl' := Nat.le_of_ble_eq_true hl
    cases m with
    | some m =>
      simp only at hr
      cases hc : (Nat.ble h m && capOk cap len m) with
      | false => rw [hc] at hr; cases hr
      | true =>
        rw [hc, cond_true] at hr
        rw [Bool.and_eq_true] at hc
        have hm := Nat.le_of_ble_eq_true hc.1
        have hmc : m ≤ c := by
          rcases h5 with rfl | ⟨rfl, _⟩
          · exact Nat.le_of_ble_eq_true hc.2
          · have := Nat.le_of_ble_eq_true hc.2; have := h1 rfl; omega
        refine ⟨m, rfl, hl', hm, hmc, key (some (m - l)) m hl' hm hmc (.inl rfl) ⟨fun e => ?_, fun e => ?_⟩⟩
        · have : Nat.beq m l = true := by subst e; exact Nat.beq_refl _
          rw [this] at hr; cases hr; exact .inl ⟨rfl, rfl⟩
        · have : Nat.beq m l = false := by rw [Bool.eq_false_iff]; exact fun h => e (beqT h)
          rw [this] at hr; cases hr; rfl
    | none =>
      simp only at hr
      rcases h5 with rfl | ⟨rfl, h6⟩
      · simp only at hr
        cases hc : Nat.ble h c with
        | false => rw [hc] at hr; cases hr
        | true =>
          rw [hc, cond_true] at hr
          have hm := Nat.le_of_ble_eq_true hc
          refine ⟨c, rfl, hl', hm, Nat.le_refl _, key (some (c - l)) c hl' hm (Nat.le_refl _) (.inl rfl) ⟨fun e => ?_, fun e => ?_⟩⟩
          · have : Nat.beq c l = true := by subst e; exact Nat.beq_refl _
            rw [this] at hr; cases hr; exact .inl ⟨rfl, rfl⟩
          · have : Nat.beq c l = false := by rw [Bool.eq_false_iff]; exact fun h => e (beqT h)
            rw [this] at hr; cases hr; rfl
      · simp only at hr
        cases hc : Nat.ble h len with
        | false => rw [hc] at hr; cases hr
        | true =>
          rw [hc, cond_true] at hr
          have hm := Nat.le_of_ble_eq_true hc
          have hlc := h1 rfl
          cases hd : (Nat.blt l h || Nat.beq l 0) with
          | false =>
            rw [hd] at hr
            cases hr
            rw [Bool.or_eq_false_iff] at hd
            have hle : ¬ l < h := fun h' => by rw [show Nat.blt l h = true from Nat.ble_eq_true_of_le h'] at hd; cases hd.1
            have he : h - l = 0 := by omega
            refine ⟨c, rfl, hl', by omega, Nat.le_refl _, ?_⟩
            simp only [RV]
            unfold sliced
            rw [he]
            split
            · exact ⟨_, _, rfl, by omega⟩
            · exact ⟨_, _, rfl, by omega⟩
          | true =>
            rw [hd] at hr
            cases hr
            refine ⟨c, rfl, hl', by omega, Nat.le_refl _, key none c hl' (by omega) (Nat.le_refl _) (.inr ⟨rfl, rfl, h6⟩) ⟨fun e => .inr ⟨rfl, ?_⟩, fun _ => rfl⟩⟩
            rw [Bool.or_eq_true] at hd
            rcases hd with hd | hd
            · have : l < h := Nat.le_of_ble_eq_true hd
              omega
            · exact beqT hd
end
end Go.V
namespace Go.V
set_option linter.unusedSimpArgs false
set_option linter.unusedVariables false
open Go.RowKit
section
variable {P : Program} {A : NM} {e : AEnv} {ρ : Env}
variable {dd : Option Nat} {gg : Option (Nat × Bool)} {ty T T2 E : TypeId} {pos : String} {af : Array Edge} {x y z : Operand}
theorem sliceA_ok {a r : AV} {lb : Option Nat} {lo hi mx : Option Operand} (H : RE A e ρ) (hx : RV A a (ev ρ x)) (hlb : ∀ k, lb = some k → ∀ n o len s, a = .sl n o len none s → ∀ b p z, A n = some (b, p, z) → o + k * s ≤ z) (h : sliceA P e T lb a lo hi mx = some r) : Yld P A ρ ⟨dd, .slice T x lo hi mx, ty, pos, af, gg⟩ r := by
  unfold sliceA at h
  split at h
  · rename_i n o len cap s E hE
    split at h
    · rename_i s' l h' hs hl hh
      cases hc : (Nat.beq s s' && (hi.isSome || mx.isNone)) with
      | false => rw [hc] at h; cases h
      | true =>
        rw [hc, cond_true] at h
        rw [Bool.and_eq_true] at hc
        have := beqT hc.1; subst this
        simp only [RV] at hx
        obtain ⟨b, p, q, c, hA, hx, h1, h2, h3, h4, h5⟩ := hx
        have hlow : cap = none → lower lb len ≤ c := by
          intro hn
          subst hn
          cases lb with
          | none => exact h1
          | some k =>
            have := hlb k rfl n o len s rfl b p q hA
            have h6 : o + c * s = q := by
              rcases h5 with h5 | ⟨_, h5⟩
              · cases h5
              · exact h5
            exact Nat.le_of_mul_le_mul_right (show k * s ≤ c * s by omega) h4
        have kl' := (bound_ok H hl).mono (D' := l = 0) (fun _ h => (Option.some.inj h).symm)
        have kh' := (bound_ok H hh).mono (D' := h' = len ∧ mx = none) (fun h0 h => ⟨(Option.some.inj h).symm, by subst h0; simpa using hc.2⟩)
        cases mx with
        | none =>
          simp only at h
          obtain ⟨m', e1, e2, e3, e4, e5⟩ := sliceCut_ok hA hlow h2 h3 h4 h5 h
          exact ⟨_, e5, fun w => x_sliceG (elemsOf_ok hE) (tSize_ok hs) hx kl' kh' e1 e2 e3 e4⟩
        | some u =>
          simp only at h
          split at h
          · rename_i m hm
            obtain ⟨m', e1, e2, e3, e4, e5⟩ := sliceCut_ok hA hlow h2 h3 h4 h5 h
            simp only at e1; subst e1
            have km := bound_ok H hm
            exact ⟨_, e5, fun w => x_sliceG (elemsOf_ok hE) (tSize_ok hs) hx kl' kh' km e2 e3 e4⟩
          · cases h
    · cases h
  · rename_i E hE
    split at h
    · rename_i s' hs hl hh
      cases hc : (hi.isSome || mx.isNone) with
      | false => rw [hc] at h; cases h
      | true =>
        rw [hc, cond_true] at h
        simp only [RV] at hx
        have kl' := (bound_ok H hl).mono (D' := (0 : Nat) = 0) (fun _ _ => rfl)
        have kh' := (bound_ok H hh).mono (D' := (0 : Nat) = 0 ∧ mx = none) (fun h0 h => ⟨rfl, by subst h0; simpa using hc⟩)
        cases mx with
        | none =>
          cases h
          refine ⟨.slice none 0 0, by simp [RV], fun w => ?_⟩
          rw [x_sliceG (l := 0) (h := 0) (m := 0) (elemsOf_ok hE) (tSize_ok hs) hx kl' kh' rfl (Nat.le_refl _) (Nat.le_refl _) (Nat.le_refl _)]
          simp [sliced]
        | some u =>
          simp only at h
          split at h
          · rename_i hm
            cases h
            have km := bound_ok H hm
            refine ⟨.slice none 0 0, by simp [RV], fun w => ?_⟩
            rw [x_sliceG (l := 0) (h := 0) (m := 0) (elemsOf_ok hE) (tSize_ok hs) hx kl' kh' km (Nat.le_refl _) (Nat.le_refl _) (Nat.le_refl _)]
            simp [sliced]
          · cases h
    · cases h
  · cases h
def extractA (a : AV) (i : Nat) : Option AV := match a with
  | .tup vs => vs[i]?
  | _ => none
theorem extractA_ok {i : Nat} {a r : AV} (hx : RV A a (ev ρ x)) (h : extractA a i = some r) : Yld P A ρ ⟨dd, .extract x i, ty, pos, af, gg⟩ r := by
  unfold extractA at h
  split at h
  · simp only [RV] at hx
    obtain ⟨vs, hx, hr⟩ := hx
    obtain ⟨v, hv, hrv⟩ := hr.get h
    exact ⟨v, hrv, fun w => x_extract hx (by simpa using hv)⟩
  · cases h
theorem makeFuncA_ok {fn : Fn} {first captured : Array Operand} {fs cs : List AV} (H : RE A e ρ) (h1 : aops e first.toList = some fs) (h2 : aops e captured.toList = some cs) : Yld P A ρ ⟨dd, .makeFunc fn first captured, ty, pos, af, gg⟩ (.func fn fs cs) :=
  ⟨_, by simp only [RV]; exact ⟨_, _, rfl, aops_ok H h1, aops_ok H h2⟩, fun w => x_makeFunc rfl rfl⟩
theorem makeInterfaceA_ok {a : AV} (hx : RV A a (ev ρ x)) (hT : P.concrete T = true) : Yld P A ρ ⟨dd, .makeInterface T x, ty, pos, af, gg⟩ (.iface T a) :=
  ⟨_, by simp only [RV]; exact ⟨_, rfl, hx⟩, fun w => x_makeInterface hT rfl⟩
def assertN (P : Program) (T2 : TypeId) (a : AV) (ok : Bool) : Option AV := match a, ok, P.underlying T2, tZero P T2 with
  | .nilif, true, some (.interface _), _ => none
  | .nilif, true, some _, some z => match ofV z with
    | some b => some (.tup [b, .bool false])
    | none => none
  | _, _, _, _ => none
theorem assertN_ok {a r : AV} {ok : Bool} (hx : RV A a (ev ρ x)) (h : assertN P T2 a ok = some r) : Yld P A ρ ⟨dd, .typeAssert x T T2 ok, ty, pos, af, gg⟩ r := by
  unfold assertN at h
  split at h
  · cases h
  · rename_i d z hd hT hz
    split at h
    · rename_i b hb
      cases h
      simp only [RV] at hx
      refine ⟨.tuple #[z, .bool false], by simp only [RV]; exact ⟨[z, .bool false], rfl, RVs.cons (ofV_ok hb) (RVs.cons (by simp [RV]) (RVs.nil A))⟩, fun w => ?_⟩
      have hz' := tZero_ok hz
      cases d <;> first | exact absurd hT (hd _) | simp [execOp, hx, Instr.typeAssert, run_underlying hT, hz', Sem.run_pure, Sem.run_bind]
    · cases h
  · cases h
def assertI (P : Program) (T2 : TypeId) (t : Nat) (v : AV) : Option AV := match P.underlying T2 with
  | some (.interface _) => none
  | some _ => bif Nat.beq t T2 then some (.tup [v, .bool true]) else none
  | none => none
theorem assertI_ok {t : Nat} {v r : AV} (hx : RV A (.iface t v) (ev ρ x)) (h : assertI P T2 t v = some r) : Yld P A ρ ⟨dd, .typeAssert x T T2 true, ty, pos, af, gg⟩ r := by
  unfold assertI at h
  split at h
  · cases h
  · rename_i d hd hT
    cases hb : Nat.beq t T2 with
    | false => rw [hb] at h; cases h
    | true =>
      rw [hb] at h
      cases h
      have := beqT hb; subst this
      simp only [RV] at hx
      obtain ⟨u, hx, hu⟩ := hx
      refine ⟨.tuple #[u, .bool true], by simp only [RV]; exact ⟨[u, .bool true], rfl, RVs.cons hu (RVs.cons (by simp [RV]) (RVs.nil A))⟩, fun w => ?_⟩
      cases d <;> first | exact (hd _ rfl).elim | simp [execOp, hx, Instr.typeAssert, run_underlying hT, Sem.run_pure, Sem.run_bind]
  · cases h
def assertA (P : Program) (T2 : TypeId) (a : AV) (ok : Bool) : Option AV := match a with
  | .iface t v => (match ok with
    | true => assertI P T2 t v
    | false => none)
  | a => assertN P T2 a ok
theorem assertA_ok {a r : AV} {ok : Bool} (hx : RV A a (ev ρ x)) (h : assertA P T2 a ok = some r) : Yld P A ρ ⟨dd, .typeAssert x T T2 ok, ty, pos, af, gg⟩ r := by
  unfold assertA at h
  split at h
  · split at h
    · exact assertI_ok hx h
    · cases h
  · exact assertN_ok hx h
def lenA (P : Program) (T : TypeId) (a : AV) : Option AV := match a, P.underlying T with
  | .sle, some (.slice _) => some (.int .i64 0)
  | .sl _ _ len _ _, some (.slice _) => some (.int .i64 len)
  | .nils, some (.slice _) => some (.int .i64 0)
  | .str s, some .string => some (.int .i64 s.size)
  | _, _ => none
theorem lenA_ok {a r : AV} (hx : RV A a (ev ρ x)) (h : lenA P T a = some r) : Yld P A ρ ⟨dd, .call { callee := .builtin .len, args := #[x], argTypes := #[T] }, ty, pos, af, gg⟩ r := by
  unfold lenA at h
  split at h
  · rename_i E hT
    cases h
    simp only [RV] at hx
    obtain ⟨ad, c, hx, _⟩ := hx
    exact ⟨_, by simp [RV], fun w => x_len hT hx⟩
  · rename_i n o len cap s E hT
    cases h
    simp only [RV] at hx
    obtain ⟨b, p, q, c, hA, hx, _⟩ := hx
    exact ⟨_, by simp [RV], fun w => x_len hT hx⟩
  · rename_i E hT
    cases h
    simp only [RV] at hx
    exact ⟨_, by simp [RV], fun w => x_len hT hx⟩
  · rename_i s hT
    cases h
    simp only [RV] at hx
    exact ⟨_, by simp [RV], fun w => x_lenS hT hx⟩
  · cases h
def capA (P : Program) (T : TypeId) (a : AV) : Option AV := match a, P.underlying T with
  | .sl _ _ _ (some c) _, some (.slice _) => some (.int .i64 c)
  | .nils, some (.slice _) => some (.int .i64 0)
  | _, _ => none
theorem capA_ok {a r : AV} (hx : RV A a (ev ρ x)) (h : capA P T a = some r) : Yld P A ρ ⟨dd, .call { callee := .builtin .cap, args := #[x], argTypes := #[T] }, ty, pos, af, gg⟩ r := by
  unfold capA at h
  split at h
  · rename_i n o len c s E hT
    cases h
    simp only [RV] at hx
    obtain ⟨b, p, q, c', hA, hx, _, _, _, _, hc⟩ := hx
    rcases hc with hc | ⟨hc, _⟩
    · cases hc
      exact ⟨_, by simp [RV], fun w => x_cap hT hx⟩
    · cases hc
  · rename_i E hT
    cases h
    simp only [RV] at hx
    exact ⟨_, by simp [RV], fun w => x_cap hT hx⟩
  · cases h
def maxA (a b : AV) : Option AV := match a, b with
  | .int k m, .int _ n => some (.int k (max m n))
  | a, b => match toIT a, toIT b with
    | some (k, t), some (_, u) => some (.exp k (.mx t u))
    | _, _ => none
theorem maxA_ok {ts : Array TypeId} {a b r : AV} (hx : RV A a (ev ρ x)) (hy : RV A b (ev ρ y)) (h : maxA a b = some r) : Yld P A ρ ⟨dd, .call { callee := .builtin .max, args := #[x, y], argTypes := ts }, ty, pos, af, gg⟩ r := by
  unfold maxA at h
  split at h
  · cases h
    simp only [RV] at hx hy
    exact ⟨_, by simp [RV], fun w => x_max hx hy⟩
  · split at h
    · rename_i h1 h2
      cases h
      exact ⟨_, by simp only [RV, IT.ev], fun w => x_max (toIT_ok h1 hx) (toIT_ok h2 hy)⟩
    · cases h
def minA (a b : AV) : Option AV := match a, b with
  | .int k m, .int _ n => some (.int k (min m n))
  | a, b => match toIT a, toIT b with
    | some (k, t), some (_, u) => some (.exp k (.mn t u))
    | _, _ => none
theorem minA_ok {ts : Array TypeId} {a b r : AV} (hx : RV A a (ev ρ x)) (hy : RV A b (ev ρ y)) (h : minA a b = some r) : Yld P A ρ ⟨dd, .call { callee := .builtin .min, args := #[x, y], argTypes := ts }, ty, pos, af, gg⟩ r := by
  unfold minA at h
  split at h
  · cases h
    simp only [RV] at hx hy
    exact ⟨_, by simp [RV], fun w => x_min hx hy⟩
  · split at h
    · rename_i h1 h2
      cases h
      exact ⟨_, by simp only [RV, IT.ev], fun w => x_min (toIT_ok h1 hx) (toIT_ok h2 hy)⟩
    · cases h
end
end Go.V
namespace Go.V
set_option linter.unusedSimpArgs false
set_option linter.unusedVariables false
open Go.RowKit
section
variable {P : Program} {N : Fr} {ops : Array Oper} {rest : List Oper} {Q : EPost} {ρ : Env} {w : World} {d : Nat} {dd : Option Nat} {T E : TypeId} {x y : Operand} {ty : TypeId} {pos : String} {af : Array Edge} {gg : Option (Nat × Bool)} {k : IntKind} {m : Int}
theorem x_indexAddrA {b o n s : Nat} (hT : P.underlying T = some (.array n E)) (hx : ev ρ x = .pointer (some ⟨b, o, none⟩)) (hy : ev ρ y = .int k m) (hs : ∀ w, (sizeOf E).run P w = .ok s w) (h0 : 0 ≤ m) (h1 : m < n) :
    (execOp (ev ρ) ⟨dd, .indexAddr T x y, ty, pos, af, gg⟩).run P w = .ok (.value (.pointer (some ⟨b, o + m.toNat * s, none⟩))) w := by simp [go_sem, hx, hy, hT, hs, h0, h1, addr_add]
end
end Go.V
namespace Go.V
set_option linter.unusedSimpArgs false
set_option linter.unusedVariables false
open Go.RowKit
section
variable {P : Program} {A : NM} {e : AEnv} {ρ : Env}
variable {dd : Option Nat} {gg : Option (Nat × Bool)} {ty T T2 E : TypeId} {pos : String} {af : Array Edge} {x y z : Operand}
def placesOf (P : Program) : List Field → Option (List (Nat × Nat))
  | [] => some []
  | f :: r => match tSize P f.type, placesOf P r with
    | some s, some l => some ((f.offset, s) :: l)
    | _, _ => none
theorem placesOf_run : ∀ {fs : List Field} {l : List (Nat × Nat)}, placesOf P fs = some l → ∀ w, (fs.mapM (fun f => do pure (f.offset, ← sizeOf f.type) : Field → Sem (Nat × Nat))).run P w = .ok l w
  | [], l, h, w => by cases h; simp [Sem.run_pure]
  | f :: r, l, h, w => by
    unfold placesOf at h
    split at h
    · rename_i s m hs hm
      cases h
      have ih := placesOf_run hm w
      simp only [List.mapM_cons, Sem.run_bind, tSize_ok hs w, Result.andThen_ok, Sem.run_pure]
      rw [ih]
      simp only [Result.andThen_ok, Sem.run_pure]
    · cases h
theorem placesOf_ok {fs : Array Field} {l : List (Nat × Nat)} (h : placesOf P fs.toList = some l) : ∀ w, (fs.mapM (fun f => do pure (f.offset, ← sizeOf f.type) : Field → Sem (Nat × Nat))).run P w = .ok l.toArray w := by
  intro w
  have h1 := placesOf_run h w
  rw [Array.mapM_eq_mapM_toList]
  simp only [map_eq_pure_bind, Sem.run_bind, h1, Result.andThen_ok, Sem.run_pure]
def aparts (e : AEnv) : List (Nat × Operand) → Option (List (Nat × AV))
  | [] => some []
  | p :: r => match aop e p.2, aparts e r with
    | some a, some l => some ((p.1, a) :: l)
    | _, _ => none
def RP (A : NM) : List (Nat × AV) → List (Nat × Value) → Prop
  | [], l => l = []
  | p :: r, l => ∃ v t, l = (p.1, v) :: t ∧ RV A p.2 v ∧ RP A r t
theorem aparts_ok (H : RE A e ρ) : ∀ {ps : List (Nat × Operand)} {l : List (Nat × AV)}, aparts e ps = some l → RP A l (ps.map (fun p => (p.1, ev ρ p.2)))
  | [], l, h => by cases h; rfl
  | p :: r, l, h => by
    unfold aparts at h
    split at h
    · rename_i a m ha hm
      cases h
      exact ⟨_, _, rfl, aop_ok H ha, aparts_ok H hm⟩
    · cases h
/-- The parts are written into their places. -/
def fillA (pl : List (Nat × Nat)) : List AV → List (Nat × AV) → Option (List AV)
  | cs, [] => some cs
  | cs, p :: r =>
    match pl[p.1]? with
    | none => none
    | some (off, size) => bif Nat.beq (acells p.2).length size && Nat.ble (off + size) cs.length then fillA pl (cs.take off ++ acells p.2 ++ cs.drop (off + (acells p.2).length)) r else none
theorem fillA_ok {pl : List (Nat × Nat)} : ∀ {ps : List (Nat × AV)} {qs : List (Nat × Value)} {cs r : List AV} {vs : List Value}, RP A ps qs → RVs A cs vs → fillA pl cs ps = some r → ∃ us, fillL pl vs qs = some us ∧ RVs A r us
  | [], qs, cs, r, vs, H, K, h => by
    cases H; cases h; exact ⟨vs, rfl, K⟩
  | p :: ps, qs, cs, r, vs, H, K, h => by
    obtain ⟨v, t, rfl, h1, h2⟩ := H
    unfold fillA at h
    unfold fillL
    cases hp : pl[p.1]? with
    | none => rw [hp] at h; cases h
    | some q =>
      obtain ⟨off, size⟩ := q
      rw [hp] at h
      have hc := acells_ok h1
      have hcl := hc.length
      have hkl := K.length
      simp only at h ⊢
      cases hb : (Nat.beq (acells p.2).length size && Nat.ble (off + size) cs.length) with
      | false => rw [hb] at h; cases h
      | true =>
        rw [hb, cond_true] at h
        rw [hcl, hkl, hb, cond_true]
        refine fillA_ok h2 ?_ h
        unfold spliceL
        rw [hcl]
        exact ((K.take _).app hc).app (K.drop _)
def buildA (P : Program) (e : AEnv) (T : TypeId) (parts : List (Nat × Operand)) : Option AV := match fieldsOf P T, tZero P T, aparts e parts with
  | some fs, some z, some ps => match placesOf P fs.toList, ofV z with
    | some pl, some za => match fillA pl (acells za) ps with
      | some cs => some (.agg cs)
      | none => none
    | _, _ => none
  | _, _, _ => none
theorem buildA_ok {parts : Array (Nat × Operand)} {r : AV} (H : RE A e ρ) (h : buildA P e T parts.toList = some r) : Yld P A ρ ⟨dd, .build T parts, ty, pos, af, gg⟩ r := by
  unfold buildA at h
  split at h
  · rename_i fs zv ps hT hz hps
    split at h
    · rename_i pl za hpl hza
      split at h
      · rename_i cs hcs
        cases h
        obtain ⟨us, h1, h2⟩ := fillA_ok (aparts_ok H hps) (acells_ok (ofV_ok hza)) hcs
        exact ⟨.agg us.toArray, by simp only [RV]; exact ⟨us, rfl, h2⟩, fun w => x_build (fieldsOf_ok hT) (tZero_ok hz) rfl (placesOf_ok hpl) h1⟩
      · cases h
    · cases h
  · cases h
/-- Parts of a literal, each of s cells: written into their places. -/
def fillE (s : Nat) : List AV → List (Nat × AV) → Option (List AV)
  | cs, [] => some cs
  | cs, p :: r => bif Nat.beq (acells p.2).length s && Nat.ble (p.1 * s + s) cs.length then fillE s (cs.take (p.1 * s) ++ acells p.2 ++ cs.drop (p.1 * s + (acells p.2).length)) r else none
theorem fillE_ok {s : Nat} : ∀ {ps : List (Nat × AV)} {qs : List (Nat × Value)} {cs r : List AV} {vs : List Value}, RP A ps qs → RVs A cs vs → fillE s cs ps = some r → ∃ us, Instr.fill (fun i => some (i * s, s)) vs.toArray qs = some us.toArray ∧ RVs A r us
  | [], qs, cs, r, vs, H, K, h => by
    cases H; cases h; exact ⟨vs, rfl, K⟩
  | p :: ps, qs, cs, r, vs, H, K, h => by
    obtain ⟨v, t, rfl, h1, h2⟩ := H
    unfold fillE at h
    have hc := acells_ok h1
    have hcl := hc.length
    have hkl := K.length
    cases hb : (Nat.beq (acells p.2).length s && Nat.ble (p.1 * s + s) cs.length) with
    | false => rw [hb] at h; cases h
    | true =>
      rw [hb, cond_true] at h
      rw [Bool.and_eq_true] at hb
      have e1 := beqT hb.1
      have e2 := Nat.le_of_ble_eq_true hb.2
      have hf := foldl_splice (p.1 * s) (cellsL v) 0 vs (by omega)
      simp only [Nat.add_zero] at hf
      obtain ⟨us, k1, k2⟩ := fillE_ok (vs := vs.take (p.1 * s) ++ cellsL v ++ vs.drop (p.1 * s + (cellsL v).length)) h2 (by rw [hcl]; exact ((K.take _).app hc).app (K.drop _)) h
      refine ⟨us, ?_, k2⟩
      simp only [Instr.fill, cellsL_eq, List.size_toArray]
      rw [if_neg (by simp; omega)]
      rw [show ((cellsL v).toArray.zipIdx.foldl (fun (cs : Array Value) (x : Value × Nat) => match x with | (c, j) => cs.setIfInBounds (p.1 * s + j) c) vs.toArray) = (vs.take (p.1 * s) ++ cellsL v ++ vs.drop (p.1 * s + (cellsL v).length)).toArray from hf]
      exact k1
def buildArrA (P : Program) (e : AEnv) (T : TypeId) (parts : List (Nat × Operand)) : Option AV := match P.underlying T, tZero P T, aparts e parts with
  | some (.array _ E), some z, some ps => match tSize P E, ofV z with
    | some s, some za => match fillE s (acells za) ps with
      | some cs => some (.agg cs)
      | none => none
    | _, _ => none
  | _, _, _ => none
theorem buildArrA_ok {parts : Array (Nat × Operand)} {r : AV} (H : RE A e ρ) (h : buildArrA P e T parts.toList = some r) : Yld P A ρ ⟨dd, .build T parts, ty, pos, af, gg⟩ r := by
  unfold buildArrA at h
  split at h
  · rename_i n E zv ps hT hz hps
    split at h
    · rename_i s za hs hza
      split at h
      · rename_i cs hcs
        cases h
        have hzc := acells_ok (ofV_ok (A := A) hza)
        obtain ⟨us, h1, h2⟩ := fillE_ok (aparts_ok H hps) hzc hcs
        refine ⟨.agg us.toArray, by simp only [RV]; exact ⟨us, rfl, h2⟩, fun w => ?_⟩
        have hmap : (parts.map (fun p => match p with | (i, x) => (i, ev ρ x))) = parts.map (fun p => (p.1, ev ρ p.2)) := rfl
        have hm2 : (parts.map (fun p => (p.1, ev ρ p.2))).toList = parts.toList.map (fun p => (p.1, ev ρ p.2)) := by simp
        have hb : (Instr.build T (parts.map (fun p => (p.1, ev ρ p.2)))).run P w = .ok (.agg us.toArray) w := by
          unfold Instr.build
          simp only [Sem.run_bind, tZero_ok hz, Result.andThen_ok, run_underlying hT, tSize_ok hs, hm2, cellsL_eq]
          rw [h1]
          simp only [Sem.run_pure]
        simp only [execOp, hmap, Sem.run_bind, hb, Result.andThen_ok, Sem.run_pure]
      · cases h
    · cases h
  · cases h
def indexA (P : Program) (T : TypeId) (a i : AV) : Option AV := match P.underlying T, a, natOf i with
  | some (.array n E), .agg cs, some j => match tAgg P E, tSize P E with
    | some false, some s => bif Nat.blt j n then cs[j * s]? else none
    | _, _ => none
  | some .string, .str s, some j => match s.data.toList[j]? with
    | some b => some (.int .u8 b.toNat)
    | none => none
  | _, _, _ => none
theorem indexA_ok {a i r : AV} (hx : RV A a (ev ρ x)) (hy : RV A i (ev ρ y)) (h : indexA P T a i = some r) : Yld P A ρ ⟨dd, .index T x y, ty, pos, af, gg⟩ r := by
  unfold indexA at h
  split at h
  · rename_i n E cs j hT hj
    obtain ⟨k, hy⟩ := natOf_ok hj hy
    simp only [RV] at hx
    obtain ⟨vs, hx, hr⟩ := hx
    split at h
    · rename_i s hA hs
      cases hb : Nat.blt j n with
      | false => rw [hb] at h; cases h
      | true =>
        rw [hb, cond_true] at h
        have hlt : j < n := Nat.le_of_ble_eq_true hb
        obtain ⟨v, hv, hrv⟩ := hr.get h
        have h1 : ((j : Int) < (n : Int)) := by omega
        have h0 : (0 : Int) ≤ (j : Int) := by omega
        exact ⟨v, hrv, fun w => by simp [go_sem, hx, hy, tAgg_ok hA, tSize_ok hs, Instr.index, asIntOf, run_underlying hT, h0, h1, hlt, part, hv]⟩
    · cases h
  · rename_i s j hT hj
    obtain ⟨k, hy⟩ := natOf_ok hj hy
    simp only [RV] at hx
    split at h
    · rename_i b hb
      cases h
      refine ⟨.int .u8 b.toNat, by simp [RV], fun w => ?_⟩
      have hlt : j < s.size := by
        have := (List.getElem?_eq_some_iff.1 hb).1
        simpa using this
      have hg : s[j]? = some b := by
        rw [getElem?_pos s j hlt]
        congr 1
        have h1 := (List.getElem?_eq_some_iff.1 hb).2
        rw [← h1]; rfl
      have h0 : (0 : Int) ≤ (j : Int) := by omega
      simp [go_sem, hx, hy, Instr.index, asIntOf, run_underlying hT, h0, hg]
    · cases h
  · cases h
def indexAddrB (P : Program) (T : TypeId) (a i : AV) : Option AV := match P.underlying T, a, natOf i with
  | some (.array n E), .ptr m o, some j => match tSize P E with
    | some s => bif Nat.blt j n then some (.ptr m (o + j * s)) else none
    | none => none
  | _, _, _ => none
theorem indexAddrB_ok {a i r : AV} (hx : RV A a (ev ρ x)) (hy : RV A i (ev ρ y)) (h : indexAddrB P T a i = some r) : Yld P A ρ ⟨dd, .indexAddr T x y, ty, pos, af, gg⟩ r := by
  unfold indexAddrB at h
  split at h
  · rename_i n E m o j hT hj
    obtain ⟨k, hy⟩ := natOf_ok hj hy
    simp only [RV] at hx
    obtain ⟨b, p, q, hA, hx⟩ := hx
    split at h
    · rename_i s hs
      cases hb : Nat.blt j n with
      | false => rw [hb] at h; cases h
      | true =>
        rw [hb] at h
        cases h
        have hlt : j < n := Nat.le_of_ble_eq_true hb
        refine ⟨.pointer (some ⟨b, p + (o + j * s), none⟩), by simp only [RV]; exact ⟨b, p, q, hA, rfl⟩, fun w => ?_⟩
        rw [x_indexAddrA hT hx hy (tSize_ok hs) (by omega) (by omega), Int.toNat_natCast, Nat.add_assoc]
    · cases h
  · cases h
/-! ### All of them -/
def opA (P : Program) (e : AEnv) (op : Op) : Option AV := match op with
  | .move x => aop e x
  | .assign x => aop e x
  | .pick c a b => match aop e c, aop e a, aop e b with
    | some c, some a, some b => pickA c a b
    | _, _, _ => none
  | .binOp op T x y _ => match aop e x, aop e y with
    | some a, some b => binA P op T x y a b
    | _, _ => none
  | .unOp op _ x => match aop e x with
    | some a => unA P op a
    | none => none
  | .convert T T2 x => match aop e x with
    | some a => convA P T T2 a
    | none => none
  | .nilCheck x => match aop e x with
    | some a => nilCheckA a
    | none => none
  | .fieldAddr T x i => match aop e x with
    | some a => fieldAddrA P T i a
    | none => none
  | .field T x i => match aop e x with
    | some a => fieldA P T i a
    | none => none
  | .indexAddr T x i => match aop e x, aop e i with
    | some a, some j => orA (indexAddrA P T a j) (indexAddrB P T a j)
    | _, _ => none
  | .index T x i => match aop e x, aop e i with
    | some a, some j => indexA P T a j
    | _, _ => none
  | .slice T x lo hi mx => match aop e x with
    | some a => sliceA P e T none a lo hi mx
    | none => none
  | .extract x i => match aop e x with
    | some a => extractA a i
    | none => none
  | .makeFunc fn first captured => match aops e first.toList, aops e captured.toList with
    | some fs, some cs => some (.func fn fs cs)
    | _, _ => none
  | .makeInterface T x => match aop e x with
    | some a => match P.concrete T with
      | true => some (.iface T a)
      | false => none
    | none => none
  | .typeAssert x _ T2 ok => match aop e x with
    | some a => assertA P T2 a ok
    | none => none
  | .build T parts => orA (buildA P e T parts.toList) (buildArrA P e T parts.toList)
  | .call ⟨.builtin .len, ⟨[x]⟩, ⟨[T]⟩⟩ => match aop e x with
    | some a => lenA P T a
    | none => none
  | .call ⟨.builtin .cap, ⟨[x]⟩, ⟨[T]⟩⟩ => match aop e x with
    | some a => capA P T a
    | none => none
  | .call ⟨.builtin .max, ⟨[x, y]⟩, _⟩ => match aop e x, aop e y with
    | some a, some b => maxA a b
    | _, _ => none
  | .call ⟨.builtin .min, ⟨[x, y]⟩, _⟩ => match aop e x, aop e y with
    | some a, some b => minA a b
    | _, _ => none
  | _ => none
theorem opA_ok {o : Oper} {r : AV} (H : RE A e ρ) (h : opA P e o.op = some r) : Yld P A ρ o r := by
  obtain ⟨dd, op, ty, pos, af, gg⟩ := o
  simp only at h
  unfold opA at h
  split at h
  · exact ⟨_, aop_ok H h, fun w => x_move⟩
  · exact ⟨_, aop_ok H h, fun w => x_assign⟩
  · split at h
    · rename_i h1 h2 h3; exact pickA_ok (aop_ok H h1) (aop_ok H h2) (aop_ok H h3) h
    · cases h
  · split at h
    · rename_i h1 h2; exact binA_ok (aop_ok H h1) (aop_ok H h2) h
    · cases h
  · split at h
    · rename_i h1; exact unA_ok (aop_ok H h1) h
    · cases h
  · split at h
    · rename_i h1; exact convA_ok (aop_ok H h1) h
    · cases h
  · split at h
    · rename_i h1; exact nilCheckA_ok (aop_ok H h1) h
    · cases h
  · split at h
    · rename_i h1; exact fieldAddrA_ok (aop_ok H h1) h
    · cases h
  · split at h
    · rename_i h1; exact fieldA_ok (aop_ok H h1) h
    · cases h
  · split at h
    · rename_i h1 h2
      rcases orA_ok h with h | h
      · exact indexAddrA_ok (aop_ok H h1) (aop_ok H h2) h
      · exact indexAddrB_ok (aop_ok H h1) (aop_ok H h2) h
    · cases h
  · split at h
    · rename_i h1 h2; exact indexA_ok (aop_ok H h1) (aop_ok H h2) h
    · cases h
  · split at h
    · rename_i h1; exact sliceA_ok H (aop_ok H h1) (fun k hk => by cases hk) h
    · cases h
  · split at h
    · rename_i h1; exact extractA_ok (aop_ok H h1) h
    · cases h
  · split at h
    · rename_i h1 h2; cases h; exact makeFuncA_ok H h1 h2
    · cases h
  · split at h
    · rename_i h1
      split at h
      · rename_i hT; cases h; exact makeInterfaceA_ok (aop_ok H h1) hT
      · cases h
    · cases h
  · split at h
    · rename_i h1; exact assertA_ok (aop_ok H h1) h
    · cases h
  · rcases orA_ok h with h | h
    · exact buildA_ok H h
    · exact buildArrA_ok H h
  · split at h
    · rename_i h1; exact lenA_ok (aop_ok H h1) h
    · cases h
  · split at h
    · rename_i h1; exact capA_ok (aop_ok H h1) h
    · cases h
  · split at h
    · rename_i h1 h2; exact maxA_ok (aop_ok H h1) (aop_ok H h2) h
    · cases h
  · split at h
    · rename_i h1 h2; exact minA_ok (aop_ok H h1) (aop_ok H h2) h
    · cases h
  · cases h
end
end Go.V
namespace Go.V
set_option linter.unusedSimpArgs false
set_option linter.unusedVariables false
open Go.RowKit
theorem splice_mid (cur vs : List Value) (p o L : Nat) (hL : p + L ≤ cur.length) (h : o + vs.length ≤ L) :
    ((cur.take (p + o) ++ vs ++ cur.drop (p + o + vs.length)).drop p).take L = ((cur.drop p).take L).take o ++ vs ++ ((cur.drop p).take L).drop (o + vs.length) := by
  apply List.ext_getElem?
  intro i
  by_cases h1 : i < o
  · rw [List.getElem?_take, if_pos (by omega), List.getElem?_drop, List.append_assoc, List.getElem?_append_left (by simp; omega), List.getElem?_take, if_pos (by omega),
      List.append_assoc, List.getElem?_append_left (by simp; omega), List.getElem?_take, if_pos h1, List.getElem?_take, if_pos (by omega), List.getElem?_drop]
  · by_cases h2 : i < o + vs.length
    · have e1 : p + i - (List.take (p + o) cur).length = i - o := by simp; omega
      have e2 : i - (List.take o (List.take L (List.drop p cur))).length = i - o := by simp; omega
      rw [List.getElem?_take, if_pos (by omega), List.getElem?_drop, List.append_assoc, List.getElem?_append_right (by simp; omega), List.getElem?_append_left (by rw [e1]; omega), e1,
        List.append_assoc, List.getElem?_append_right (by simp; omega), List.getElem?_append_left (by rw [e2]; omega), e2]
    · by_cases h3 : i < L
      · have e1 : p + i - (List.take (p + o) cur ++ vs).length = i - (o + vs.length) := by simp; omega
        have e2 : i - (List.take o (List.take L (List.drop p cur)) ++ vs).length = i - (o + vs.length) := by simp; omega
        rw [List.getElem?_take, if_pos h3, List.getElem?_drop, List.getElem?_append_right (by simp; omega), e1, List.getElem?_drop,
          List.getElem?_append_right (by simp; omega), e2, List.getElem?_drop, List.getElem?_take, if_pos (by omega), List.getElem?_drop]
        congr 1; omega
      · rw [List.getElem?_take, if_neg h3, List.getElem?_eq_none]
        simp; omega
/-- A value of one cell. -/
def aone : AV → Bool
  | .und | .agg _ | .tup _ | .pan _ => false
  | _ => true
theorem aone_ok {A : NM} {a : AV} {V : Value} (h : aone a = true) (H : RV A a V) : oneC V = true := by
  cases a <;> first
    | (cases h; done)
    | (simp only [RV] at H; subst H; rfl)
    | (simp only [RV] at H; obtain ⟨_, _, _, _, rfl⟩ := H; rfl)
    | (simp only [RV] at H; obtain ⟨_, _, _, _, _, rfl, _⟩ := H; rfl)
    | (simp only [RV] at H; obtain ⟨_, _, rfl, _⟩ := H; rfl)
    | (simp only [RV] at H; obtain ⟨_, rfl, _⟩ := H; rfl)
theorem aones_ok {A : NM} : ∀ {l : List AV} {vs : List Value}, l.all aone = true → RVs A l vs → ∀ v ∈ vs, oneC v = true
  | [], vs, h, H, v, hv => by simp only [RVs] at H; subst H; cases hv
  | a :: r, vs, h, H, v, hv => by
    simp only [RVs] at H
    obtain ⟨u, t, rfl, h1, h2⟩ := H
    rw [List.all_cons, Bool.and_eq_true] at h
    rcases List.mem_cons.1 hv with rfl | hv
    · exact aone_ok h.1 h1
    · exact aones_ok h.2 h2 v hv
section
variable {P : Program} {A : NM} {e : AEnv} {ρ : Env} {U : Nat → Prop} {w0 w : World} {S S' : AS}
variable {dd : Option Nat} {gg : Option (Nat × Bool)} {ty T T2 E : TypeId} {pos : String} {af : Array Edge} {x y z : Operand}
def loadA (P : Program) (S : AS) (T : TypeId) (a : AV) : Option AV := match a with
  | .ptr n o => match S.get n, tAgg P T, tSize P T with
    | some (.cells cs _), some false, _ => cs[o]?
    | some (.cells cs _), some true, some s => bif Nat.ble (o + s) cs.length then some (.agg ((cs.drop o).take s)) else none
    | _, _, _ => none
  | _ => none
theorem loadA_ok {a r : AV} (H : RW U w0 A S w) (hx : RV A a (ev ρ x)) (h : loadA P S T a = some r) : ∃ v, RV A r v ∧ (execOp (ev ρ) ⟨dd, .load T x, ty, pos, af, gg⟩).run P w = .ok (.value v) w := by
  unfold loadA at h
  split at h
  · rename_i n o
    simp only [RV] at hx
    obtain ⟨b, p, q, hA, hx⟩ := hx
    split at h
    · rename_i cs E' s hS hT
      obtain ⟨b', p', q', v, hA', hc, hr⟩ := H.cell hS h
      rw [hA] at hA'; cases hA'
      exact ⟨v, hr, x_load (tAgg_ok hT) hx hc⟩
    · rename_i cs E' s hS hT hs
      cases hb : Nat.ble (o + s) cs.length with
      | false => rw [hb] at h; cases h
      | true =>
        rw [hb] at h
        cases h
        obtain ⟨b', p', q', vs, hA', hl, hc, hr⟩ := H.cells hS o s (Nat.le_of_ble_eq_true hb)
        rw [hA] at hA'; cases hA'
        exact ⟨.agg vs.toArray, by simp only [RV]; exact ⟨vs, rfl, hr⟩, x_loadA (tAgg_ok hT) (tSize_ok hs) hx hc hl⟩
    · cases h
  · cases h
def storeA (P : Program) (S : AS) (T : TypeId) (a v : AV) : Option AS := match a with
  | .ptr n o => match S.get n, tSize P T with
    | some (.cells cs E), some s => bif Nat.beq (acells v).length s && ((acells v).all aone && Nat.ble (o + s) cs.length) then some (S.put n (.cells (cs.take o ++ acells v ++ cs.drop (o + s)) E)) else none
    | _, _ => none
  | _ => none
theorem storeA_ok {a v : AV} (H : RW U w0 A S w) (hx : RV A a (ev ρ x)) (hy : RV A v (ev ρ y)) (h : storeA P S T a v = some S') :
    ∃ w', RW U w0 A S' w' ∧ (execOp (ev ρ) ⟨dd, .store T x y, ty, pos, af, gg⟩).run P w = .ok .skip w' := by
  unfold storeA at h
  split at h
  · rename_i n o
    simp only [RV] at hx
    obtain ⟨b, p, q, hA, hx⟩ := hx
    split at h
    · rename_i cs E s hS hs
      cases hb : (Nat.beq (acells v).length s && ((acells v).all aone && Nat.ble (o + s) cs.length)) with
      | false => rw [hb] at h; cases h
      | true =>
        rw [hb] at h
        cases h
        simp only [Bool.and_eq_true] at hb
        have h1 := beqT hb.1
        have h3 := Nat.le_of_ble_eq_true hb.2.2
        have hc := acells_ok hy
        have hone := aones_ok hb.2.1 hc
        have hlen := hc.length
        obtain ⟨b', p', q', c, hA', hw, hsz, hl, hr⟩ := H.obj n _ hS
        rw [hA] at hA'; cases hA'
        have hst := run_storeCells_at P b (p + o) E (cellsL (ev ρ y)) 0 c w hw (by omega) (fun u hu => oneC' (hone u hu))
        simp only [Nat.add_zero] at hst
        have hcl : c.toList.length = p + q := by simpa using hsz
        refine ⟨w.setRow b (c.toList.take (p + o) ++ cellsL (ev ρ y) ++ c.toList.drop (p + o + (cellsL (ev ρ y)).length)).toArray, H.write hS (by simp) hA (setRow_heap w b c _ E _ hw) (by simp [World.setRow]) (fun k hk => setRow_other w b k _ hk) ⟨rfl, rfl, rfl⟩ ?_ ?_ ?_, ?_⟩
        · simp only [List.size_toArray, List.length_append, List.length_take, List.length_drop, hcl]; omega
        · simp only [List.length_append, List.length_take, List.length_drop]; omega
        · have hlL : (cs.take o ++ acells v ++ cs.drop (o + s)).length = cs.length := by simp only [List.length_append, List.length_take, List.length_drop]; omega
          rw [hlL]
          have := splice_mid c.toList (cellsL (ev ρ y)) p o cs.length (by omega) (by omega)
          simp only [List.toList_toArray]
          rw [this]
          rw [hlen, h1]
          exact ((hr.take o).app hc).app (hr.drop (o + s))
        · have hss : (ev ρ y).cells.size = s := by rw [cellsL_eq]; simp only [List.size_toArray]; omega
          have hcs : (ev ρ y).cells.toList = cellsL (ev ρ y) := by rw [cellsL_eq]
          simp only [execOp, Instr.storeAt, Instr.sureAddr, hx, Sem.run_bind, Sem.run_pure, Result.andThen_ok, storeVar, tSize_ok hs, hss, ne_eq, not_true_eq_false, if_false, hcs, hst]
    · cases h
  · cases h
end
end Go.V
namespace Go.V
set_option linter.unusedSimpArgs false
set_option linter.unusedVariables false
open Go.RowKit
section
variable {P : Program} {A : NM} {e : AEnv} {ρ : Env} {U : Nat → Prop} {w0 w : World} {S S' : AS}
variable {dd : Option Nat} {gg : Option (Nat × Bool)} {ty T T2 E : TypeId} {pos : String} {af : Array Edge} {x y z : Operand}
/-- A step of one operation: it yields what r stands for, in the world w', S' its abstract heap. -/
def Stp (P : Program) (U : Nat → Prop) (w0 : World) (A : NM) (ρ : Env) (o : Oper) (w : World) (r : AV) (S' : AS) : Prop := ∃ B v w', A.le B ∧ RV B r v ∧ RW U w0 B S' w' ∧ (execOp (ev ρ) o).run P w = .ok (.value v) w'
/-- A name that is free. -/
def freeName (S : AS) : Bool := match S.get S.next with
  | none => Nat.ble S.low S.next
  | some _ => false
theorem freeName_ok (h : freeName S = true) : S.free S.next := by
  unfold freeName at h
  split at h
  · rename_i h'; exact ⟨Nat.le_of_ble_eq_true h, h'⟩
  · cases h
/-- A new block: cells, of a type. -/
def newA (S : AS) (cs : List AV) (E : Nat) : AS := (S.put S.next (.cells cs E)).step (S.next + 1)
theorem newA_ok {w' : World} {cs : List AV} {vs : List Value} (H : RW U w0 A S w) (hf : freeName S = true) (hh : w'.heap = w.heap.push (.cells vs.toArray E (0, 0))) (he : Ext0 w w') (hc : RVs A cs vs) :
    ∃ B, A.le B ∧ B S.next = some (w.heap.size, 0, cs.length) ∧ RW U w0 B (newA S cs E) w' := by
  have hl := hc.length
  obtain ⟨B, h1, h2, h3⟩ := H.new (n := S.next) (E := E) (z := cs.length) (cs := cs) (freeName_ok hf) hh he (by simpa using hl) (Nat.le_refl _) (by rw [← hl]; simpa using hc)
  exact ⟨B, h1, h2, h3.step _⟩
def allocA (P : Program) (S : AS) (T : TypeId) : Option (AV × AS) := match freeName S, tZero P T with
  | true, some z => match ofV z with
    | some a => some (.ptr S.next 0, newA S (acells a) T)
    | none => none
  | _, _ => none
theorem allocA_ok {r : AV} (H : RW U w0 A S w) (h : allocA P S T = some (r, S')) : Stp P U w0 A ρ ⟨dd, .alloc T, ty, pos, af, gg⟩ w r S' := by
  unfold allocA at h
  split at h
  · rename_i zv hf hz
    split at h
    · rename_i a ha
      cases h
      have hc := acells_ok (ofV_ok (A := A) ha)
      obtain ⟨B, h1, h2, h3⟩ := newA_ok (w' := w.alloc (.cells (cellsL zv).toArray T)) (E := T) H hf rfl (alloc_ext w _) hc
      refine ⟨B, .pointer (some ⟨w.heap.size, 0, none⟩), _, h1, by simp only [RV]; exact ⟨_, _, _, h2, rfl⟩, h3, ?_⟩
      rw [← cellsL_eq]
      simp [execOp, Instr.alloc, tZero_ok hz, newVar, newRow, newObj, Sem.run_bind, Sem.run_pure, Result.andThen, go_sem]; rfl
    · cases h
  · cases h
def boxA (S : AS) (T : TypeId) (a : AV) : Option (AV × AS) := match freeName S with
  | true => some (.ptr S.next 0, newA S (acells a) T)
  | false => none
theorem boxA_ok {a r : AV} (H : RW U w0 A S w) (hx : RV A a (ev ρ x)) (h : boxA S T a = some (r, S')) : Stp P U w0 A ρ ⟨dd, .box T x, ty, pos, af, gg⟩ w r S' := by
  unfold boxA at h
  split at h
  · rename_i hf
    cases h
    have hc := acells_ok hx
    obtain ⟨B, h1, h2, h3⟩ := newA_ok (w' := w.alloc (.cells (cellsL (ev ρ x)).toArray T)) (E := T) H hf rfl (alloc_ext w _) hc
    refine ⟨B, .pointer (some ⟨w.heap.size, 0, none⟩), _, h1, by simp only [RV]; exact ⟨_, _, _, h2, rfl⟩, h3, ?_⟩
    rw [← cellsL_eq]
    simp [execOp, Instr.box, newVar, newRow, newObj, Sem.run_bind, Sem.run_pure, Result.andThen, go_sem]; rfl
  · cases h
end
end Go.V
namespace Go.V
set_option linter.unusedSimpArgs false
set_option linter.unusedVariables false
open Go.RowKit
theorem flat_rep (l : List Value) : ∀ (k i : Nat), i < k * l.length → (List.replicate k l).flatten[i]? = l[i % l.length]?
  | 0, i, h => by omega
  | k + 1, i, h => by
    rw [List.replicate_succ, List.flatten_cons]
    by_cases h1 : i < l.length
    · rw [List.getElem?_append_left h1, Nat.mod_eq_of_lt h1]
    · have h2 : (k + 1) * l.length = k * l.length + l.length := Nat.succ_mul _ _
      rw [List.getElem?_append_right (by omega), flat_rep l k (i - l.length) (by omega)]
      congr 1
      exact (Nat.mod_eq_sub_mod (by omega)).symm
theorem len_rep (l : List Value) : ∀ k, (List.replicate k l).flatten.length = k * l.length
  | 0 => by simp
  | k + 1 => by rw [List.replicate_succ, List.flatten_cons, List.length_append, len_rep l k, Nat.succ_mul, Nat.add_comm]
theorem made_rep (z : Array Value) (k : Nat) : ((Array.range (k * z.size)).map (fun j => z[j % z.size]!)) = (List.replicate k z.toList).flatten.toArray := by
  apply Array.ext
  · simp [len_rep]
  · intro i h1 h2
    have hi : i < k * z.size := by simpa using h1
    have hp : 0 < z.size := by
      rcases Nat.eq_zero_or_pos z.size with h | h
      · rw [h] at hi; omega
      · exact h
    have hm : i % z.size < z.size := Nat.mod_lt _ hp
    have := flat_rep z.toList k i (by simpa using hi)
    simp only [Array.getElem_map, Array.getElem_range, List.getElem_toArray]
    rw [getElem!_pos z _ hm]
    have h3 : (List.replicate k z.toList).flatten[i]? = some ((List.replicate k z.toList).flatten[i]'(by simpa using h2)) := List.getElem?_eq_getElem _
    rw [h3] at this
    have h4 : z.toList[i % z.toList.length]? = some z[i % z.size] := by simp [hm]
    rw [h4] at this
    exact (Option.some.inj this).symm
section
variable {P : Program} {A : NM} {e : AEnv} {ρ : Env} {U : Nat → Prop} {w0 w : World} {S S' : AS}
variable {dd : Option Nat} {gg : Option (Nat × Bool)} {ty T T2 E : TypeId} {pos : String} {af : Array Edge} {x y z : Operand}
def buildSliceA (P : Program) (e : AEnv) (S : AS) (T : TypeId) (len : Nat) (parts : List (Nat × Operand)) : Option (AV × AS) := match freeName S, elemsOf P T, aparts e parts with
  | true, some E, some ps => match tSize P E, tZero P E with
    | some (s + 1), some zv => match ofV zv with
      | some za => bif Nat.ble (len * (s + 1)) 10000 && Nat.beq (acells za).length (s + 1) then match fillE (s + 1) (List.replicate len (acells za)).flatten ps with
        | some cs => some (.sl S.next 0 len (some len) (s + 1), newA S cs E)
        | none => none else none
      | none => none
    | _, _ => none
  | _, _, _ => none
theorem fillE_len {s : Nat} : ∀ {ps : List (Nat × AV)} {cs r : List AV}, fillE s cs ps = some r → r.length = cs.length
  | [], cs, r, h => by cases h; rfl
  | p :: ps, cs, r, h => by
    unfold fillE at h
    cases hb : (Nat.beq (acells p.2).length s && Nat.ble (p.1 * s + s) cs.length) with
    | false => rw [hb] at h; cases h
    | true =>
      rw [hb, cond_true] at h
      rw [Bool.and_eq_true] at hb
      have e1 := beqT hb.1
      have e2 := Nat.le_of_ble_eq_true hb.2
      rw [fillE_len h]
      simp only [List.length_append, List.length_take, List.length_drop]; omega
theorem repA_len (l : List AV) : ∀ k, (List.replicate k l).flatten.length = k * l.length
  | 0 => by simp
  | k + 1 => by rw [List.replicate_succ, List.flatten_cons, List.length_append, repA_len l k, Nat.succ_mul, Nat.add_comm]
theorem buildSliceA_ok {len : Nat} {parts : Array (Nat × Operand)} {r : AV} (H : RW U w0 A S w) (K : RE A e ρ) (h : buildSliceA P e S T len parts.toList = some (r, S')) : Stp P U w0 A ρ ⟨dd, .buildSlice T len parts, ty, pos, af, gg⟩ w r S' := by
  unfold buildSliceA at h
  split at h
  · rename_i E ps hf hE hps
    split at h
    · rename_i s zv hs hz
      split at h
      · rename_i za hza
        cases hb : (Nat.ble (len * (s + 1)) 10000 && Nat.beq (acells za).length (s + 1)) with
        | false => rw [hb] at h; cases h
        | true =>
          rw [hb, cond_true] at h
          rw [Bool.and_eq_true] at hb
          split at h
          · rename_i cs hcs
            cases h
            have hT := elemsOf_ok hE
            have hs' : tSize P E = some (s + 1) := hs
            have hzc := acells_ok (ofV_ok (A := A) hza)
            have hl1 := Nat.le_of_ble_eq_true hb.1
            have hl2 := beqT hb.2
            have hzl := hzc.length
            have hzs : zv.cells.size = s + 1 := by rw [cellsL_eq]; simp only [List.size_toArray]; omega
            obtain ⟨us, k1, k2⟩ := fillE_ok (aparts_ok K hps) (hzc.rep len) hcs
            have hcl : cs.length = len * (s + 1) := by rw [fillE_len hcs, repA_len, hl2]
            obtain ⟨B, h1, h2, h3⟩ := newA_ok (w' := w.alloc (.cells us.toArray E)) (E := E) H hf rfl (alloc_ext w _) k2
            refine ⟨B, .slice (some ⟨w.heap.size, 0, none⟩) len len, _, h1, ?_, h3, ?_⟩
            · simp only [RV]
              exact ⟨_, _, _, len, h2, rfl, Nat.le_refl _, by have : len ≤ len * (s + 1) := Nat.le_mul_of_pos_right _ (Nat.succ_pos _); simp only [maxLen]; omega, by omega, Nat.succ_pos _, .inl rfl⟩
            · have h24 : ¬ (16777216 < len * (s + 1)) := by omega
              have hmap : (parts.map (fun p => match p with | (i, x) => (i, ev ρ x))) = parts.map (fun p => (p.1, ev ρ p.2)) := rfl
              have hm2 : (parts.map (fun p => (p.1, ev ρ p.2))).toList = parts.toList.map (fun p => (p.1, ev ρ p.2)) := by simp
              have hrun : (Instr.buildSlice T len (parts.map (fun p => (p.1, ev ρ p.2)))).run P w = .ok (.slice (some ⟨w.heap.size, 0, none⟩) len len) (w.alloc (.cells us.toArray E)) := by
                unfold Instr.buildSlice
                simp only [Sem.run_bind, run_underlying hT, Result.andThen_ok, tSize_ok hs', if_neg h24]
                by_cases h0 : len * (s + 1) = 0
                · have hlen : len = 0 := by
                    rcases Nat.mul_eq_zero.1 h0 with h | h
                    · exact h
                    · omega
                  subst hlen
                  simp only [List.replicate_zero, List.flatten_nil] at k1
                  simp only [if_pos h0, pure_bind, hm2]
                  have e0 : (Array.range (0 * (s + 1))).map (fun j => (#[] : Array Value)[j % (#[] : Array Value).size]!) = ([] : List Value).toArray := by apply Array.ext <;> simp
                  rw [e0, k1]
                  simp [newRow, newObj, Sem.run]
                · simp only [if_neg h0, tZero_ok hz, Result.andThen_ok, Sem.run_bind, Sem.run_pure, hm2]
                  have e0 : (Array.range (len * (s + 1))).map (fun j => zv.cells[j % zv.cells.size]!) = (List.replicate len (cellsL zv)).flatten.toArray := by
                    rw [← hzs, made_rep, cellsL_eq]
                  rw [e0, k1]
                  simp [newRow, newObj, Sem.run]
              simp only [execOp, hmap, Sem.run_bind, hrun, Result.andThen_ok, Sem.run_pure]
          · cases h
      · cases h
    · cases h
  · cases h
end
end Go.V
