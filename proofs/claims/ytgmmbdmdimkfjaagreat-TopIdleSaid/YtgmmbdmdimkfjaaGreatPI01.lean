/-
  A calculus of walks over environments (functions from slots to values), sound for the model's own weakest preconditions, whatever the program. No statement of the claim stands here: these are the rules by which the walks of the other texts go; Rules for single operations, in the calculus of the base text, whatever the program: each says what one operation of the model leaves in its slot. No statement of the claim stands here; Rules for loops, joins and guarded groups, in the calculus of the base text, whatever the program. No statement of the claim stands here; Rules for operations on memory, in the calculus of the base text, whatever the program. No statement of the claim stands here
-/
import Derived.WalkKit
import Derived.KernelRfl
import Derived.WalkLawsBesides
namespace Go.V
set_option linter.unusedSimpArgs false
set_option linter.unusedVariables false
open Go.RowKit
abbrev Env := Nat → Value
abbrev EPost := Exit → Env → World → Prop
def upd (ρ : Env) (d : Nat) (v : Value) : Env := fun t => if t = d then v else ρ t
def updo (ρ : Env) (d : Option Nat) (v : Value) : Env := match d with | some d => upd ρ d v | none => ρ
def ev (ρ : Env) : Operand → Value
  | .tmp t => ρ t
  | .const v => v
  | .global g => .pointer (some ⟨g, 0, none⟩)
  | .func f => .func (.func f) #[] #[]
structure Fr where
  n : Nat
  ds : List Deferred
def Fits (N : Fr) (ρ : Env) (a : Act) : Prop := a.defers = N.ds ∧ a.tmps.size = N.n ∧ ∀ t, a.tmps.getD t undef = ρ t
def lift (N : Fr) (Q : EPost) : Exit → Act → World → Prop := fun e a w => ∃ ρ, Fits N ρ a ∧ Q e ρ w
def CW (P : Program) (N : Fr) (c : Code) (Q : EPost) (ρ : Env) (w : World) : Prop := ∀ a, Fits N ρ a → c.wp P (lift N Q) a w
def LW (P : Program) (N : Fr) (ops : Array Oper) (l : List Oper) (Q : EPost) (ρ : Env) (w : World) : Prop :=
  ∀ a, Fits N ρ a → wpList P ops (lift N Q) l a w
theorem Fits.eval {N : Fr} {ρ : Env} {a : Act} (h : Fits N ρ a) : a.eval = ev ρ := by
  funext x
  cases x with
  | tmp t => exact h.2.2 t
  | _ => rfl
theorem Fits.put {N : Fr} {ρ : Env} {a : Act} (h : Fits N ρ a) {d : Nat} (hd : d < N.n) (v : Value) : Fits N (upd ρ d v) (a.put (some d) v) := by
  refine ⟨h.1, by simp [Act.put, h.2.1], fun t => ?_⟩
  have hs : d < a.tmps.size := by rw [h.2.1]; exact hd
  have ht := h.2.2 t
  simp only [Act.put, upd]
  by_cases e : t = d
  · subst e; simp [hs]
  · rw [if_neg e, ← ht]
    simp only [Array.getD_eq_getD_getElem?]
    rw [Array.getElem?_setIfInBounds_ne (fun h => e h.symm)]
theorem Fits.puto {N : Fr} {ρ : Env} {a : Act} (h : Fits N ρ a) {d : Option Nat} (hd : ∀ x, d = some x → x < N.n) (v : Value) : Fits N (updo ρ d v) (a.put d v) := by
  cases d with
  | none => exact h
  | some d => exact h.put (hd d rfl) v
/-! ### Posts -/
def thenE (K : Env → World → Prop) (Q : EPost) : EPost
  | .normal, ρ, w => K ρ w
  | e, ρ, w => Q e ρ w
def blockE (id : Nat) (Q : EPost) : EPost
  | .exit i, ρ, w => if i = id then Q .normal ρ w else Q (.exit i) ρ w
  | e, ρ, w => Q e ρ w
theorem CW.mono {P : Program} {N : Fr} {c : Code} {Q Q' : EPost} {ρ : Env} {w : World} (h : CW P N c Q ρ w) (hq : ∀ e ρ w, Q e ρ w → Q' e ρ w) : CW P N c Q' ρ w :=
  fun a ha => wp_mono (h a ha) fun e _ w ⟨ρ', hf, hQ⟩ => ⟨ρ', hf, hq e ρ' w hQ⟩
theorem CW.seq {P : Program} {N : Fr} {x y : Code} {Q : EPost} {ρ : Env} {w : World}
    (h : ∀ K : Env → World → Prop, (∀ ρ w, CW P N y Q ρ w → K ρ w) → CW P N x (thenE K Q) ρ w) : CW P N (.seq x y) Q ρ w := by
  intro a ha
  refine wp_seq (wp_mono (h _ (fun _ _ h => h) a ha) ?_)
  intro e a' w' ⟨ρ', hf, hQ⟩
  cases e <;> first | exact hQ a' hf | exact ⟨ρ', hf, hQ⟩
theorem CW.cond {P : Program} {N : Fr} {c : Operand} {x y : Code} {Q : EPost} {ρ : Env} {w : World} {b : Bool} (hc : ev ρ c = .bool b)
    (ht : b = true → CW P N x Q ρ w) (hf : b = false → CW P N y Q ρ w) : CW P N (.cond c x y) Q ρ w := by
  intro a ha
  refine wp_cond_split (t := b) (by rw [ha.eval]; exact hc) (fun h => ht h a ha) (fun h => hf h a ha)
theorem CW.condT {P : Program} {N : Fr} {c : Operand} {x y : Code} {Q : EPost} {ρ : Env} {w : World} {b : Bool} (hc : ev ρ c = .bool b) (hb : b = true)
    (ht : CW P N x Q ρ w) : CW P N (.cond c x y) Q ρ w := CW.cond hc (fun _ => ht) (fun h => by rw [hb] at h; cases h)
theorem CW.condF {P : Program} {N : Fr} {c : Operand} {x y : Code} {Q : EPost} {ρ : Env} {w : World} {b : Bool} (hc : ev ρ c = .bool b) (hb : b = false)
    (hf : CW P N y Q ρ w) : CW P N (.cond c x y) Q ρ w := CW.cond hc (fun h => by rw [hb] at h; cases h) (fun _ => hf)
theorem CW.block {P : Program} {N : Fr} {id : Nat} {c : Code} {Q : EPost} {ρ : Env} {w : World} (h : CW P N c (blockE id Q) ρ w) : CW P N (.block id c) Q ρ w := by
  intro a ha
  refine wp_block (wp_mono (h a ha) ?_)
  intro e a' w' ⟨ρ', hf, hQ⟩
  cases e <;> first
    | exact ⟨ρ', hf, hQ⟩
    | (simp only [Exit.inBlock, blockE] at hQ ⊢; split <;> rename_i hid <;> simp only [hid, if_true, if_false] at hQ <;> exact ⟨ρ', hf, hQ⟩)
theorem CW.skip {P : Program} {N : Fr} {Q : EPost} {ρ : Env} {w : World} (h : Q .normal ρ w) : CW P N .skip Q ρ w := fun _ ha => wp_skip ⟨ρ, ha, h⟩
theorem CW.label {P : Program} {N : Fr} {l : Nat} {Q : EPost} {ρ : Env} {w : World} (h : Q .normal ρ w) : CW P N (.label l) Q ρ w := fun _ ha => wp_label ⟨ρ, ha, h⟩
theorem CW.exit {P : Program} {N : Fr} {id : Nat} {Q : EPost} {ρ : Env} {w : World} (h : Q (.exit id) ρ w) : CW P N (.exit id) Q ρ w := fun _ ha => wp_exit ⟨ρ, ha, h⟩
theorem CW.ret {P : Program} {N : Fr} {Q : EPost} {ρ : Env} {w : World} (h : Q .ret ρ w) : CW P N .ret Q ρ w := fun _ ha => wp_ret ⟨ρ, ha, h⟩
theorem CW.loop {P : Program} {N : Fr} {c : Code} {Q : EPost} {ρ : Env} {w : World} (I : Nat → Env → World → Prop) (n : Nat) (h0 : I n ρ w)
    (round : ∀ n ρ w, I n ρ w → CW P N c (thenE (fun ρ' w' => ∃ m, m < n ∧ I m ρ' w') Q) ρ w) : CW P N (.loop c) Q ρ w := by
  intro a ha b k cs
  have key : ∀ n ρ w a, I n ρ w → Fits N ρ a →
      ∃ e a' w', lift N Q e a' w' ∧ Arrives P (lone (b.at a (.code c :: .inLoop c :: k)) cs w) b k cs e a' w' := by
    intro n
    induction n using Nat.strongRecOn with
    | _ n ih =>
      intro ρ w a hI ha
      obtain ⟨e, a₁, w₁, ⟨ρ₁, hf₁, hq⟩, harr⟩ := round n ρ w hI a ha b (.inLoop c :: k) cs
      cases e with
      | normal =>
        obtain ⟨m, hm, hI₁⟩ := hq
        obtain ⟨e₂, a₂, w₂, hq₂, harr₂⟩ := ih m hm ρ₁ w₁ a₁ hI₁ hf₁
        exact ⟨e₂, a₂, w₂, hq₂, .of_steps (Steps.trans harr (.one step_inLoop)) harr₂⟩
      | exit id => exact ⟨_, a₁, w₁, ⟨ρ₁, hf₁, hq⟩, .pass (x := .inLoop c) rfl (fun _ _ => .inl (by simp)) harr⟩
      | goto l => exact ⟨_, a₁, w₁, ⟨ρ₁, hf₁, hq⟩, .pass (x := .inLoop c) rfl (fun _ _ => .inl (by simp)) harr⟩
      | ret => exact ⟨_, a₁, w₁, ⟨ρ₁, hf₁, hq⟩, .pass (x := .inLoop c) rfl (fun _ _ => .inl (by simp)) harr⟩
      | panic ch => exact ⟨_, a₁, w₁, ⟨ρ₁, hf₁, hq⟩, .pass (x := .inLoop c) rfl (fun _ _ => .inl (by simp)) harr⟩
      | outgrown => exact ⟨_, a₁, w₁, ⟨ρ₁, hf₁, hq⟩, .pass (x := .inLoop c) rfl (fun _ _ => .inl (by simp)) harr⟩
  obtain ⟨e, a', w', hq, harr⟩ := key n ρ w a h0 ha
  exact ⟨e, a', w', hq, .of_steps (.one step_loop) harr⟩
/-! ### A body -/
def resE (P : Program) (fn : Func) (ρ : Env) (w : World) (v : Value) : Prop := ∀ tmps : Array Value, (∀ t, tmps.getD t undef = ρ t) → (results fn tmps).run P w = .ok v w
def bodyE (P : Program) (fn : Func) (R : Ending → World → Prop) : EPost
  | .normal, ρ, w | .ret, ρ, w => ∃ v, resE P fn ρ w v ∧ R (.returned v) w
  | .panic chain, _, w => R (.panicked chain) w
  | _, _, _ => False
def bot : Env := fun _ => undef
def argFrom (k : Nat) : List Value → Env
  | [] => bot
  | v :: r => upd (argFrom (k + 1) r) k v
def argE (l : List Value) : Env := argFrom 0 l
theorem argFrom_eq : ∀ (l : List Value) (k t : Nat), k ≤ t → argFrom k l t = l.getD (t - k) undef
  | [], k, t, _ => by simp [argFrom, bot]
  | v :: r, k, t, h => by
    simp only [argFrom, upd]
    by_cases e : t = k
    · subst e; simp
    · rw [if_neg e, argFrom_eq r (k + 1) t (by omega), show t - k = (t - (k + 1)) + 1 from by omega]; simp
theorem argE_eq (l : List Value) (t : Nat) : argE l t = l.getD t undef := argFrom_eq l 0 t (Nat.zero_le _)
theorem thenE_norm {K : Env → World → Prop} {Q : EPost} {ρ : Env} {w : World} (h : K ρ w) : thenE K Q .normal ρ w := h
theorem thenE_exit {K : Env → World → Prop} {Q : EPost} {ρ : Env} {w : World} {i : Nat} (h : Q (.exit i) ρ w) : thenE K Q (.exit i) ρ w := h
theorem thenE_pan {K : Env → World → Prop} {Q : EPost} {ρ : Env} {w : World} {c : List PanicEntry} (h : Q (.panic c) ρ w) : thenE K Q (.panic c) ρ w := h
theorem blockE_norm {Q : EPost} {ρ : Env} {w : World} {i : Nat} (h : Q .normal ρ w) : blockE i Q .normal ρ w := h
theorem blockE_hit {Q : EPost} {ρ : Env} {w : World} {i : Nat} (h : Q .normal ρ w) : blockE i Q (.exit i) ρ w := by simp only [blockE, if_true]; exact h
theorem blockE_miss {Q : EPost} {ρ : Env} {w : World} {i j : Nat} (hij : Nat.beq j i = false) (h : Q (.exit j) ρ w) : blockE i Q (.exit j) ρ w := by
  simp only [blockE]; rw [if_neg (fun e => by subst e; simp at hij)]; exact h
theorem blockE_pan {Q : EPost} {ρ : Env} {w : World} {i : Nat} {c : List PanicEntry} (h : Q (.panic c) ρ w) : blockE i Q (.panic c) ρ w := h
theorem calls_of_CW {P : Program} {f : FuncId} {fn : Func} {c : Code} {l : List Value} {w : World} {R : Ending → World → Prop} {n : Nat}
    (hf : P.funcs[f]? = some fn) (hb : fn.body = some c) (hN : fn.ntmps = n) (hl : l.length ≤ n)
    (h : CW P ⟨n, []⟩ c (bodyE P fn R) (argE l) w) : Calls P f l.toArray w R := by
  refine calls_of_wp hf hb (wp_mono (h _ ⟨rfl, ?_, ?_⟩) ?_)
  · simp [hN]; omega
  · intro t
    rw [argE_eq]
    simp only [Array.getD_eq_getD_getElem?, List.getD_eq_getElem?_getD, Array.getElem?_append, Array.getElem?_replicate, List.size_toArray, List.getElem?_toArray]
    split
    · rfl
    · rename_i hlt
      rw [List.getElem?_eq_none (by omega)]
      split <;> rfl
  · intro e a' w' ⟨ρ', hf', hQ⟩
    cases e with
    | normal => obtain ⟨v, hr, hR⟩ := hQ; exact ⟨hf'.1, v, hr _ hf'.2.2, hR⟩
    | ret => obtain ⟨v, hr, hR⟩ := hQ; exact ⟨hf'.1, v, hr _ hf'.2.2, hR⟩
    | panic ch => exact ⟨hf'.1, hQ⟩
    | exit i => exact hQ.elim
    | goto i => exact hQ.elim
    | outgrown => exact hQ.elim
theorem resE1 {P : Program} {fn : Func} {ρ : Env} {w : World} {s : Nat} (h : fn.results = #[.tmp s]) : resE P fn ρ w (ρ s) := fun tmps ht => by
  rw [← ht]; simp [results, h]
theorem resE0 {P : Program} {fn : Func} {ρ : Env} {w : World} (h : fn.results = #[]) : resE P fn ρ w (.tuple #[]) := fun tmps _ => by simp [results, h]
theorem resE2 {P : Program} {fn : Func} {ρ : Env} {w : World} {s t : Nat} (h : fn.results = #[.tmp s, .tmp t]) : resE P fn ρ w (.tuple #[ρ s, ρ t]) := fun tmps ht => by
  rw [← ht, ← ht]; simp [results, h]
theorem end0 {P : Program} {fn : Func} {R : Ending → World → Prop} {ρ : Env} {w : World} (h : fn.results = #[]) (hR : R (.returned (.tuple #[])) w) : bodyE P fn R .normal ρ w := ⟨_, resE0 h, hR⟩
theorem ret1 {P : Program} {fn : Func} {R : Ending → World → Prop} {ρ : Env} {w : World} {s : Nat} {u : Value} (h : fn.results = #[.tmp s]) (hu : ρ s = u) (hR : R (.returned u) w) : bodyE P fn R .ret ρ w := ⟨_, resE1 h, by rw [hu]; exact hR⟩
theorem ret2 {P : Program} {fn : Func} {R : Ending → World → Prop} {ρ : Env} {w : World} {s t : Nat} {u v : Value} (h : fn.results = #[.tmp s, .tmp t]) (hu : ρ s = u) (hv : ρ t = v) (hR : R (.returned (.tuple #[u, v])) w) : bodyE P fn R .ret ρ w := ⟨_, resE2 h, by rw [hu, hv]; exact hR⟩
section ops
variable {P : Program} {N : Fr} {ops : Array Oper} {rest : List Oper} {Q : EPost} {ρ : Env} {w w' : World}
theorem CW.region {id : Nat} {l : List Oper} (h : LW P N l.toArray l Q ρ w) : CW P N (.region id l.toArray false) Q ρ w :=
  fun a ha => wp_region_lit (h a ha)
theorem LW.nil (h : Q .normal ρ w) : LW P N ops [] Q ρ w := fun _ ha => wpList_nil ⟨ρ, ha, h⟩
theorem LW.done {K : Env → World → Prop} (h : K ρ w) : LW P N ops [] (thenE K Q) ρ w := LW.nil h
/-- An operation without a guard that yields a value. -/
theorem LW.val {o : Oper} {v : Value} (hg : o.guard = none) (hd : ∀ x, o.dst = some x → x < N.n) (hr : (execOp (ev ρ) o).run P w = .ok (.value v) w')
    (h : LW P N ops rest Q (updo ρ o.dst v) w') : LW P N ops (o :: rest) Q ρ w := fun a ha =>
  wpList_plain hg fun K hK => by
    unfold Oper.wp
    rw [ha.eval, hr]
    exact hK _ _ (h _ (ha.puto hd v))
theorem LW.skp {o : Oper} (hg : o.guard = none) (hd : ∀ x, o.dst = some x → x < N.n) (hr : (execOp (ev ρ) o).run P w = .ok .skip w')
    (h : LW P N ops rest Q (updo ρ o.dst undef) w') : LW P N ops (o :: rest) Q ρ w := fun a ha =>
  wpList_plain hg fun K hK => by
    unfold Oper.wp
    rw [ha.eval, hr]
    exact hK _ _ (h _ (ha.puto hd undef))
/-- A call of a function. -/
theorem LW.enter {o : Oper} {f : FuncId} {args : Array Value} (hg : o.guard = none) (hd : ∀ x, o.dst = some x → x < N.n) (hr : (execOp (ev ρ) o).run P w = .ok (.enter f args) w)
    {R : Ending → World → Prop} (hc : Calls P f args w R)
    (h : ∀ e w', R e w' → ∃ v, e = .returned v ∧ LW P N ops rest Q (updo ρ o.dst v) w') : LW P N ops (o :: rest) Q ρ w := fun a ha =>
  wpList_plain hg fun K hK => by
    unfold Oper.wp
    rw [ha.eval, hr]
    refine hc.mono fun e w' he => ?_
    obtain ⟨v, rfl, hv⟩ := h e w' he
    exact hK _ _ (hv _ (ha.puto hd v))
/-- A panic of the text's own or of the run-time. -/
theorem LW.pan {o : Oper} {v : Value} (hg : o.guard = none) (hr : (execOp (ev ρ) o).run P w = .halt (.panic v) w')
    (h : Q (.panic [{ v, recovered := false }]) ρ w') : LW P N ops (o :: rest) Q ρ w := fun a ha =>
  wpList_plain hg fun K hK => by
    unfold Oper.wp
    rw [ha.eval, hr]
    exact ⟨ρ, ha, h⟩
theorem yielded_eq {a : Act} (ha : Fits N ρ a) {j t : Nat} {b : Bool} (hj : (ops[j]?).bind (·.dst) = some t) (hb : ρ t = .bool b) : yielded ops a.tmps j = some b := by
  unfold yielded
  rw [hj]
  have h := ha.2.2 t
  rw [hb] at h
  simp only [Option.bind_some]
  rw [Array.getD_eq_getD_getElem?] at h
  cases h' : a.tmps[t]? with
  | none => rw [h'] at h; simp [undef] at h
  | some x => rw [h'] at h; simp at h; subst h; rfl
/-- A guard that says yes is struck; one that says no passes the operation over. -/
theorem LW.want {d : Option Nat} {op : Op} {ty : TypeId} {pos : String} {af : Array Edge} {j t : Nat} {want b : Bool} (hj : (ops[j]?).bind (·.dst) = some t) (hb : ρ t = .bool b) (hw : b = want)
    (h : LW P N ops (⟨d, op, ty, pos, af, none⟩ :: rest) Q ρ w) : LW P N ops (⟨d, op, ty, pos, af, some (j, want)⟩ :: rest) Q ρ w := by
  intro a ha
  have h1 := h a ha
  have hy := yielded_eq ha hj hb
  unfold wpList at h1 ⊢
  simp only [Region.wanted, if_true] at h1
  simp only [Region.wanted, hy, hw, beq_self_eq_true, if_true]
  exact h1
theorem LW.skip {d : Option Nat} {op : Op} {ty : TypeId} {pos : String} {af : Array Edge} {j t : Nat} {want b : Bool} (hj : (ops[j]?).bind (·.dst) = some t) (hd : ∀ x, d = some x → x < N.n) (hb : ρ t = .bool b) (hw : b = !want)
    (h : LW P N ops rest Q (updo ρ d undef) w) : LW P N ops (⟨d, op, ty, pos, af, some (j, want)⟩ :: rest) Q ρ w := by
  intro a ha
  have hy := yielded_eq ha hj hb
  refine wpList_skip ?_ (h _ (ha.puto hd undef))
  simp only [Region.wanted, hy, hw]
  cases want <;> rfl
end ops
end Go.V
namespace Go.V
set_option linter.unusedSimpArgs false
set_option linter.unusedVariables false
open Go.RowKit
/-- w' is w with new blocks, and with writes to blocks of W alone. -/
structure Ext (W : Nat → Prop) (w w' : World) : Prop where
  os : w'.os = w.os
  tape : w'.tape = w.tape
  output : w'.output = w.output
  size : w.heap.size ≤ w'.heap.size
  block : ∀ k, k < w.heap.size → ¬ W k → w'.heap[k]? = w.heap[k]?
def Non : Nat → Prop := fun _ => False
abbrev Ext0 (w w' : World) : Prop := Ext Non w w'
theorem Ext.refl (W : Nat → Prop) (w : World) : Ext W w w := ⟨rfl, rfl, rfl, Nat.le_refl _, fun _ _ _ => rfl⟩
theorem Ext.trans {W V U : Nat → Prop} {a b c : World} (h : Ext W a b) (k : Ext V b c) (hW : ∀ x, x < a.heap.size → W x → U x) (hV : ∀ x, x < a.heap.size → V x → U x) : Ext U a c :=
  ⟨k.os.trans h.os, k.tape.trans h.tape, k.output.trans h.output, Nat.le_trans h.size k.size, fun i hi hU =>
    (k.block i (Nat.lt_of_lt_of_le hi h.size) (fun hv => hU (hV i hi hv))).trans (h.block i hi (fun hw => hU (hW i hi hw)))⟩
theorem Ext.trans0 {W : Nat → Prop} {a b c : World} (h : Ext W a b) (k : Ext0 b c) : Ext W a c := h.trans k (fun _ _ h => h) (fun _ _ h => h.elim)
theorem Ext0.trans {a b c : World} (h : Ext0 a b) (k : Ext0 b c) : Ext0 a c := Ext.trans0 h k
theorem Ext.mono {W V : Nat → Prop} {a b : World} (h : Ext W a b) (hV : ∀ x, W x → V x) : Ext V a b := ⟨h.os, h.tape, h.output, h.size, fun k hk hn => h.block k hk (fun hw => hn (hV k hw))⟩
theorem Ext.drew {W : Nat → Prop} (w : World) : Ext W w w.drew := ⟨rfl, rfl, rfl, Nat.le_refl _, fun _ _ _ => rfl⟩
theorem Ext.below {w w' : World} (h : Ext0 w w') : Below w.heap.size w w' := ⟨h.os, h.tape, h.output, h.size, fun k hk => h.block k hk id⟩
/-- Block b holds the cells cs of type E, none of them frozen. -/
def Blk (w : World) (b : Nat) (E : TypeId) (cs : List Value) : Prop := w.heap[b]? = some (.cells cs.toArray E (0, 0))
theorem Blk.lt {w : World} {b : Nat} {E : TypeId} {cs : List Value} (h : Blk w b E cs) : b < w.heap.size := (Array.getElem?_eq_some_iff.1 h).1
theorem Blk.up {W : Nat → Prop} {w w' : World} {b : Nat} {E : TypeId} {cs : List Value} (h : Blk w b E cs) (e : Ext W w w') (hb : ¬ W b) : Blk w' b E cs := (e.block b h.lt hb).trans h
theorem Blk.up0 {w w' : World} {b : Nat} {E : TypeId} {cs : List Value} (h : Blk w b E cs) (e : Ext0 w w') : Blk w' b E cs := h.up e id
theorem Blk.cell {w : World} {b : Nat} {E : TypeId} {cs : List Value} (h : Blk w b E cs) {o : Nat} {v : Value} (ho : cs[o]? = some v) : w.cell? ⟨b, o, none⟩ = some v := by
  unfold World.cell? Blk at *
  simp only [h]
  simpa using ho
theorem Blk.free {w : World} {b : Nat} {E : TypeId} {cs : List Value} (h : Blk w b E cs) (o : Nat) : w.frozen? ⟨b, o, none⟩ = false := by
  unfold World.frozen? Blk at *
  simp only [h]
  simp
theorem Ext.cell {W : Nat → Prop} {w w' : World} (e : Ext W w w') {a : Addr} {v : Value} (h : w.cell? a = some v) (hb : ¬ W a.block) : w'.cell? a = some v := by
  rw [← h]
  exact World.cell?_of_block (e.block a.block (World.block_lt_of_cell? _ _ h) hb)
theorem Ext.cell0 {w w' : World} (e : Ext0 w w') {a : Addr} {v : Value} (h : w.cell? a = some v) : w'.cell? a = some v := e.cell h id
/-- A value's cells, as a list. -/
def cellsL : Value → List Value
  | .agg cs => cs.toList
  | v => [v]
theorem cellsL_eq (v : Value) : v.cells = (cellsL v).toArray := by cases v <;> simp [cellsL, Value.cells]
def spliceL (cs : List Value) (off : Nat) (vs : List Value) : List Value := cs.take off ++ vs ++ cs.drop (off + vs.length)
def fillL (pl : List (Nat × Nat)) : List Value → List (Nat × Value) → Option (List Value)
  | cs, [] => some cs
  | cs, (i, v) :: r =>
    match pl[i]? with
    | none => none
    | some (off, size) => bif Nat.beq (cellsL v).length size && Nat.ble (off + size) cs.length then fillL pl (spliceL cs off (cellsL v)) r else none
theorem set_splice (cs : List Value) (off : Nat) (v : Value) (h : off < cs.length) : cs.set off v = cs.take off ++ v :: cs.drop (off + 1) := by rw [List.set_eq_take_append_cons_drop, if_pos h]
theorem foldl_splice (off : Nat) : ∀ (vs : List Value) (k : Nat) (cs : List Value), off + k + vs.length ≤ cs.length →
    ((vs.toArray.zipIdx k).foldl (fun (cs : Array Value) (x : Value × Nat) => cs.setIfInBounds (off + x.2) x.1) cs.toArray) = (cs.take (off + k) ++ vs ++ cs.drop (off + k + vs.length)).toArray := by
  intro vs
  induction vs with
  | nil =>
    intro k cs h
    have hz : ([] : List Value).toArray.zipIdx k = #[] := by apply Array.ext'; simp
    rw [hz]; simp
  | cons v r ih =>
    intro k cs h
    have hz : (v :: r).toArray.zipIdx k = #[(v, k)] ++ r.toArray.zipIdx (k + 1) := by
      apply Array.ext'
      simp [List.zipIdx_cons]
    rw [hz]
    simp only [Array.foldl_append]
    have h1 := ih (k + 1) (cs.set (off + k) v) (by simp at h ⊢; omega)
    have h2 : (#[(v, k)] : Array (Value × Nat)).foldl (fun (cs : Array Value) (x : Value × Nat) => cs.setIfInBounds (off + x.2) x.1) cs.toArray = (cs.set (off + k) v).toArray := by simp
    rw [h2, h1]
    congr 1
    simp only [List.length_cons] at h ⊢
    rw [set_splice cs (off + k) v (by omega)]
    simp only [List.take_append, List.drop_append, List.length_take]
    rw [Nat.min_eq_left (by omega)]
    simp [List.take_take, show off + (k + 1) - (off + k) = 1 from by omega, show off + (k + 1) + r.length - (off + k) = r.length + 1 from by omega, List.drop_take]
    rw [show off + k + 1 + r.length = off + k + (r.length + 1) from by omega]
    simp [show off + k - (off + (k + 1) + r.length) = 0 from by omega]
theorem fillL_eq (pl : List (Nat × Nat)) : ∀ (ps : List (Nat × Value)) (cs r : List Value), fillL pl cs ps = some r → Instr.fill (fun i => pl.toArray[i]?) cs.toArray ps = some r.toArray
  | [], cs, r, h => by simp [fillL] at h; subst h; rfl
  | (i, v) :: ps, cs, r, h => by
    simp only [fillL] at h
    cases hp : pl[i]? with
    | none => rw [hp] at h; cases h
    | some q =>
      obtain ⟨off, size⟩ := q
      rw [hp] at h
      simp only at h
      cases hb : (Nat.beq (cellsL v).length size && Nat.ble (off + size) cs.length) with
      | false => rw [hb] at h; cases h
      | true =>
        rw [hb] at h
        simp only [cond_true] at h
        rw [Bool.and_eq_true] at hb
        have h1 : (cellsL v).length = size := Nat.eq_of_beq_eq_true hb.1
        have h2 : off + size ≤ cs.length := Nat.le_of_ble_eq_true hb.2
        have ih := fillL_eq pl ps _ r h
        simp only [Instr.fill, List.getElem?_toArray, hp, cellsL_eq, List.size_toArray] at ih ⊢
        rw [if_neg (by simp [h1]; omega)]
        have hf := foldl_splice off (cellsL v) 0 cs (by omega)
        simp only [Nat.add_zero] at hf
        rw [show ((cellsL v).toArray.zipIdx.foldl (fun (cs : Array Value) (x : Value × Nat) => match x with | (c, j) => cs.setIfInBounds (off + j) c) cs.toArray) = (spliceL cs off (cellsL v)).toArray from hf]
        exact ih
section rules
variable {P : Program} {N : Fr} {ops : Array Oper} {rest : List Oper} {Q : EPost} {ρ : Env} {w : World}
variable {d : Nat} {dd : Option Nat} {gg : Option (Nat × Bool)} {ty T T2 : TypeId} {pos : String} {af : Array Edge} {x y z : Operand} {k : IntKind} {m n : Int}
theorem LW.v {op : Op} {v : Value} {w' : World} (hd : Nat.blt d N.n = true) (hr : (execOp (ev ρ) ⟨some d, op, ty, pos, af, none⟩).run P w = .ok (.value v) w')
    (h : LW P N ops rest Q (upd ρ d v) w') : LW P N ops (⟨some d, op, ty, pos, af, none⟩ :: rest) Q ρ w :=
  LW.val rfl (fun _ e => by cases e; exact Nat.le_of_ble_eq_true hd) hr h
theorem x_move  : (execOp (ev ρ) ⟨dd, .move x, ty, pos, af, gg⟩).run P w = .ok (.value (ev ρ x)) w := by
  simp [go_sem]
theorem x_assign  : (execOp (ev ρ) ⟨dd, .assign x, ty, pos, af, gg⟩).run P w = .ok (.value (ev ρ x)) w := by
  simp [go_sem]
theorem x_pickT {b : Bool}  (hx : ev ρ x = .bool b) (hb : b = true) : (execOp (ev ρ) ⟨dd, .pick x y z, ty, pos, af, gg⟩).run P w = .ok (.value (ev ρ y)) w := by
  subst hb; simp [go_sem, hx]
theorem r_pickT {b : Bool} (hd : Nat.blt d N.n = true) (hx : ev ρ x = .bool b) (hb : b = true) (h : LW P N ops rest Q (upd ρ d (ev ρ y)) w) : LW P N ops (⟨some d, .pick x y z, ty, pos, af, none⟩ :: rest) Q ρ w := LW.v hd (x_pickT hx hb) h
theorem x_pickF {b : Bool}  (hx : ev ρ x = .bool b) (hb : b = false) : (execOp (ev ρ) ⟨dd, .pick x y z, ty, pos, af, gg⟩).run P w = .ok (.value (ev ρ z)) w := by
  subst hb; simp [go_sem, hx]
theorem r_pickF {b : Bool} (hd : Nat.blt d N.n = true) (hx : ev ρ x = .bool b) (hb : b = false) (h : LW P N ops rest Q (upd ρ d (ev ρ z)) w) : LW P N ops (⟨some d, .pick x y z, ty, pos, af, none⟩ :: rest) Q ρ w := LW.v hd (x_pickF hx hb) h
theorem x_add (hx : ev ρ x = .int k m) (hy : ev ρ y = .int k n) (hw : k.wrap (m + n) = m + n) : (execOp (ev ρ) ⟨dd, .binOp .add T x y T2, ty, pos, af, gg⟩).run P w = .ok (.value (.int k (m + n))) w := by
  simp [go_sem, hx, hy, hw]
theorem x_sub (hx : ev ρ x = .int k m) (hy : ev ρ y = .int k n) (hw : k.wrap (m - n) = m - n) : (execOp (ev ρ) ⟨dd, .binOp .sub T x y T2, ty, pos, af, gg⟩).run P w = .ok (.value (.int k (m - n))) w := by
  simp [go_sem, hx, hy, hw]
theorem x_mul (hx : ev ρ x = .int k m) (hy : ev ρ y = .int k n) (hw : k.wrap (m * n) = m * n) : (execOp (ev ρ) ⟨dd, .binOp .mul T x y T2, ty, pos, af, gg⟩).run P w = .ok (.value (.int k (m * n))) w := by
  simp [go_sem, hx, hy, hw]
theorem x_addw (hx : ev ρ x = .int k m) (hy : ev ρ y = .int k n) : (execOp (ev ρ) ⟨dd, .binOp .add T x y T2, ty, pos, af, gg⟩).run P w = .ok (.value (.int k (k.wrap (m + n)))) w := by
  simp [go_sem, hx, hy]
theorem r_addw (hd : Nat.blt d N.n = true) (hx : ev ρ x = .int k m) (hy : ev ρ y = .int k n) (h : LW P N ops rest Q (upd ρ d (.int k (k.wrap (m + n)))) w) : LW P N ops (⟨some d, .binOp .add T x y T2, ty, pos, af, none⟩ :: rest) Q ρ w := LW.v hd (x_addw hx hy) h
theorem x_subw (hx : ev ρ x = .int k m) (hy : ev ρ y = .int k n) : (execOp (ev ρ) ⟨dd, .binOp .sub T x y T2, ty, pos, af, gg⟩).run P w = .ok (.value (.int k (k.wrap (m - n)))) w := by
  simp [go_sem, hx, hy]
theorem x_rem (hx : ev ρ x = .int k m) (hy : ev ρ y = .int k n) (h0 : 0 ≤ m) (hn : 0 < n) (hk : k.wrap (m % n) = m % n) : (execOp (ev ρ) ⟨dd, .binOp .rem T x y T2, ty, pos, af, gg⟩).run P w = .ok (.value (.int k (m % n))) w := by
  simp [go_sem, hx, hy, hk, show ¬ n = 0 from by omega, Int.tmod_eq_emod_of_nonneg h0]
theorem r_rem (hd : Nat.blt d N.n = true) (hx : ev ρ x = .int k m) (hy : ev ρ y = .int k n) (h0 : 0 ≤ m) (hn : 0 < n) (hk : k.wrap (m % n) = m % n) (h : LW P N ops rest Q (upd ρ d (.int k (m % n))) w) : LW P N ops (⟨some d, .binOp .rem T x y T2, ty, pos, af, none⟩ :: rest) Q ρ w := LW.v hd (x_rem hx hy h0 hn hk) h
theorem x_quo (hx : ev ρ x = .int k m) (hy : ev ρ y = .int k n) (h0 : 0 ≤ m) (hn : 0 < n) (hk : k.wrap (m / n) = m / n) : (execOp (ev ρ) ⟨dd, .binOp .quo T x y T2, ty, pos, af, gg⟩).run P w = .ok (.value (.int k (m / n))) w := by
  simp [go_sem, hx, hy, hk, show ¬ n = 0 from by omega, Int.tdiv_eq_ediv_of_nonneg h0]
theorem r_quo (hd : Nat.blt d N.n = true) (hx : ev ρ x = .int k m) (hy : ev ρ y = .int k n) (h0 : 0 ≤ m) (hn : 0 < n) (hk : k.wrap (m / n) = m / n) (h : LW P N ops rest Q (upd ρ d (.int k (m / n))) w) : LW P N ops (⟨some d, .binOp .quo T x y T2, ty, pos, af, none⟩ :: rest) Q ρ w := LW.v hd (x_quo hx hy h0 hn hk) h
theorem x_lss (hx : ev ρ x = .int k m) (hy : ev ρ y = .int k n) : (execOp (ev ρ) ⟨dd, .binOp .lss T x y T2, ty, pos, af, gg⟩).run P w = .ok (.value (.bool (decide (m < n)))) w := by
  simp [go_sem, hx, hy]
theorem x_leq (hx : ev ρ x = .int k m) (hy : ev ρ y = .int k n) : (execOp (ev ρ) ⟨dd, .binOp .leq T x y T2, ty, pos, af, gg⟩).run P w = .ok (.value (.bool (decide (m ≤ n)))) w := by
  simp [go_sem, hx, hy]
theorem x_gtr (hx : ev ρ x = .int k m) (hy : ev ρ y = .int k n) : (execOp (ev ρ) ⟨dd, .binOp .gtr T x y T2, ty, pos, af, gg⟩).run P w = .ok (.value (.bool (decide (n < m)))) w := by
  simp [go_sem, hx, hy]
theorem x_geq (hx : ev ρ x = .int k m) (hy : ev ρ y = .int k n) : (execOp (ev ρ) ⟨dd, .binOp .geq T x y T2, ty, pos, af, gg⟩).run P w = .ok (.value (.bool (decide (n ≤ m)))) w := by
  simp [go_sem, hx, hy]
theorem x_eql (hx : ev ρ x = .int k m) (hy : ev ρ y = .int k n) : (execOp (ev ρ) ⟨dd, .binOp .eql T x y T2, ty, pos, af, gg⟩).run P w = .ok (.value (.bool (decide (m = n)))) w := by
  simp [go_sem, hx, hy]; rfl
theorem x_neq (hx : ev ρ x = .int k m) (hy : ev ρ y = .int k n) : (execOp (ev ρ) ⟨dd, .binOp .neq T x y T2, ty, pos, af, gg⟩).run P w = .ok (.value (.bool (decide (m ≠ n)))) w := by
  simp [go_sem, hx, hy]; rfl
theorem ba_beq (a b : ByteArray) : (a.toList == b.toList) = decide (a = b) := by
  have e : ∀ x : ByteArray, x.toList = x.data.toList := fun x => ByteArray.toList_eq x
  rw [Bool.eq_iff_iff]
  simp only [beq_iff_eq, decide_eq_true_eq, e]
  constructor
  · intro h; cases a; cases b; simp at h; simp [h]
  · rintro rfl; rfl
theorem x_eqlS {a b : ByteArray}  (hx : ev ρ x = .string a) (hy : ev ρ y = .string b) : (execOp (ev ρ) ⟨dd, .binOp .eql T x y T2, ty, pos, af, gg⟩).run P w = .ok (.value (.bool (decide (a = b)))) w := by
  simp [go_sem, hx, hy, ba_beq]
theorem x_neqS {a b : ByteArray}  (hx : ev ρ x = .string a) (hy : ev ρ y = .string b) : (execOp (ev ρ) ⟨dd, .binOp .neq T x y T2, ty, pos, af, gg⟩).run P w = .ok (.value (.bool (!decide (a = b)))) w := by
  simp [go_sem, hx, hy, ba_beq]
theorem x_not {a : Bool}  (hx : ev ρ x = .bool a) : (execOp (ev ρ) ⟨dd, .unOp .not T x, ty, pos, af, gg⟩).run P w = .ok (.value (.bool (!a))) w := by
  simp [go_sem, hx]
theorem x_convI {k' : IntKind}  (hT : P.underlying T = some (.int k)) (hT2 : P.underlying T2 = some (.int k')) (hx : ev ρ x = .int k m) (hw : k'.wrap m = m) : (execOp (ev ρ) ⟨dd, .convert T T2 x, ty, pos, af, gg⟩).run P w = .ok (.value (.int k' m)) w := by
  simp [go_sem, hx, hT, hT2, hw]
theorem x_extract {vs : Array Value} {i : Nat} {v : Value}  (hx : ev ρ x = .tuple vs) (hv : vs[i]? = some v) : (execOp (ev ρ) ⟨dd, .extract x i, ty, pos, af, gg⟩).run P w = .ok (.value v) w := by
  simp [go_sem, hx, hv]
theorem x_len {a : Option Addr} {len cap : Nat} {E : TypeId}  (hT : P.underlying T = some (.slice E)) (hx : ev ρ x = .slice a len cap) : (execOp (ev ρ) ⟨dd, .call { callee := .builtin .len, args := #[x], argTypes := #[T] }, ty, pos, af, gg⟩).run P w = .ok (.value (.int .i64 len)) w := by
  simp [go_sem, hx, hT]
theorem x_lenS {s : ByteArray}  (hT : P.underlying T = some .string) (hx : ev ρ x = .string s) : (execOp (ev ρ) ⟨dd, .call { callee := .builtin .len, args := #[x], argTypes := #[T] }, ty, pos, af, gg⟩).run P w = .ok (.value (.int .i64 s.size)) w := by
  simp [go_sem, hx, hT]
theorem x_nilCheck {a : Addr}  (hx : ev ρ x = .pointer (some a)) : (execOp (ev ρ) ⟨dd, .nilCheck x, ty, pos, af, gg⟩).run P w = .ok (.value (.pointer (some a))) w := by
  simp [go_sem, hx]
/-- A load of one cell. -/
theorem x_load {a : Addr} {v : Value}  (hT : ∀ w, (isAgg T).run P w = .ok false w) (hx : ev ρ x = .pointer (some a)) (hc : w.cell? a = some v) : (execOp (ev ρ) ⟨dd, .load T x, ty, pos, af, gg⟩).run P w = .ok (.value v) w := by
  simp [go_sem, hx, hT, hc]
theorem addr_add (b o s : Nat) : (⟨b, o, none⟩ : Addr).add s = ⟨b, o + s, none⟩ := by unfold Addr.add; split <;> simp_all
/-- xs[i]'s address. -/
theorem x_indexAddr {b o len cap : Nat} {E : TypeId} {s : Nat} (hT : P.underlying T = some (.slice E)) (hs : ∀ w, (sizeOf E).run P w = .ok s w) (hx : ev ρ x = .slice (some ⟨b, o, none⟩) len cap) (hy : ev ρ y = .int k m) (h0 : 0 ≤ m) (h1 : m < len) :
    (execOp (ev ρ) ⟨dd, .indexAddr T x y, ty, pos, af, gg⟩).run P w = .ok (.value (.pointer (some ⟨b, o + m.toNat * s, none⟩))) w := by simp [go_sem, hx, hy, hT, hs, h0, h1, addr_add]
/-- A field's address. -/
theorem x_fieldAddr {b o : Nat} {fs : Array Field} {i : Nat} {f : Field} {s : Nat} (hT : P.underlying T = some (.struct fs)) (hf : fs[i]? = some f) (hs : ∀ w, (sizeOf f.type).run P w = .ok s w) (h0 : s ≠ 0) (hx : ev ρ x = .pointer (some ⟨b, o, none⟩)) :
    (execOp (ev ρ) ⟨dd, .fieldAddr T x i, ty, pos, af, gg⟩).run P w = .ok (.value (.pointer (some ⟨b, o + f.offset, none⟩))) w := by
  simp [go_sem, hx, Instr.fieldAt, Instr.sureAddr, run_underlying hT, hf, fieldPlace, hs, h0, addr_add]
/-- A field of a struct that is a value: of one cell. -/
theorem x_field {cs : Array Value} {fs : Array Field} {i : Nat} {f : Field} {v : Value} (hT : P.underlying T = some (.struct fs)) (hf : fs[i]? = some f) (ha : ∀ w, (isAgg f.type).run P w = .ok false w) (hx : ev ρ x = .agg cs) (hv : cs[f.offset]? = some v) :
    (execOp (ev ρ) ⟨dd, .field T x i, ty, pos, af, gg⟩).run P w = .ok (.value v) w := by
  simp [go_sem, hx, Instr.field, run_underlying hT, hf, part, ha, hv, asAgg]
/-- .. a struct itself. -/
theorem x_fieldA {cs : Array Value} {fs : Array Field} {i : Nat} {f : Field} {s : Nat} (hT : P.underlying T = some (.struct fs)) (hf : fs[i]? = some f) (ha : ∀ w, (isAgg f.type).run P w = .ok true w) (hs : ∀ w, (sizeOf f.type).run P w = .ok s w) (hx : ev ρ x = .agg cs) :
    (execOp (ev ρ) ⟨dd, .field T x i, ty, pos, af, gg⟩).run P w = .ok (.value (.agg (cs.extract f.offset (f.offset + s)))) w := by
  simp [go_sem, hx, Instr.field, run_underlying hT, hf, part, ha, hs, asAgg]
/-- A value made an interface's. -/
theorem x_makeInterface {v : Value} (hT : P.concrete T = true) (hx : ev ρ x = v) : (execOp (ev ρ) ⟨dd, .makeInterface T x, ty, pos, af, gg⟩).run P w = .ok (.value (.iface T v)) w := by simp only [execOp, hx, Sem.run_bind, run_makeInterface w T v hT, Result.andThen_ok, Sem.run_pure]
/-- A struct's value, put together. -/
theorem x_build {fs : Array Field} {zv : Value} {zl cs : List Value} {parts : Array (Nat × Operand)} {pl : List (Nat × Nat)} (hT : P.underlying T = some (.struct fs)) (hz : ∀ w, (zeroValue T).run P w = .ok zv w) (hzl : cellsL zv = zl)
    (hpl : ∀ w, (fs.mapM (fun f => do pure (f.offset, ← sizeOf f.type) : Field → Sem (Nat × Nat))).run P w = .ok pl.toArray w) (hc : fillL pl zl (parts.toList.map (fun p => (p.1, ev ρ p.2))) = some cs) :
    (execOp (ev ρ) ⟨dd, .build T parts, ty, pos, af, gg⟩).run P w = .ok (.value (.agg cs.toArray)) w := by
  have hmap : (parts.map (fun p => match p with | (i, x) => (i, ev ρ x))) = parts.map (fun p => (p.1, ev ρ p.2)) := rfl
  have hf := fillL_eq pl _ _ _ hc
  have hzc : zv.cells = zl.toArray := by rw [← hzl, cellsL_eq]
  have hpl' := hpl w
  have hm2 : (parts.map (fun p => (p.1, ev ρ p.2))).toList = parts.toList.map (fun p => (p.1, ev ρ p.2)) := by simp
  simp only [execOp, hmap, Instr.build, Sem.run_bind, hz, Result.andThen_ok, run_underlying hT]
  simp only [hzc, hm2] at *
  rw [hpl']
  simp only [Result.andThen_ok]
  rw [hf]
  simp only [Sem.run_pure, Result.andThen_ok]
/-- A call of a function of the program. -/
theorem r_call {f : FuncId} {args : Array Operand} {tys : Array TypeId} {R : Ending → World → Prop} {l : List Value} (hd : Nat.blt d N.n = true) (hc : ∀ (l : Array Value) w, (callFunc f l).run P w = .ok (.enter f l) w)
    (hl : (args.toList.map (ev ρ)) = l) (hR : Calls P f l.toArray w R) (h : ∀ e w', R e w' → ∃ v, e = .returned v ∧ LW P N ops rest Q (upd ρ d v) w') :
    LW P N ops (⟨some d, .call { callee := .value (.func f), args := args, argTypes := tys }, ty, pos, af, none⟩ :: rest) Q ρ w := by
  refine LW.enter rfl (fun _ e => by cases e; exact Nat.le_of_ble_eq_true hd) ?_ hR h
  have hA : args.map (ev ρ) = l.toArray := by rw [← hl, ← Array.toList_map]
  simp [execOp, resolve, ev, hc, hA, invoke, Sem.run_bind, Deferred.ofValue]
theorem wr_i64 {n : Int} (h0 : -9223372036854775808 ≤ n) (h1 : n < 9223372036854775808) : IntKind.i64.wrap n = n := by rw [IntWalk.i64_in]; omega
theorem wr_u8 {n : Int} (h0 : 0 ≤ n) (h1 : n < 256) : IntKind.u8.wrap n = n := by rw [IntWalk.u8_in]; omega
theorem wr_u64 {n : Int} (h0 : 0 ≤ n) (h1 : n < 18446744073709551616) : IntKind.u64.wrap n = n := by rw [IntWalk.u64_in]; omega
end rules
end Go.V
namespace Go.V
set_option linter.unusedSimpArgs false
set_option linter.unusedVariables false
open Go.RowKit
def keepE (σ ρ : Env) : List Nat → Env
  | [] => σ
  | t :: r => upd (keepE σ ρ r) t (ρ t)
def setL (ρ : Env) : List Nat → List Value → Env
  | c :: cs, v :: vs => upd (setL ρ cs vs) c v
  | _, _ => ρ
theorem upd_get (ρ : Env) (d : Nat) (v : Value) (t : Nat) : upd ρ d v t = if t = d then v else ρ t := rfl
theorem upd_self (ρ : Env) (t : Nat) : upd ρ t (ρ t) = ρ := by funext s; simp only [upd]; split <;> simp_all
theorem keepE_self (ρ : Env) : ∀ ts, keepE ρ ρ ts = ρ
  | [] => rfl
  | t :: r => by simp only [keepE, keepE_self ρ r, upd_self]
theorem keepE_same {ρ ρ' : Env} : ∀ {ts : List Nat}, ts.map ρ' = ts.map ρ → keepE ρ' ρ ts = ρ'
  | [], _ => rfl
  | t :: r, h => by
    simp only [List.map_cons, List.cons.injEq] at h
    simp only [keepE, keepE_same h.2, ← h.1, upd_self]
theorem setL_self (ρ : Env) : ∀ cs : List Nat, setL ρ cs (cs.map ρ) = ρ
  | [] => rfl
  | c :: r => by simp only [List.map_cons, setL, setL_self ρ r, upd_self]
/-- Only some slots are remembered. -/
theorem cut {K : Env → World → Prop} {ρ : Env} {w : World} (ts : List Nat) (h : ∀ σ, K (keepE σ ρ ts) w) : K ρ w := by
  have := h ρ
  rwa [keepE_self] at this
section
variable {P : Program} {N : Fr} {Q : EPost} {ρ : Env} {w : World}
/-- A loop: 'ts' are the slots that stay, 'cs' those that change, R what holds of them, its first argument the measure. -/
theorem CW.loopR {c : Code} (ts cs : List Nat) (R : Nat → List Value → World → Prop) (n : Nat) (h0 : R n (cs.map ρ) w)
    (round : ∀ n vs w' σ, R n vs w' → CW P N c (thenE (fun ρ' w'' => ts.map ρ' = ts.map ρ ∧ ∃ m, m < n ∧ R m (cs.map ρ') w'') Q) (setL (keepE σ ρ ts) cs vs) w') : CW P N (.loop c) Q ρ w := by
  refine CW.loop (fun n ρ' w' => ts.map ρ' = ts.map ρ ∧ R n (cs.map ρ') w') n ⟨rfl, h0⟩ ?_
  intro n ρ' w' ⟨h1, h2⟩
  have h := round n (cs.map ρ') w' ρ' h2
  rw [keepE_same h1, setL_self] at h
  refine h.mono fun e ρ'' w'' hq => ?_
  cases e <;> first | exact hq | (obtain ⟨a, m, hm, hr⟩ := hq; exact ⟨m, hm, a, hr⟩)
/-- Behind the first part only 'ts' and 'cs' are known. -/
theorem CW.seqJ {x y : Code} (ts cs : List Nat) (R : List Value → World → Prop)
    (h1 : CW P N x (thenE (fun ρ' w' => ts.map ρ' = ts.map ρ ∧ R (cs.map ρ') w') Q) ρ w)
    (h2 : ∀ vs w' σ, R vs w' → CW P N y Q (setL (keepE σ ρ ts) cs vs) w') : CW P N (.seq x y) Q ρ w := by
  refine CW.seq fun K hK => h1.mono fun e ρ' w' hq => ?_
  cases e <;> first | exact hq | skip
  obtain ⟨a, hr⟩ := hq
  have h := h2 _ w' ρ' hr
  rw [keepE_same a, setL_self] at h
  exact hK _ _ h
theorem LW.mono {ops : Array Oper} {l : List Oper} {Q' : EPost} (h : LW P N ops l Q ρ w) (hq : ∀ e ρ w, Q e ρ w → Q' e ρ w) : LW P N ops l Q' ρ w := by
  intro a ha
  have h1 := h a ha
  clear h ha
  induction l generalizing a w with
  | nil => obtain ⟨ρ', hf, hQ⟩ := h1; exact ⟨ρ', hf, hq _ _ _ hQ⟩
  | cons o rest ih =>
    unfold wpList at h1 ⊢
    split at h1
    · rename_i hw
      rw [if_pos hw]
      rcases h1 with h1 | ⟨h1, a₀, w₀, ρ', hf, hQ⟩
      · refine .inl ?_
        unfold Oper.wp at *
        generalize (execOp a.eval o).run P w = r at *
        cases r with
        | ok n w' =>
          cases n <;> simp only [Oper.upon] at h1 ⊢ <;>
            first
              | exact ih _ h1
              | exact Calls.mono h1 (fun e w'' he => by
                  cases e with
                  | returned v => exact ih _ he
                  | panicked c => obtain ⟨ρ', hf, hQ⟩ := he; exact ⟨ρ', hf, hq _ _ _ hQ⟩
                  | outgrown => obtain ⟨a₀, w₀, ρ', hf, hQ⟩ := he; exact ⟨a₀, w₀, ρ', hf, hq _ _ _ hQ⟩)
              | exact Rows.mono h1 (fun _ _ he => ih _ he)
        | halt x w' =>
          cases x <;> simp only [Oper.upon] at h1 ⊢
          obtain ⟨ρ', hf, hQ⟩ := h1; exact ⟨ρ', hf, hq _ _ _ hQ⟩
      · exact .inr ⟨h1, a₀, w₀, ρ', hf, hq _ _ _ hQ⟩
    · rename_i hw
      rw [if_neg hw]
      exact ih _ h1
/-- A list of operations in two parts. -/
theorem LW.app {ops : Array Oper} : ∀ {l : List Oper} (n : Nat) {ρ : Env} {w : World}, LW P N ops (l.take n) (thenE (fun ρ' w' => LW P N ops (l.drop n) Q ρ' w') Q) ρ w → LW P N ops l Q ρ w := by
  intro l n ρ w h a ha
  have h1 := h a ha
  clear h ha
  induction l generalizing a w n with
  | nil =>
    obtain ⟨ρ', hf, hQ⟩ := (by simpa [wpList] using h1 : lift N _ _ a w)
    exact hQ a hf
  | cons o rest ih =>
    cases n with
    | zero =>
      obtain ⟨ρ', hf, hQ⟩ := (by simpa [wpList] using h1 : lift N _ _ a w)
      exact hQ a hf
    | succ n =>
      simp only [List.take_succ_cons, List.drop_succ_cons] at h1
      unfold wpList at h1 ⊢
      split at h1
      · rename_i hw
        rw [if_pos hw]
        rcases h1 with h1 | ⟨h1, a₀, w₀, ρ', hf, hQ⟩
        · refine .inl ?_
          unfold Oper.wp at *
          generalize (execOp a.eval o).run P w = r at *
          cases r with
          | ok m w' =>
            cases m <;> simp only [Oper.upon] at h1 ⊢ <;>
              first
                | exact ih _ _ h1
                | exact Calls.mono h1 (fun e w'' he => by
                    cases e with
                    | returned v => exact ih _ _ he
                    | panicked c => exact he
                    | outgrown => exact he)
                | exact Rows.mono h1 (fun _ _ he => ih _ _ he)
          | halt x w' =>
            cases x <;> simp only [Oper.upon] at h1 ⊢
            exact h1
        · exact .inr ⟨h1, a₀, w₀, ρ', hf, hQ⟩
      · rename_i hw
        rw [if_neg hw]
        exact ih _ _ h1
theorem LW.joined {ops : Array Oper} {l : List Oper} {n : Nat} {ts : List Nat} {d : Nat} {B : Bool}
    (h1 : LW P N ops (l.take n) (thenE (fun ρ' w' => w' = w ∧ ts.map ρ' = ts.map ρ ∧ ρ' d = .bool B) Q) ρ w)
    (h2 : ∀ σ, LW P N ops (l.drop n) Q (upd (keepE σ ρ ts) d (.bool B)) w) : LW P N ops l Q ρ w := by
  refine LW.app n (h1.mono fun e ρ' w' hq => ?_)
  cases e <;> first | exact hq | skip
  obtain ⟨rfl, a, hd⟩ := hq
  have h := h2 ρ'
  rw [keepE_same a, ← hd, upd_self] at h
  exact h
/-- 'a && b', 'a || b': the operations of b are guarded; behind the group one Bool is known. -/
theorem LW.grpAnd {ops : Array Oper} {l : List Oper} {n : Nat} {ts : List Nat} {d tj : Nat} {b1 b2 : Bool} (hb : ρ tj = .bool b1)
    (h1 : b1 = true → LW P N ops (l.take n) (thenE (fun ρ' w' => w' = w ∧ ts.map ρ' = ts.map ρ ∧ ρ' d = .bool b2) Q) ρ w)
    (h0 : b1 = false → LW P N ops (l.take n) (thenE (fun ρ' w' => w' = w ∧ ts.map ρ' = ts.map ρ ∧ ρ' d = .bool false) Q) ρ w)
    (h2 : ∀ σ, LW P N ops (l.drop n) Q (upd (keepE σ ρ ts) d (.bool (b1 && b2))) w) : LW P N ops l Q ρ w := by
  cases b1
  · exact LW.joined (h0 rfl) h2
  · exact LW.joined (h1 rfl) (by simpa using h2)
theorem LW.grpOr {ops : Array Oper} {l : List Oper} {n : Nat} {ts : List Nat} {d tj : Nat} {b1 b2 : Bool} (hb : ρ tj = .bool b1)
    (h1 : b1 = false → LW P N ops (l.take n) (thenE (fun ρ' w' => w' = w ∧ ts.map ρ' = ts.map ρ ∧ ρ' d = .bool b2) Q) ρ w)
    (h0 : b1 = true → LW P N ops (l.take n) (thenE (fun ρ' w' => w' = w ∧ ts.map ρ' = ts.map ρ ∧ ρ' d = .bool true) Q) ρ w)
    (h2 : ∀ σ, LW P N ops (l.drop n) Q (upd (keepE σ ρ ts) d (.bool (b1 || b2))) w) : LW P N ops l Q ρ w := by
  cases b1
  · exact LW.joined (h1 rfl) (by simpa using h2)
  · exact LW.joined (h0 rfl) h2
/-- A Bool in a slot is known. -/
theorem LW.known {ops : Array Oper} {l : List Oper} {t : Nat} {b c : Bool} (_hb : ρ t = .bool b) (h : b = c) (k : b = c → LW P N ops l Q ρ w) : LW P N ops l Q ρ w := k h
theorem LW.splitB {ops : Array Oper} {l : List Oper} {t : Nat} {b : Bool} (_hb : ρ t = .bool b) (h1 : b = true → LW P N ops l Q ρ w) (h2 : b = false → LW P N ops l Q ρ w) : LW P N ops l Q ρ w := by cases b; exact h2 rfl; exact h1 rfl
end
end Go.V
namespace Go.V
set_option linter.unusedSimpArgs false
set_option linter.unusedVariables false
open Go.RowKit
theorem alloc_new (w : World) (c : List Value) (E : TypeId) : Blk (w.alloc (.cells c.toArray E)) w.heap.size E c := heap_alloc_new w _
theorem alloc_ext (w : World) (o : Obj) : Ext0 w (w.alloc o) := ⟨rfl, rfl, rfl, by simp, fun k hk _ => Below.heap_alloc w o k hk⟩
/-- Cells that lie one behind the other. -/
def Cells (w : World) (b o : Nat) : List Value → Prop
  | [] => True
  | c :: cs => w.cell? ⟨b, o, none⟩ = some c ∧ Cells w b (o + 1) cs
theorem Cells.get {w : World} {b : Nat} : ∀ {cs : List Value} {o : Nat}, Cells w b o cs → ∀ j v, cs[j]? = some v → w.cell? ⟨b, o + j, none⟩ = some v
  | [], _, _, j, v, h => by simp at h
  | c :: cs, o, h, 0, v, hj => by simp at hj; subst hj; exact h.1
  | c :: cs, o, h, j + 1, v, hj => by
    have := Cells.get h.2 j v (by simpa using hj)
    rw [show o + (j + 1) = o + 1 + j from by omega]; exact this
theorem Cells.of {w : World} {b : Nat} : ∀ {cs : List Value} {o : Nat}, (∀ j v, cs[j]? = some v → w.cell? ⟨b, o + j, none⟩ = some v) → Cells w b o cs
  | [], _, _ => trivial
  | c :: cs, o, h => ⟨h 0 c rfl, Cells.of fun j v hj => by
      have := h (j + 1) v (by simpa using hj)
      rw [show o + 1 + j = o + (j + 1) from by omega]; exact this⟩
theorem Blk.cells {w : World} {b : Nat} {E : TypeId} {pre cs post : List Value} (h : Blk w b E (pre ++ cs ++ post)) : Cells w b pre.length cs :=
  Cells.of fun j v hj => h.cell (by
    have hl := (List.getElem?_eq_some_iff.1 hj).1
    rw [List.getElem?_append_left (by simp; omega), List.getElem?_append_right (by omega)]
    simpa using hj)
theorem Blk.cellsAll {w : World} {b : Nat} {E : TypeId} {cs : List Value} (h : Blk w b E cs) : Cells w b 0 cs := Cells.of fun j v hj => h.cell (by simpa using hj)
theorem Cells.up {W : Nat → Prop} {w w' : World} {b o : Nat} {cs : List Value} (h : Cells w b o cs) (e : Ext W w w') (hb : ¬ W b) : Cells w' b o cs :=
  Cells.of fun j v hj => e.cell (h.get j v hj) hb
def oneC : Value → Bool
  | .agg _ | .tuple _ => false
  | _ => true
section rules
variable {P : Program} {N : Fr} {ops : Array Oper} {rest : List Oper} {Q : EPost} {ρ : Env} {w : World}
variable {d : Nat} {ty T T2 : TypeId} {pos : String} {af : Array Edge} {x y z : Operand} {k : IntKind} {m n : Int}
/-- A new variable. -/
theorem r_alloc {E : TypeId} {zv : Value} {cs : List Value} (hd : Nat.blt d N.n = true) (hz : ∀ w, (zeroValue E).run P w = .ok zv w) (hc : zv.cells.toList = cs)
    (h : ∀ b w', b = w.heap.size → w'.heap.size = b + 1 → Ext0 w w' → Blk w' b E cs → LW P N ops rest Q (upd ρ d (.pointer (some ⟨b, 0, none⟩))) w') :
    LW P N ops (⟨some d, .alloc E, ty, pos, af, none⟩ :: rest) Q ρ w :=
  LW.v hd (w' := w.alloc (.cells zv.cells E)) (v := .pointer (some ⟨w.heap.size, 0, none⟩)) (by simp [execOp, Instr.alloc, hz, newVar, newRow, newObj, Sem.run_bind, Sem.run_pure, Result.andThen, go_sem]; rfl)
    (h _ _ rfl (by simp) (alloc_ext w _) (by subst hc; exact heap_alloc_new w _))
theorem r_box {E : TypeId} {v : Value} {cs : List Value} (hd : Nat.blt d N.n = true) (hx : ev ρ x = v) (hc : v.cells.toList = cs)
    (h : ∀ b w', b = w.heap.size → w'.heap.size = b + 1 → Ext0 w w' → Blk w' b E cs → LW P N ops rest Q (upd ρ d (.pointer (some ⟨b, 0, none⟩))) w') :
    LW P N ops (⟨some d, .box E x, ty, pos, af, none⟩ :: rest) Q ρ w :=
  LW.v hd (w' := w.alloc (.cells v.cells E)) (v := .pointer (some ⟨w.heap.size, 0, none⟩)) (by simp [execOp, hx, Instr.box, newVar, newRow, newObj, Sem.run_bind, Sem.run_pure, Result.andThen, go_sem]; rfl)
    (h _ _ rfl (by simp) (alloc_ext w _) (by subst hc; exact heap_alloc_new w _))
/-- A store of one cell into a block of one's own. -/
theorem setCell_blk {b o : Nat} {E : TypeId} {cs : List Value} {v : Value} (hb : Blk w b E cs) : Blk (w.setCell ⟨b, o, none⟩ v) b E (cs.set o v) := by
  unfold Blk at *
  rw [World.setCell]
  simp only [Array.getElem?_modify, if_true, hb, Option.map_some]
  simp
theorem setCell_ext {b o : Nat} {v : Value} : Ext (fun k => k = b) w (w.setCell ⟨b, o, none⟩ v) :=
  ⟨rfl, rfl, rfl, by simp, fun k _ hk => heap_setCell_other w _ k v hk⟩
theorem r_store {b o : Nat} {E : TypeId} {cs : List Value} {v : Value} (hs : ∀ w, (sizeOf T).run P w = .ok 1 w) (hx : ev ρ x = .pointer (some ⟨b, o, none⟩)) (hy : ev ρ y = v) (h1 : oneC v = true) (hb : Blk w b E cs) (ho : o < cs.length)
    (h : ∀ w', w'.heap.size = w.heap.size → Ext (fun k => k = b) w w' → Blk w' b E (cs.set o v) → LW P N ops rest Q ρ w') :
    LW P N ops (⟨none, .store T x y, ty, pos, af, none⟩ :: rest) Q ρ w := by
  have hcell : w.cell? ⟨b, o, none⟩ = some cs[o] := hb.cell (by simp [ho])
  have hfree := hb.free o
  refine LW.skp (w' := w.setCell ⟨b, o, none⟩ v) rfl (fun _ e => by cases e) ?_ (h _ (by simp) setCell_ext (setCell_blk hb))
  cases v <;> simp [oneC] at h1 <;> simp [go_sem, hx, hy, hs, hcell, hfree, store, Sem.run]
end rules
end Go.V
