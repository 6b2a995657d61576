/-
  A calculus of walks over environments (functions from slots to values), sound for the model's own weakest preconditions, whatever the program. No statement of the claim stands here: these are the rules by which the walks of the other texts go.
-/
import Derived.WalkKit
import Derived.KernelRfl
namespace Go.V
set_option linter.unusedSimpArgs false
set_option linter.unusedVariables false
open Go.RowKit

abbrev Env := Nat → Value
abbrev EPost := Exit → Env → World → Prop

def upd (ρ : Env) (d : Nat) (v : Value) : Env := fun t => if t = d then v else ρ t
def updo (ρ : Env) (d : Option Nat) (v : Value) : Env := match d with | some d => upd ρ d v | none => ρ
def ev (ρ : Env) : Operand → Value
  | .tmp t => ρ t
  | .const v => v
  | .global g => .pointer (some ⟨g, 0, none⟩)
  | .func f => .func (.func f) #[] #[]

theorem upd_hit (ρ : Env) (d : Nat) (v : Value) : upd ρ d v d = v := by simp [upd]
theorem upd_miss (ρ : Env) (d t : Nat) (v : Value) (h : t ≠ d) : upd ρ d v t = ρ t := by simp [upd, h]

structure Fr where
  n : Nat
  ds : List Deferred

def Fits (N : Fr) (ρ : Env) (a : Act) : Prop := a.defers = N.ds ∧ a.tmps.size = N.n ∧ ∀ t, a.tmps.getD t undef = ρ t
def lift (N : Fr) (Q : EPost) : Exit → Act → World → Prop := fun e a w => ∃ ρ, Fits N ρ a ∧ Q e ρ w

def CW (P : Program) (N : Fr) (c : Code) (Q : EPost) (ρ : Env) (w : World) : Prop := ∀ a, Fits N ρ a → c.wp P (lift N Q) a w
def LW (P : Program) (N : Fr) (ops : Array Oper) (l : List Oper) (Q : EPost) (ρ : Env) (w : World) : Prop :=
  ∀ a, Fits N ρ a → wpList P ops (lift N Q) l a w

theorem Fits.eval {N : Fr} {ρ : Env} {a : Act} (h : Fits N ρ a) : a.eval = ev ρ := by
  funext x
  cases x with
  | tmp t => exact h.2.2 t
  | _ => rfl

theorem Fits.put {N : Fr} {ρ : Env} {a : Act} (h : Fits N ρ a) {d : Nat} (hd : d < N.n) (v : Value) : Fits N (upd ρ d v) (a.put (some d) v) := by
  refine ⟨h.1, by simp [Act.put, h.2.1], fun t => ?_⟩
  have hs : d < a.tmps.size := by rw [h.2.1]; exact hd
  have ht := h.2.2 t
  simp only [Act.put, upd]
  by_cases e : t = d
  · subst e; simp [hs]
  · rw [if_neg e, ← ht]
    simp only [Array.getD_eq_getD_getElem?]
    rw [Array.getElem?_setIfInBounds_ne (fun h => e h.symm)]

theorem Fits.puto {N : Fr} {ρ : Env} {a : Act} (h : Fits N ρ a) {d : Option Nat} (hd : ∀ x, d = some x → x < N.n) (v : Value) : Fits N (updo ρ d v) (a.put d v) := by
  cases d with
  | none => exact h
  | some d => exact h.put (hd d rfl) v

/-! ### Posts -/
def thenE (K : Env → World → Prop) (Q : EPost) : EPost
  | .normal, ρ, w => K ρ w
  | e, ρ, w => Q e ρ w
def blockE (id : Nat) (Q : EPost) : EPost
  | .exit i, ρ, w => if i = id then Q .normal ρ w else Q (.exit i) ρ w
  | e, ρ, w => Q e ρ w

theorem CW.mono {P : Program} {N : Fr} {c : Code} {Q Q' : EPost} {ρ : Env} {w : World} (h : CW P N c Q ρ w) (hq : ∀ e ρ w, Q e ρ w → Q' e ρ w) : CW P N c Q' ρ w :=
  fun a ha => wp_mono (h a ha) fun e _ w ⟨ρ', hf, hQ⟩ => ⟨ρ', hf, hq e ρ' w hQ⟩

theorem CW.seq {P : Program} {N : Fr} {x y : Code} {Q : EPost} {ρ : Env} {w : World}
    (h : ∀ K : Env → World → Prop, (∀ ρ w, CW P N y Q ρ w → K ρ w) → CW P N x (thenE K Q) ρ w) : CW P N (.seq x y) Q ρ w := by
  intro a ha
  refine wp_seq (wp_mono (h _ (fun _ _ h => h) a ha) ?_)
  intro e a' w' ⟨ρ', hf, hQ⟩
  cases e <;> first | exact hQ a' hf | exact ⟨ρ', hf, hQ⟩

theorem CW.cond {P : Program} {N : Fr} {c : Operand} {x y : Code} {Q : EPost} {ρ : Env} {w : World} {b : Bool} (hc : ev ρ c = .bool b)
    (ht : b = true → CW P N x Q ρ w) (hf : b = false → CW P N y Q ρ w) : CW P N (.cond c x y) Q ρ w := by
  intro a ha
  refine wp_cond_split (t := b) (by rw [ha.eval]; exact hc) (fun h => ht h a ha) (fun h => hf h a ha)

theorem CW.condT {P : Program} {N : Fr} {c : Operand} {x y : Code} {Q : EPost} {ρ : Env} {w : World} {b : Bool} (hc : ev ρ c = .bool b) (hb : b = true)
    (ht : CW P N x Q ρ w) : CW P N (.cond c x y) Q ρ w := CW.cond hc (fun _ => ht) (fun h => by rw [hb] at h; cases h)
theorem CW.condF {P : Program} {N : Fr} {c : Operand} {x y : Code} {Q : EPost} {ρ : Env} {w : World} {b : Bool} (hc : ev ρ c = .bool b) (hb : b = false)
    (hf : CW P N y Q ρ w) : CW P N (.cond c x y) Q ρ w := CW.cond hc (fun h => by rw [hb] at h; cases h) (fun _ => hf)

theorem CW.block {P : Program} {N : Fr} {id : Nat} {c : Code} {Q : EPost} {ρ : Env} {w : World} (h : CW P N c (blockE id Q) ρ w) : CW P N (.block id c) Q ρ w := by
  intro a ha
  refine wp_block (wp_mono (h a ha) ?_)
  intro e a' w' ⟨ρ', hf, hQ⟩
  cases e <;> first
    | exact ⟨ρ', hf, hQ⟩
    | (simp only [Exit.inBlock, blockE] at hQ ⊢; split <;> rename_i hid <;> simp only [hid, if_true, if_false] at hQ <;> exact ⟨ρ', hf, hQ⟩)

theorem CW.skip {P : Program} {N : Fr} {Q : EPost} {ρ : Env} {w : World} (h : Q .normal ρ w) : CW P N .skip Q ρ w := fun _ ha => wp_skip ⟨ρ, ha, h⟩
theorem CW.label {P : Program} {N : Fr} {l : Nat} {Q : EPost} {ρ : Env} {w : World} (h : Q .normal ρ w) : CW P N (.label l) Q ρ w := fun _ ha => wp_label ⟨ρ, ha, h⟩
theorem CW.exit {P : Program} {N : Fr} {id : Nat} {Q : EPost} {ρ : Env} {w : World} (h : Q (.exit id) ρ w) : CW P N (.exit id) Q ρ w := fun _ ha => wp_exit ⟨ρ, ha, h⟩
theorem CW.ret {P : Program} {N : Fr} {Q : EPost} {ρ : Env} {w : World} (h : Q .ret ρ w) : CW P N .ret Q ρ w := fun _ ha => wp_ret ⟨ρ, ha, h⟩

theorem CW.loop {P : Program} {N : Fr} {c : Code} {Q : EPost} {ρ : Env} {w : World} (I : Nat → Env → World → Prop) (n : Nat) (h0 : I n ρ w)
    (round : ∀ n ρ w, I n ρ w → CW P N c (thenE (fun ρ' w' => ∃ m, m < n ∧ I m ρ' w') Q) ρ w) : CW P N (.loop c) Q ρ w := by
  intro a ha b k cs
  have key : ∀ n ρ w a, I n ρ w → Fits N ρ a →
      ∃ e a' w', lift N Q e a' w' ∧ Arrives P (lone (b.at a (.code c :: .inLoop c :: k)) cs w) b k cs e a' w' := by
    intro n
    induction n using Nat.strongRecOn with
    | _ n ih =>
      intro ρ w a hI ha
      obtain ⟨e, a₁, w₁, ⟨ρ₁, hf₁, hq⟩, harr⟩ := round n ρ w hI a ha b (.inLoop c :: k) cs
      cases e with
      | normal =>
        obtain ⟨m, hm, hI₁⟩ := hq
        obtain ⟨e₂, a₂, w₂, hq₂, harr₂⟩ := ih m hm ρ₁ w₁ a₁ hI₁ hf₁
        exact ⟨e₂, a₂, w₂, hq₂, .of_steps (Steps.trans harr (.one step_inLoop)) harr₂⟩
      | exit id => exact ⟨_, a₁, w₁, ⟨ρ₁, hf₁, hq⟩, .pass (x := .inLoop c) rfl (fun _ _ => .inl (by simp)) harr⟩
      | goto l => exact ⟨_, a₁, w₁, ⟨ρ₁, hf₁, hq⟩, .pass (x := .inLoop c) rfl (fun _ _ => .inl (by simp)) harr⟩
      | ret => exact ⟨_, a₁, w₁, ⟨ρ₁, hf₁, hq⟩, .pass (x := .inLoop c) rfl (fun _ _ => .inl (by simp)) harr⟩
      | panic ch => exact ⟨_, a₁, w₁, ⟨ρ₁, hf₁, hq⟩, .pass (x := .inLoop c) rfl (fun _ _ => .inl (by simp)) harr⟩
      | outgrown => exact ⟨_, a₁, w₁, ⟨ρ₁, hf₁, hq⟩, .pass (x := .inLoop c) rfl (fun _ _ => .inl (by simp)) harr⟩
  obtain ⟨e, a', w', hq, harr⟩ := key n ρ w a h0 ha
  exact ⟨e, a', w', hq, .of_steps (.one step_loop) harr⟩

/-! ### A body -/
def resE (P : Program) (fn : Func) (ρ : Env) (w : World) (v : Value) : Prop := ∀ tmps : Array Value, (∀ t, tmps.getD t undef = ρ t) → (results fn tmps).run P w = .ok v w
def bodyE (P : Program) (fn : Func) (R : Ending → World → Prop) : EPost
  | .normal, ρ, w | .ret, ρ, w => ∃ v, resE P fn ρ w v ∧ R (.returned v) w
  | .panic chain, _, w => R (.panicked chain) w
  | _, _, _ => False

def bot : Env := fun _ => undef
def argFrom (k : Nat) : List Value → Env
  | [] => bot
  | v :: r => upd (argFrom (k + 1) r) k v
def argE (l : List Value) : Env := argFrom 0 l
theorem argFrom_eq : ∀ (l : List Value) (k t : Nat), k ≤ t → argFrom k l t = l.getD (t - k) undef
  | [], k, t, _ => by simp [argFrom, bot]
  | v :: r, k, t, h => by
    simp only [argFrom, upd]
    by_cases e : t = k
    · subst e; simp
    · rw [if_neg e, argFrom_eq r (k + 1) t (by omega), show t - k = (t - (k + 1)) + 1 from by omega]; simp
theorem argE_eq (l : List Value) (t : Nat) : argE l t = l.getD t undef := argFrom_eq l 0 t (Nat.zero_le _)

theorem thenE_norm {K : Env → World → Prop} {Q : EPost} {ρ : Env} {w : World} (h : K ρ w) : thenE K Q .normal ρ w := h
theorem thenE_exit {K : Env → World → Prop} {Q : EPost} {ρ : Env} {w : World} {i : Nat} (h : Q (.exit i) ρ w) : thenE K Q (.exit i) ρ w := h
theorem thenE_ret {K : Env → World → Prop} {Q : EPost} {ρ : Env} {w : World} (h : Q .ret ρ w) : thenE K Q .ret ρ w := h
theorem thenE_pan {K : Env → World → Prop} {Q : EPost} {ρ : Env} {w : World} {c : List PanicEntry} (h : Q (.panic c) ρ w) : thenE K Q (.panic c) ρ w := h
theorem blockE_norm {Q : EPost} {ρ : Env} {w : World} {i : Nat} (h : Q .normal ρ w) : blockE i Q .normal ρ w := h
theorem blockE_hit {Q : EPost} {ρ : Env} {w : World} {i : Nat} (h : Q .normal ρ w) : blockE i Q (.exit i) ρ w := by simp only [blockE, if_true]; exact h
theorem blockE_miss {Q : EPost} {ρ : Env} {w : World} {i j : Nat} (hij : Nat.beq j i = false) (h : Q (.exit j) ρ w) : blockE i Q (.exit j) ρ w := by
  simp only [blockE]; rw [if_neg (fun e => by subst e; simp at hij)]; exact h
theorem blockE_ret {Q : EPost} {ρ : Env} {w : World} {i : Nat} (h : Q .ret ρ w) : blockE i Q .ret ρ w := h
theorem blockE_pan {Q : EPost} {ρ : Env} {w : World} {i : Nat} {c : List PanicEntry} (h : Q (.panic c) ρ w) : blockE i Q (.panic c) ρ w := h

theorem calls_of_CW {P : Program} {f : FuncId} {fn : Func} {c : Code} {l : List Value} {w : World} {R : Ending → World → Prop} {n : Nat}
    (hf : P.funcs[f]? = some fn) (hb : fn.body = some c) (hN : fn.ntmps = n) (hl : l.length ≤ n)
    (h : CW P ⟨n, []⟩ c (bodyE P fn R) (argE l) w) : Calls P f l.toArray w R := by
  refine calls_of_wp hf hb (wp_mono (h _ ⟨rfl, ?_, ?_⟩) ?_)
  · simp [hN]; omega
  · intro t
    rw [argE_eq]
    simp only [Array.getD_eq_getD_getElem?, List.getD_eq_getElem?_getD, Array.getElem?_append, Array.getElem?_replicate, List.size_toArray, List.getElem?_toArray]
    split
    · rfl
    · rename_i hlt
      rw [List.getElem?_eq_none (by omega)]
      split <;> rfl
  · intro e a' w' ⟨ρ', hf', hQ⟩
    cases e with
    | normal => obtain ⟨v, hr, hR⟩ := hQ; exact ⟨hf'.1, v, hr _ hf'.2.2, hR⟩
    | ret => obtain ⟨v, hr, hR⟩ := hQ; exact ⟨hf'.1, v, hr _ hf'.2.2, hR⟩
    | panic ch => exact ⟨hf'.1, hQ⟩
    | exit i => exact hQ.elim
    | goto i => exact hQ.elim
    | outgrown => exact hQ.elim

theorem resE1 {P : Program} {fn : Func} {ρ : Env} {w : World} {s : Nat} (h : fn.results = #[.tmp s]) : resE P fn ρ w (ρ s) := fun tmps ht => by
  rw [← ht]; simp [results, h]
theorem resE0 {P : Program} {fn : Func} {ρ : Env} {w : World} (h : fn.results = #[]) : resE P fn ρ w (.tuple #[]) := fun tmps _ => by simp [results, h]
theorem resE2 {P : Program} {fn : Func} {ρ : Env} {w : World} {s t : Nat} (h : fn.results = #[.tmp s, .tmp t]) : resE P fn ρ w (.tuple #[ρ s, ρ t]) := fun tmps ht => by
  rw [← ht, ← ht]; simp [results, h]
theorem resE3 {P : Program} {fn : Func} {ρ : Env} {w : World} {s t u : Nat} (h : fn.results = #[.tmp s, .tmp t, .tmp u]) : resE P fn ρ w (.tuple #[ρ s, ρ t, ρ u]) := fun tmps ht => by
  rw [← ht, ← ht, ← ht]; simp [results, h]

theorem ret0 {P : Program} {fn : Func} {R : Ending → World → Prop} {ρ : Env} {w : World} (h : fn.results = #[]) (hR : R (.returned (.tuple #[])) w) : bodyE P fn R .ret ρ w := ⟨_, resE0 h, hR⟩
theorem end0 {P : Program} {fn : Func} {R : Ending → World → Prop} {ρ : Env} {w : World} (h : fn.results = #[]) (hR : R (.returned (.tuple #[])) w) : bodyE P fn R .normal ρ w := ⟨_, resE0 h, hR⟩
theorem ret1 {P : Program} {fn : Func} {R : Ending → World → Prop} {ρ : Env} {w : World} {s : Nat} {u : Value} (h : fn.results = #[.tmp s]) (hu : ρ s = u) (hR : R (.returned u) w) : bodyE P fn R .ret ρ w := ⟨_, resE1 h, by rw [hu]; exact hR⟩
theorem ret2 {P : Program} {fn : Func} {R : Ending → World → Prop} {ρ : Env} {w : World} {s t : Nat} {u v : Value} (h : fn.results = #[.tmp s, .tmp t]) (hu : ρ s = u) (hv : ρ t = v) (hR : R (.returned (.tuple #[u, v])) w) : bodyE P fn R .ret ρ w := ⟨_, resE2 h, by rw [hu, hv]; exact hR⟩
theorem ret3 {P : Program} {fn : Func} {R : Ending → World → Prop} {ρ : Env} {w : World} {s t r : Nat} {u v x : Value} (h : fn.results = #[.tmp s, .tmp t, .tmp r]) (hu : ρ s = u) (hv : ρ t = v) (hx : ρ r = x) (hR : R (.returned (.tuple #[u, v, x])) w) : bodyE P fn R .ret ρ w := ⟨_, resE3 h, by rw [hu, hv, hx]; exact hR⟩

/-! ### Operations -/
section ops
variable {P : Program} {N : Fr} {ops : Array Oper} {rest : List Oper} {Q : EPost} {ρ : Env} {w w' : World}

theorem CW.region {id : Nat} {l : List Oper} (h : LW P N l.toArray l Q ρ w) : CW P N (.region id l.toArray false) Q ρ w :=
  fun a ha => wp_region_lit (h a ha)
theorem LW.nil (h : Q .normal ρ w) : LW P N ops [] Q ρ w := fun _ ha => wpList_nil ⟨ρ, ha, h⟩
theorem LW.done {K : Env → World → Prop} (h : K ρ w) : LW P N ops [] (thenE K Q) ρ w := LW.nil h

/-- An operation without a guard that yields a value. -/
theorem LW.val {o : Oper} {v : Value} (hg : o.guard = none) (hd : ∀ x, o.dst = some x → x < N.n) (hr : (execOp (ev ρ) o).run P w = .ok (.value v) w')
    (h : LW P N ops rest Q (updo ρ o.dst v) w') : LW P N ops (o :: rest) Q ρ w := fun a ha =>
  wpList_plain hg fun K hK => by
    unfold Oper.wp
    rw [ha.eval, hr]
    exact hK _ _ (h _ (ha.puto hd v))
theorem LW.skp {o : Oper} (hg : o.guard = none) (hd : ∀ x, o.dst = some x → x < N.n) (hr : (execOp (ev ρ) o).run P w = .ok .skip w')
    (h : LW P N ops rest Q (updo ρ o.dst undef) w') : LW P N ops (o :: rest) Q ρ w := fun a ha =>
  wpList_plain hg fun K hK => by
    unfold Oper.wp
    rw [ha.eval, hr]
    exact hK _ _ (h _ (ha.puto hd undef))

/-- A call of a function. -/
theorem LW.enter {o : Oper} {f : FuncId} {args : Array Value} (hg : o.guard = none) (hd : ∀ x, o.dst = some x → x < N.n) (hr : (execOp (ev ρ) o).run P w = .ok (.enter f args) w)
    {R : Ending → World → Prop} (hc : Calls P f args w R)
    (h : ∀ e w', R e w' → ∃ v, e = .returned v ∧ LW P N ops rest Q (updo ρ o.dst v) w') : LW P N ops (o :: rest) Q ρ w := fun a ha =>
  wpList_plain hg fun K hK => by
    unfold Oper.wp
    rw [ha.eval, hr]
    refine hc.mono fun e w' he => ?_
    obtain ⟨v, rfl, hv⟩ := h e w' he
    exact hK _ _ (hv _ (ha.puto hd v))
/-- A panic of the text's own or of the run-time. -/
theorem LW.pan {o : Oper} {v : Value} (hg : o.guard = none) (hr : (execOp (ev ρ) o).run P w = .halt (.panic v) w')
    (h : Q (.panic [{ v, recovered := false }]) ρ w') : LW P N ops (o :: rest) Q ρ w := fun a ha =>
  wpList_plain hg fun K hK => by
    unfold Oper.wp
    rw [ha.eval, hr]
    exact ⟨ρ, ha, h⟩

theorem yielded_eq {a : Act} (ha : Fits N ρ a) {j t : Nat} {b : Bool} (hj : (ops[j]?).bind (·.dst) = some t) (hb : ρ t = .bool b) : yielded ops a.tmps j = some b := by
  unfold yielded
  rw [hj]
  have h := ha.2.2 t
  rw [hb] at h
  simp only [Option.bind_some]
  rw [Array.getD_eq_getD_getElem?] at h
  cases h' : a.tmps[t]? with
  | none => rw [h'] at h; simp [undef] at h
  | some x => rw [h'] at h; simp at h; subst h; rfl

/-- A guard that says yes is struck; one that says no passes the operation over. -/
theorem LW.want {d : Option Nat} {op : Op} {ty : TypeId} {pos : String} {af : Array Edge} {j t : Nat} {want b : Bool} (hj : (ops[j]?).bind (·.dst) = some t) (hb : ρ t = .bool b) (hw : b = want)
    (h : LW P N ops (⟨d, op, ty, pos, af, none⟩ :: rest) Q ρ w) : LW P N ops (⟨d, op, ty, pos, af, some (j, want)⟩ :: rest) Q ρ w := by
  intro a ha
  have h1 := h a ha
  have hy := yielded_eq ha hj hb
  unfold wpList at h1 ⊢
  simp only [Region.wanted, if_true] at h1
  simp only [Region.wanted, hy, hw, beq_self_eq_true, if_true]
  exact h1
theorem LW.skip {d : Option Nat} {op : Op} {ty : TypeId} {pos : String} {af : Array Edge} {j t : Nat} {want b : Bool} (hj : (ops[j]?).bind (·.dst) = some t) (hd : ∀ x, d = some x → x < N.n) (hb : ρ t = .bool b) (hw : b = !want)
    (h : LW P N ops rest Q (updo ρ d undef) w) : LW P N ops (⟨d, op, ty, pos, af, some (j, want)⟩ :: rest) Q ρ w := by
  intro a ha
  have hy := yielded_eq ha hj hb
  refine wpList_skip ?_ (h _ (ha.puto hd undef))
  simp only [Region.wanted, hy, hw]
  cases want <;> rfl
end ops

end Go.V
