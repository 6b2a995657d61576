/-
  A function that defers one closure which recovers, in the calculus of the base text, whatever the program. No statement of the claim stands here.
-/
import Derived.Test.YtgcmafgcigipdaaVDraw
import Derived.Recover
namespace Go.V
set_option linter.unusedSimpArgs false
set_option linter.unusedVariables false
open Go.RowKit

section
variable {P : Program}

theorem wpOpsS_of_wpOps {ops : Array Oper} {Q : Exit → Act → List Frame → World → Prop} {cs : List Frame} (hQ : ∀ a w, ¬ Q .outgrown a cs w) : ∀ (l : List Nat) (a : Act) (w : World),
    wpOps P ops (fun e a w => Q e a cs w) l a w → wpOpsS P ops Q l a cs w
  | [], a, w, h => h
  | i :: rest, a, w, h => by
    unfold wpOps at h
    unfold wpOpsS
    cases ho : ops[i]? with
    | none => rw [ho] at h; exact wpOpsS_of_wpOps hQ rest a w h
    | some o =>
      rw [ho] at h
      simp only at h ⊢
      split
      · rename_i hw
        rw [if_pos hw] at h
        rcases h with h | ⟨_, a₀, w₀, hq⟩
        · unfold Oper.wp at h
          split
          · rename_i w' hr
            rw [hr] at h
            exact h.elim
          · rename_i r hr
            generalize (execOp a.eval o).run P w = r' at h
            cases r' with
            | ok n w' =>
              cases n <;> simp only [Oper.upon] at h ⊢ <;>
                first
                  | exact wpOpsS_of_wpOps hQ rest _ _ h
                  | exact Calls.mono h (fun e w'' he => by
                      cases e with
                      | returned v => exact wpOpsS_of_wpOps hQ rest _ _ he
                      | panicked c => exact he
                      | outgrown => obtain ⟨a₀, w₀, hq⟩ := he; exact (hQ _ _ hq).elim)
                  | exact Rows.mono h (fun _ _ he => wpOpsS_of_wpOps hQ rest _ _ he)
            | halt x w' => cases x <;> simp only [Oper.upon] at h ⊢ <;> exact h
        · exact (hQ _ _ hq).elim
      · rename_i hw
        rw [if_neg hw] at h
        exact wpOpsS_of_wpOps hQ rest _ _ h

/-- A deferred closure whose first operation is recover: what it gets, and how the frame below goes on. -/
def Recovers (u : FrameMode) (v : Value) (u' : FrameMode) : Prop :=
  (∃ v0 older, u = .panicking ({ v := v0, recovered := false } :: older) ∧ v = v0 ∧ u' = .panicking ({ v := v0, recovered := true } :: older)) ∨ (u = .returning ∧ v = .nilIface ∧ u' = .returning)

theorem callsD_recover {f : FuncId} {fn : Func} {id n d : Nat} {o0 : Oper} {l : List Oper} {y : Code} {args : List Value} {u u' : FrameMode} {v : Value} {w : World} {R : World → Prop}
    (hf : P.funcs[f]? = some fn) (hb : fn.body = some (.seq (.region id (o0 :: l).toArray false) y)) (hN : fn.ntmps = n) (hl : args.length ≤ n) (hres : fn.results = #[])
    (ho : ∀ ρ w, (execOp ρ o0).run P w = .ok .recover w) (hg : o0.guard = none) (hd : o0.dst = some d) (hdn : Nat.blt d n = true) (hrec : Recovers u v u')
    (h : LW P ⟨n, []⟩ (o0 :: l).toArray l (thenE (fun ρ w' => CW P ⟨n, []⟩ y (fun e _ w' => (e = .normal ∨ e = .ret) ∧ R w') ρ w') (fun _ _ _ => False)) (upd (argE args) d v) w) :
    CallsD P f args.toArray u w fun e u'' w' => e = .returned (.tuple #[]) ∧ u'' = u' ∧ R w' := by
  refine callsD_of_wpS hf hb fun c₀ cs hu => ?_
  have hfits : Fits ⟨n, []⟩ (argE args) { tmps := args.toArray ++ Array.replicate (fn.ntmps - args.toArray.size) undef, defers := [] } := by
    refine ⟨rfl, by simp [hN]; omega, fun t => ?_⟩
    rw [argE_eq]
    simp only [Array.getD_eq_getD_getElem?, List.getD_eq_getElem?_getD, Array.getElem?_append, Array.getElem?_replicate, List.size_toArray, List.getElem?_toArray]
    split
    · rfl
    · rw [List.getElem?_eq_none (by omega)]
      split <;> rfl
  generalize hA : ({ tmps := args.toArray ++ Array.replicate (fn.ntmps - args.toArray.size) undef, defers := [] } : Act) = A at hfits ⊢
  apply wpS_seq
  apply wpS_region
  have hsz : (o0 :: l).toArray.size = l.length + 1 := by simp
  rw [hsz, List.range_eq_range', List.range'_succ]
  unfold wpOpsS
  have h0 : (o0 :: l).toArray[0]? = some o0 := by simp
  rw [h0]
  simp only [Region.wanted, hg, if_true, ho]
  -- what stands behind recover
  have tail : ∀ (cs' : List Frame), cs' = { c₀ with mode := u' } :: cs →
      wpOpsS P (o0 :: l).toArray (Exit.thenS (y.wpS P (bodyPostS P fn c₀ cs fun e u'' w' => e = .returned (.tuple #[]) ∧ u'' = u' ∧ R w')) (bodyPostS P fn c₀ cs fun e u'' w' => e = .returned (.tuple #[]) ∧ u'' = u' ∧ R w')) (List.range' (0 + 1) l.length) (A.put o0.dst v) cs' w := by
    intro cs' hcs
    subst hcs
    refine wpOpsS_of_wpOps ?_ _ _ _ ?_
    · rintro a w' ⟨_, h1, _⟩; cases h1
    · rw [wpOps_eq_wpList l (0 + 1) (fun j => by simp [Nat.add_comm 1 j])]
      have h1 := h (A.put o0.dst v) (by rw [hd]; exact hfits.put (N := ⟨n, []⟩) (Nat.le_of_ble_eq_true hdn) v)
      have mono : ∀ (l' : List Oper) (a : Act) (w' : World), wpList P (o0 :: l).toArray (lift ⟨n, []⟩ (thenE (fun ρ w' => CW P ⟨n, []⟩ y (fun e _ w' => (e = .normal ∨ e = .ret) ∧ R w') ρ w') (fun _ _ _ => False))) l' a w' →
          wpList P (o0 :: l).toArray (fun e a w' => Exit.thenS (y.wpS P (bodyPostS P fn c₀ cs fun e u'' w' => e = .returned (.tuple #[]) ∧ u'' = u' ∧ R w')) (bodyPostS P fn c₀ cs fun e u'' w' => e = .returned (.tuple #[]) ∧ u'' = u' ∧ R w') e a ({ c₀ with mode := u' } :: cs) w') l' a w' := by
        intro l'
        induction l' with
        | nil =>
          intro a w' ⟨ρ, hf', hq⟩
          refine wpS_of_wp (wp_mono (hq a hf') ?_)
          intro e a' w'' ⟨ρ', hf'', he, hR⟩
          have hr0 : (results fn a'.tmps).run P w'' = .ok (.tuple #[]) w'' := by simp [results, hres]
          rcases he with rfl | rfl <;> exact ⟨hf''.1, u', rfl, _, hr0, rfl, rfl, hR⟩
        | cons o r ih =>
          intro a w' hw
          unfold wpList at hw ⊢
          split at hw
          · rename_i hwant
            rw [if_pos hwant]
            rcases hw with hw | ⟨_, a₀, w₀, ρ, _, hq⟩
            · refine .inl ?_
              unfold Oper.wp at *
              generalize (execOp a.eval o).run P w' = res at *
              cases res with
              | ok m w'' =>
                cases m <;> simp only [Oper.upon] at hw ⊢ <;>
                  first
                    | exact ih _ _ hw
                    | exact Calls.mono hw (fun e w3 he => by
                        cases e with
                        | returned v => exact ih _ _ he
                        | panicked c => obtain ⟨_, _, hq⟩ := he; exact hq.elim
                        | outgrown => obtain ⟨_, _, _, _, hq⟩ := he; exact hq.elim)
                    | exact Rows.mono hw (fun _ _ he => ih _ _ he)
              | halt x w'' =>
                cases x <;> simp only [Oper.upon] at hw ⊢
                obtain ⟨_, _, hq⟩ := hw; exact hq.elim
            · exact hq.elim
          · rename_i hwant
            rw [if_neg hwant]
            exact ih _ _ hw
      exact mono l _ _ h1
  rcases hrec with ⟨v0, older, rfl, rfl, rfl⟩ | ⟨rfl, rfl, rfl⟩
  · have : recoverD (c₀ :: cs) = some (v, { c₀ with mode := .panicking ({ v := v, recovered := true } :: older) } :: cs) := by
      simp only [recoverD, hu]
    rw [this]
    exact tail _ rfl
  · have : recoverD (c₀ :: cs) = none := by simp only [recoverD, hu]
    rw [this]
    refine tail _ ?_
    rw [← hu]

/-- The region that makes the closure and defers it. -/
theorem defer_region {id n s : Nat} {caps : Array Operand} {cl : List Value} {ty1 ty2 : TypeId} {pos1 pos2 : String} {af1 af2 : Array Edge} {ρ : Env} {w : World} {Q : Exit → Act → World → Prop} {a : Act} {fi : FuncId}
    (hs : Nat.blt s n = true) (hc : caps.toList.map (ev ρ) = cl) (ha : Fits ⟨n, []⟩ ρ a)
    (h : ∀ a', Fits ⟨n, [{ target := .fn (.func fi) cl.toArray, args := #[] }]⟩ (upd ρ s (.func (.func fi) #[] cl.toArray)) a' → Q .normal a' w) :
    (Code.region id #[⟨some s, .makeFunc (.func fi) #[] caps, ty1, pos1, af1, none⟩, ⟨none, .defer { callee := .value (.tmp s), args := #[], argTypes := #[] }, ty2, pos2, af2, none⟩] false).wp P Q a w := by
  have hcap : caps.map a.eval = cl.toArray := by rw [ha.eval, ← hc, ← Array.toList_map]
  have hp := ha.put (N := ⟨n, []⟩) (Nat.le_of_ble_eq_true hs) (.func (.func fi) #[] cl.toArray)
  refine wp_region_lit (l := [_, _]) ?_
  refine wpList_plain rfl fun K hK => ?_
  unfold Oper.wp
  rw [show (execOp a.eval ⟨some s, .makeFunc (.func fi) #[] caps, ty1, pos1, af1, none⟩).run P w = .ok (.value (.func (.func fi) #[] cl.toArray)) w from by
    simp [execOp, Instr.makeFunc, hcap, Sem.run_pure, Sem.run_bind]]
  refine hK _ _ ?_
  refine wpList_plain rfl fun K2 hK2 => ?_
  unfold Oper.wp
  have he : (a.put (some s) (.func (.func fi) #[] cl.toArray)).eval (.tmp s) = .func (.func fi) #[] cl.toArray := by
    rw [hp.eval]; simp [ev, upd]
  rw [show (execOp (a.put (some s) (.func (.func fi) #[] cl.toArray)).eval ⟨none, .defer { callee := .value (.tmp s), args := #[], argTypes := #[] }, ty2, pos2, af2, none⟩).run P w = .ok (.defer { target := .fn (.func fi) cl.toArray, args := #[] }) w from by
    simp [execOp, resolve, he, Deferred.ofValue, Sem.run_pure, Sem.run_bind]]
  refine hK2 _ _ ?_
  refine wpList_nil (h _ ⟨?_, hp.2.1, hp.2.2⟩)
  have := hp.1
  simp [Act.put] at this ⊢
  exact this

/-- Behind the body: the one deferred closure, and what the frame then leaves. -/
def bodyDE (P : Program) (fn : Func) (R : Ending → World → Prop) (ds : List Deferred) : EPost
  | .normal, ρ, w | .ret, ρ, w => ∀ tmps : Array Value, (∀ t, tmps.getD t undef = ρ t) → Leaves P fn tmps R ds .returning w
  | .panic chain, ρ, w => ∀ tmps : Array Value, (∀ t, tmps.getD t undef = ρ t) → Leaves P fn tmps R ds (.panicking chain) w
  | _, _, _ => False

/-- Three named results in variables. -/
theorem resC3 {fn : Func} {ρ : Env} {tmps : Array Value} {w : World} {s0 s1 s2 T0 T1 T2 p0 p1 p2 E0 E1 E2 : Nat} {v0 v1 v2 : Value} (h : fn.results = #[.cell s0 T0, .cell s1 T1, .cell s2 T2]) (ht : ∀ t, tmps.getD t undef = ρ t)
    (h0 : ρ s0 = .pointer (some ⟨p0, 0, none⟩)) (h1 : ρ s1 = .pointer (some ⟨p1, 0, none⟩)) (h2 : ρ s2 = .pointer (some ⟨p2, 0, none⟩)) (a0 : ∀ w, (isAgg T0).run P w = .ok false w) (a1 : ∀ w, (isAgg T1).run P w = .ok false w) (a2 : ∀ w, (isAgg T2).run P w = .ok false w)
    (b0 : Blk w p0 E0 [v0]) (b1 : Blk w p1 E1 [v1]) (b2 : Blk w p2 E2 [v2]) : (results fn tmps).run P w = .ok (.tuple #[v0, v1, v2]) w := by
  have c0 := b0.cell (o := 0) rfl
  have c1 := b1.cell (o := 0) rfl
  have c2 := b2.cell (o := 0) rfl
  have e0 := (ht s0).trans h0
  have e1 := (ht s1).trans h1
  have e2 := (ht s2).trans h2
  simp only [Array.getD_eq_getD_getElem?] at e0 e1 e2
  simp [results, h, e0, e1, e2, asAddr, loadVar, a0, a1, a2, c0, c1, c2, go_sem]
/-- The one deferred closure is called when the frame returns. -/
theorem leaves_ret {fn : Func} {fi : FuncId} {cl : List Value} {tmps : Array Value} {w : World} {R : Ending → World → Prop} {T : World → Prop} (hi : ∀ l w, (callFunc fi l).run P w = .ok (.enter fi l) w)
    (hc : CallsD P fi cl.toArray .returning w fun e u' w' => e = .returned (.tuple #[]) ∧ u' = .returning ∧ T w') (h : ∀ w', T w' → ∃ v, (results fn tmps).run P w' = .ok v w' ∧ R (.returned v) w') :
    Leaves P fn tmps R [{ target := .fn (.func fi) cl.toArray, args := #[] }] .returning w := by
  refine leaves_cons (f := fi) (args := cl.toArray) (by simp) (by simp [invoke, hi]) ?_
  intro c cs hu
  obtain ⟨e, u', w', fr, ⟨rfl, rfl, hT⟩, r⟩ := hc c cs hu
  exact ⟨_, _, w', fr, h w' hT, r⟩
/-- .. when the frame panics, and is caught. -/
theorem leaves_pan {fn : Func} {fi : FuncId} {cl : List Value} {tmps : Array Value} {w : World} {R : Ending → World → Prop} {T : World → Prop} {v0 : Value} (hi : ∀ l w, (callFunc fi l).run P w = .ok (.enter fi l) w)
    (hc : CallsD P fi cl.toArray (.panicking [{ v := v0, recovered := false }]) w fun e u' w' => e = .returned (.tuple #[]) ∧ u' = .panicking [{ v := v0, recovered := true }] ∧ T w') (h : ∀ w', T w' → ∃ v, (results fn tmps).run P w' = .ok v w' ∧ R (.returned v) w') :
    Leaves P fn tmps R [{ target := .fn (.func fi) cl.toArray, args := #[] }] (.panicking [{ v := v0, recovered := false }]) w := by
  refine leaves_cons (f := fi) (args := cl.toArray) (by simp) (by simp [invoke, hi]) ?_
  intro c cs hu
  obtain ⟨e, u', w', fr, ⟨rfl, rfl, hT⟩, r⟩ := hc c cs hu
  exact ⟨_, _, w', fr, h w' hT, r⟩
/-- A function whose body is: A; the region that defers; C. -/
theorem calls_of_CWD {f : FuncId} {fn : Func} {A C : Code} {id n s : Nat} {caps : Array Operand} {ty1 ty2 : TypeId} {pos1 pos2 : String} {af1 af2 : Array Edge} {l : List Value} {w : World} {R : Ending → World → Prop} {fi : FuncId}
    (hf : P.funcs[f]? = some fn)
    (hb : fn.body = some (.seq A (.seq (.region id #[⟨some s, .makeFunc (.func fi) #[] caps, ty1, pos1, af1, none⟩, ⟨none, .defer { callee := .value (.tmp s), args := #[], argTypes := #[] }, ty2, pos2, af2, none⟩] false) C)))
    (hN : fn.ntmps = n) (hl : l.length ≤ n) (hs : Nat.blt s n = true)
    (h : CW P ⟨n, []⟩ A (thenE (fun ρ w' => ∃ cl, caps.toList.map (ev ρ) = cl ∧ CW P ⟨n, [{ target := .fn (.func fi) cl.toArray, args := #[] }]⟩ C (bodyDE P fn R [{ target := .fn (.func fi) cl.toArray, args := #[] }]) (upd ρ s (.func (.func fi) #[] cl.toArray)) w') (fun _ _ _ => False)) (argE l) w) : Calls P f l.toArray w R := by
  have hfits : Fits ⟨n, []⟩ (argE l) { tmps := l.toArray ++ Array.replicate (fn.ntmps - l.toArray.size) undef, defers := [] } := by
    refine ⟨rfl, by simp [hN]; omega, fun t => ?_⟩
    rw [argE_eq]
    simp only [Array.getD_eq_getD_getElem?, List.getD_eq_getElem?_getD, Array.getElem?_append, Array.getElem?_replicate, List.size_toArray, List.getElem?_toArray]
    split
    · rfl
    · rw [List.getElem?_eq_none (by omega)]
      split <;> rfl
  refine calls_of_wp_defers hf hb (wp_seq (wp_mono (h _ hfits) ?_))
  intro e a w' ⟨ρ, hf', hq⟩
  cases e <;> first | exact hq.elim | skip
  obtain ⟨cl, hcl, hC⟩ := hq
  refine wp_seq (defer_region hs hcl hf' fun a' ha' => ?_)
  refine wp_mono (hC a' ha') ?_
  intro e a'' w'' ⟨ρ', hf'', hq⟩
  cases e with
  | normal => show Leaves P fn a''.tmps R a''.defers .returning w''; rw [hf''.1]; exact hq _ hf''.2.2
  | ret => show Leaves P fn a''.tmps R a''.defers .returning w''; rw [hf''.1]; exact hq _ hf''.2.2
  | panic c => show Leaves P fn a''.tmps R a''.defers (.panicking c) w''; rw [hf''.1]; exact hq _ hf''.2.2
  | exit i => exact hq.elim
  | goto i => exact hq.elim
  | outgrown => exact hq.elim
end
end Go.V
