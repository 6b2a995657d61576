/-
  One operation, evaluated; an ordered region; a region that draws its order, by its plan. No statement of the claim stands here: these are rules, whatever the program
-/
import Derived.Test.YtgmmbdmdimkfjaaGreatPI09
namespace Go.V
set_option linter.unusedSimpArgs false
set_option linter.unusedVariables false
open Go.RowKit
section
variable {P : Program} {A : NM} {e : AEnv} {ρ : Env} {U : Nat → Prop} {w0 w : World} {S S' : AS}
/-- A slice cut beyond its length, where it is known to have so much room. -/
def sliceB (P : Program) (e : AEnv) (S : AS) (T : TypeId) (a : AV) (lo hi mx : Option Operand) : Option AV := match a with
  | .sl n o len none s => match S.get n with
    | some (.cells cs _) => bif Nat.ble o cs.length then sliceA P e T (some ((cs.length - o) / s)) (.sl n o len none s) lo hi mx else none
    | _ => none
  | _ => none
theorem sliceB_ok {T : TypeId} {x : Operand} {lo hi mx : Option Operand} {a r : AV} {dd : Option Nat} {ty : TypeId} {pos : String} {af : Array Edge} {gg : Option (Nat × Bool)} (K : RE A e ρ) (H : RW U w0 A S w) (hx : RV A a (ev ρ x)) (h : sliceB P e S T a lo hi mx = some r) : ∃ v, RV A r v ∧ (execOp (ev ρ) ⟨dd, .slice T x lo hi mx, ty, pos, af, gg⟩).run P w = .ok (.value v) w := by
  unfold sliceB at h
  split at h
  · rename_i n o len s
    split at h
    · rename_i cs E hS
      cases hb : Nat.ble o cs.length with
      | false => rw [hb] at h; cases h
      | true =>
        rw [hb, cond_true] at h
        have hb := Nat.le_of_ble_eq_true hb
        obtain ⟨v, h1, h2⟩ := sliceA_ok (dd := dd) (ty := ty) (pos := pos) (af := af) (gg := gg) K hx (fun k hk n' o' len' s' ha b p z hA => by
          cases ha
          cases hk
          obtain ⟨b', p', z', c, hA', _, _, hl, _⟩ := H.obj n _ hS
          rw [hA] at hA'; cases hA'
          have := Nat.div_mul_le_self (cs.length - o) s
          omega) h
        exact ⟨v, h1, h2 w⟩
    · cases h
  · cases h
/-- What an operation that looks at memory, but leaves it as it is, yields. -/
def readA (P : Program) (e : AEnv) (S : AS) (op : Op) : Option AV := match op with
  | .load T x => match aop e x with
    | some a => loadA P S T a
    | none => none
  | .lookup T x k ok => match aop e x, aop e k with
    | some a, some b => lookupA P S T a b ok
    | _, _ => none
  | .convert T T2 x => match aop e x with
    | some a => b2sA P S T T2 a
    | none => none
  | .slice T x lo hi mx => match aop e x with
    | some a => sliceB P e S T a lo hi mx
    | none => none
  | .entry x => match aop e x with
    | some a => entryA S a
    | none => none
  | .call ⟨.builtin .len, ⟨[x]⟩, ⟨[T]⟩⟩ => match aop e x with
    | some a => lenMapA P S T a
    | none => none
  | _ => none
theorem readA_ok {o : Oper} {r : AV} (K : RE A e ρ) (H : RW U w0 A S w) (h : readA P e S o.op = some r) : ∃ v, RV A r v ∧ (execOp (ev ρ) o).run P w = .ok (.value v) w := by
  obtain ⟨dd, op, ty, pos, af, gg⟩ := o
  simp only at h
  unfold readA at h
  split at h
  · split at h
    · rename_i h1; exact loadA_ok H (aop_ok K h1) h
    · cases h
  · split at h
    · rename_i h1 h2; exact lookupA_ok H (aop_ok K h1) (aop_ok K h2) h
    · cases h
  · split at h
    · rename_i h1; exact b2sA_ok H (aop_ok K h1) h
    · cases h
  · split at h
    · rename_i h1; exact sliceB_ok K H (aop_ok K h1) h
    · cases h
  · split at h
    · rename_i h1; exact entryA_ok H (aop_ok K h1) h
    · cases h
  · split at h
    · rename_i h1; exact lenMapA_ok H (aop_ok K h1) h
    · cases h
  · cases h
/-- What an operation that writes memory yields, and leaves. -/
def writeA (P : Program) (e : AEnv) (S : AS) (op : Op) : Option (Option AV × AS) := match op with
  | .store T x y => match aop e x, aop e y with
    | some a, some b => match storeA P S T a b with
      | some S' => some (none, S')
      | none => none
    | _, _ => none
  | .mapUpdate T x y z => match aop e x, aop e y, aop e z with
    | some a, some b, some c => match mapUpdateA P S T a b c with
      | some S' => some (none, S')
      | none => none
    | _, _, _ => none
  | op => match (match op with
    | .alloc T => allocA P S T
    | .box T x => match aop e x with
      | some a => boxA S T a
      | none => none
    | .buildSlice T len parts => buildSliceA P e S T len parts.toList
    | .makeSlice T x y => match aop e x, aop e y with
      | some a, some b => makeSliceA P S T a b
      | _, _ => none
    | .makeMap _ none => makeMapA S
    | .range T x => match aop e x with
      | some a => rangeA P S T a
      | none => none
    | .next x false => match aop e x with
      | some a => nextA S a
      | none => none
    | .call ⟨.builtin .append, ⟨[x, y]⟩, ⟨[T, T2]⟩⟩ => match aop e x, aop e y with
      | some a, some b => orS (appendA P S T T2 a b) (zerosA P S T T2 a b)
      | _, _ => none
    | .call ⟨.builtin .copy, ⟨[x, y]⟩, ⟨[T, T2]⟩⟩ => match aop e x, aop e y with
      | some a, some b => copyA P S T T2 a b
      | _, _ => none
    | .call ⟨.builtin .delete, ⟨[x, y]⟩, ⟨[T, _]⟩⟩ => match aop e x, aop e y with
      | some a, some b => deleteA P S T a b
      | _, _ => none
    | .call ⟨.builtin .clear, ⟨[x]⟩, ⟨[T]⟩⟩ => match aop e x with
      | some a => clearA P S T a
      | none => none
    | _ => none) with
    | some (r, S') => some (some r, S')
    | none => none
def StpO (P : Program) (U : Nat → Prop) (w0 : World) (A : NM) (ρ : Env) (o : Oper) (w : World) (r : Option AV) (S' : AS) : Prop := ∃ B w', A.le B ∧ RW U w0 B S' w' ∧ match r with
  | some a => ∃ v, RV B a v ∧ (execOp (ev ρ) o).run P w = .ok (.value v) w'
  | none => (execOp (ev ρ) o).run P w = .ok .skip w'
theorem Stp.o {o : Oper} {r : AV} (h : Stp P U w0 A ρ o w r S') : StpO P U w0 A ρ o w (some r) S' := by
  obtain ⟨B, v, w', h1, h2, h3, h4⟩ := h
  exact ⟨B, w', h1, h3, v, h2, h4⟩
theorem writeA_ok {o : Oper} {r : Option AV} (K : RE A e ρ) (H : RW U w0 A S w) (h : writeA P e S o.op = some (r, S')) : StpO P U w0 A ρ o w r S' := by
  obtain ⟨dd, op, ty, pos, af, gg⟩ := o
  simp only at h
  unfold writeA at h
  split at h
  · split at h
    · rename_i h1 h2
      split at h
      · rename_i hs
        cases h
        obtain ⟨w', k1, k2⟩ := storeA_ok H (aop_ok K h1) (aop_ok K h2) hs
        exact ⟨A, w', NM.le.refl A, k1, k2⟩
      · cases h
    · cases h
  · split at h
    · rename_i h1 h2 h3
      split at h
      · rename_i hs
        cases h
        obtain ⟨w', k1, k2⟩ := mapUpdateA_ok H (aop_ok K h1) (aop_ok K h2) (aop_ok K h3) hs
        exact ⟨A, w', NM.le.refl A, k1, k2⟩
      · cases h
    · cases h
  · split at h
    · rename_i r' S1 hm
      cases h
      refine Stp.o ?_
      split at hm
      · exact allocA_ok H hm
      · split at hm
        · rename_i h1; exact boxA_ok H (aop_ok K h1) hm
        · cases hm
      · exact buildSliceA_ok H K hm
      · split at hm
        · rename_i h1 h2; exact makeSliceA_ok H (aop_ok K h1) (aop_ok K h2) hm
        · cases hm
      · exact makeMapA_ok H hm
      · split at hm
        · rename_i h1; exact rangeA_ok H (aop_ok K h1) hm
        · cases hm
      · split at hm
        · rename_i h1; exact nextA_ok H (aop_ok K h1) hm
        · cases hm
      · split at hm
        · rename_i h1 h2
          rcases orS_ok hm with hm | hm
          · exact appendA_ok H (aop_ok K h1) (aop_ok K h2) hm
          · exact zerosA_ok H (aop_ok K h1) (aop_ok K h2) hm
        · cases hm
      · split at hm
        · rename_i h1 h2; exact copyA_ok H (aop_ok K h1) (aop_ok K h2) hm
        · cases hm
      · split at hm
        · rename_i h1 h2; exact deleteA_ok H (aop_ok K h1) (aop_ok K h2) hm
        · cases hm
      · split at hm
        · rename_i h1; exact clearA_ok H (aop_ok K h1) hm
        · cases hm
      · cases hm
    · cases h
/-- Calls: what a function answers. -/
abbrev Caller := Nat → List AV → AS → Option (List (AV × AS))
/-- All that comes of any of a list. -/
def bindL {α β : Type} (g : α → Option (List β)) : List α → Option (List β)
  | [] => some []
  | x :: r => match g x, bindL g r with
    | some a, some b => some (a ++ b)
    | _, _ => none
theorem bindL_mem {α β : Type} {g : α → Option (List β)} : ∀ {l : List α} {out : List β}, bindL g l = some out → ∀ x ∈ l, ∃ a, g x = some a ∧ ∀ y ∈ a, y ∈ out
  | [], out, h, x, hx => by cases hx
  | z :: r, out, h, x, hx => by
    unfold bindL at h
    split at h
    · rename_i a b h1 h2
      cases h
      rcases List.mem_cons.1 hx with rfl | hx
      · exact ⟨a, h1, fun y hy => List.mem_append_left _ hy⟩
      · obtain ⟨c, h3, h4⟩ := bindL_mem h2 x hx
        exact ⟨c, h3, fun y hy => List.mem_append_right _ (h4 y hy)⟩
    · cases h
/-- A panic on its way, the slots below it. -/
def panV : AV → Option AV
  | .pan a => some a
  | _ => none
theorem panV_ok {v a : AV} (h : panV v = some a) : v = .pan a := by
  unfold panV at h
  split at h
  · cases h; rfl
  · cases h
def panOf : AEnv → Option (AV × AEnv)
  | [] => none
  | p :: r => match panV p.2 with
    | some a => some (a, r)
    | none => none
theorem panOf_ok {e r : AEnv} {a : AV} (h : panOf e = some (a, r)) : ∃ t, e = (t, .pan a) :: r := by
  unfold panOf at h
  split at h
  · cases h
  · rename_i p q
    split at h
    · rename_i b hb
      cases h
      obtain ⟨t, v⟩ := p
      exact ⟨t, by rw [show v = .pan a from panV_ok hb]⟩
    · cases h
theorem panOf_no {A : NM} {e r : AEnv} {a : AV} {ρ : Env} (h : panOf e = some (a, r)) (K : RE A e ρ) : False := by
  obtain ⟨t, rfl⟩ := panOf_ok h
  have := K t (.pan a) (by simp [aget])
  simp only [RV] at this
def putV (e : AEnv) (d : Option Nat) (v : AV) : AEnv := match panV v with
  | some a => aput e 0 (.pan a)
  | none => aputo e d v
def putR (e : AEnv) (d : Option Nat) : List (AV × AS) → List (AEnv × AS)
  | [] => []
  | o :: r => (putV e d o.1, o.2) :: putR e d r
theorem putR_mem {e : AEnv} {d : Option Nat} : ∀ {l : List (AV × AS)} {o : AV × AS}, o ∈ l → (putV e d o.1, o.2) ∈ putR e d l
  | [], o, h => by cases h
  | p :: r, o, h => by
    rcases List.mem_cons.1 h with rfl | h
    · exact List.mem_cons_self ..
    · exact List.mem_cons_of_mem _ (putR_mem h)
/-- How a call ends. -/
def Ends (B : NM) (a : AV) (en : Ending) : Prop := (∃ v, en = .returned v ∧ RV B a v) ∨ ∃ b v, a = .pan b ∧ en = .panicked [{ v := v, recovered := false }] ∧ RV B b v
def CallsOK (P : Program) (U : Nat → Prop) (w0 : World) (C : Caller) : Prop := ∀ f l S outs, C f l S = some outs → (∀ (l : Array Value) w, (callFunc f l).run P w = .ok (.enter f l) w) ∧
  ∀ A ls w, RVs A l ls → RW U w0 A S w → Calls P f ls.toArray w (fun en w' => ∃ o ∈ outs, ∃ B, A.le B ∧ Ends B o.1 en ∧ RW U w0 B o.2 w')
def callOf (e : AEnv) (op : Op) : Option (Nat × List AV) := match op with
  | .call ⟨.value x, args, _⟩ => match aop e x, aops e args.toList with
    | some (.func (.func f) fs cs), some az => some (f, fs ++ az ++ cs)
    | _, _ => none
  | _ => none
/-- What may panic. -/
def mayPan : Op → Bool
  | .call _ => true
  | .panic _ => true
  | _ => false
def panI (e : AEnv) (S : AS) (a : Option AV) : Option (List (AEnv × AS)) := match a with
  | some (.iface t v) => some [(aput e 0 (.pan (.iface t v)), S)]
  | _ => none
def panA (e : AEnv) (S : AS) (op : Op) : Option (List (AEnv × AS)) := match op with
  | .panic x => panI e S (aop e x)
  | _ => none
theorem panA_ok {A : NM} {e : AEnv} {S : AS} {op : Op} {ρ : Env} {outs : List (AEnv × AS)} (h : panA e S op = some outs) (K : RE A e ρ) : ∃ a, outs = [(aput e 0 (.pan a), S)] ∧ ∃ x t v, op = .panic x ∧ ev ρ x = .iface t v ∧ RV A a (.iface t v) := by
  unfold panA panI at h
  split at h
  · rename_i x
    split at h
    · rename_i t v hx
      cases h
      have h1 := aop_ok K hx
      have h2 := h1
      simp only [RV] at h1
      obtain ⟨u, h1, _⟩ := h1
      exact ⟨_, rfl, _, _, _, rfl, h1, by rw [← h1]; exact h2⟩
    · cases h
  · cases h
/-- A call that returns, or panics. -/
theorem LW.enterP {N : Fr} {ops : Array Oper} {rest : List Oper} {Q : EPost} {ρ : Env} {w : World} {o : Oper} {f : FuncId} {args : Array Value} (hg : o.guard = none) (hd : ∀ x, o.dst = some x → x < N.n) (hr : (execOp (ev ρ) o).run P w = .ok (.enter f args) w)
    {R : Ending → World → Prop} (hc : Calls P f args w R)
    (h : ∀ e w', R e w' → (∃ v, e = .returned v ∧ LW P N ops rest Q (updo ρ o.dst v) w') ∨ ∃ c, e = .panicked c ∧ Q (.panic c) ρ w') : LW P N ops (o :: rest) Q ρ w := fun a ha =>
  wpList_plain hg fun K hK => by
    unfold Oper.wp
    rw [ha.eval, hr]
    refine hc.mono fun e w' he => ?_
    rcases h e w' he with ⟨v, rfl, hv⟩ | ⟨c, rfl, hq⟩
    · exact hK _ _ (hv _ (ha.puto hd v))
    · exact ⟨ρ, ha, hq⟩
/-- What holds where a step panics. -/
def PanTo (U : Nat → Prop) (w0 : World) (A : NM) (Q : EPost) (outs : List (AEnv × AS)) : Prop := ∀ u ∈ outs, ∀ a e', panOf u.1 = some (a, e') → ∀ B ρ' v w', A.le B → RE B e' ρ' → RV B a v → RW U w0 B u.2 w' → Q (.panic [{ v := v, recovered := false }]) ρ' w'
theorem PanTo.up {U : Nat → Prop} {w0 : World} {A B : NM} {Q : EPost} {outs : List (AEnv × AS)} (h : PanTo U w0 A Q outs) (hB : A.le B) : PanTo U w0 B Q outs := fun u hu a e' ha B' ρ' v w' h1 h2 h3 h4 => h u hu a e' ha B' ρ' v w' (hB.trans h1) h2 h3 h4
theorem PanTo.sub {U : Nat → Prop} {w0 : World} {A : NM} {Q : EPost} {outs os : List (AEnv × AS)} (h : PanTo U w0 A Q outs) (hs : ∀ u ∈ os, u ∈ outs) : PanTo U w0 A Q os := fun u hu => h u (hs u hu)
def stepA (C : Caller) (P : Program) (e : AEnv) (S : AS) (o : Oper) : Option (List (AEnv × AS)) := match callOf e o.op with
  | some (f, l) => match C f l S with
    | some outs => some (putR e o.dst outs)
    | none => none
  | none => match opA P e o.op with
    | some r => some [(aputo e o.dst r, S)]
    | none => match readA P e S o.op with
      | some r => some [(aputo e o.dst r, S)]
      | none => match writeA P e S o.op with
        | some (some r, S') => some [(aputo e o.dst r, S')]
        | some (none, S') => some [(aputo e o.dst .und, S')]
        | none => panA e S o.op
theorem RE.putu {A : NM} {e : AEnv} {ρ : Env} {d : Option Nat} (H : RE A e ρ) : RE A (aputo e d .und) (updo ρ d undef) := H.puto (by simp [RV])
theorem stepA_ok {C : Caller} {N : Fr} {ops : Array Oper} {rest : List Oper} {Q : EPost} {o : Oper} {outs : List (AEnv × AS)} (hC : CallsOK P U w0 C) (h : stepA C P e S o = some outs) (hg : o.guard = none) (hd : ∀ x, o.dst = some x → x < N.n) (K : RE A e ρ) (H : RW U w0 A S w) (kp : mayPan o.op = true → PanTo U w0 A Q outs)
    (k : ∀ u ∈ outs, ∀ B ρ' w', A.le B → RE B u.1 ρ' → RW U w0 B u.2 w' → LW P N ops rest Q ρ' w') : LW P N ops (o :: rest) Q ρ w := by
  unfold stepA at h
  split at h
  · rename_i f l hcall
    split at h
    · rename_i os hr
      cases h
      obtain ⟨hc, hR⟩ := hC _ _ _ _ hr
      obtain ⟨dd, op, ty, pos, af, gg⟩ := o
      unfold callOf at hcall
      simp only at hcall hg hd
      split at hcall
      · rename_i x args tys
        split at hcall
        · rename_i f' fs cs az h1 h2
          cases hcall
          have hx := aop_ok K h1
          simp only [RV] at hx
          obtain ⟨xs, ys, hx, hfs, hcs⟩ := hx
          have has := aops_ok K h2
          have hl := (hfs.app has).app hcs
          refine LW.enterP hg hd ?_ (hR A _ w hl H) ?_
          · have hA : args.map (ev ρ) = (args.toList.map (ev ρ)).toArray := by rw [← Array.toList_map]
            simp [execOp, resolve, hx, hc, hA, invoke, Sem.run_bind, Deferred.ofValue]
          · rintro en w' ⟨u, hu, B, h3, ⟨v, rfl, h4⟩ | ⟨b, v, h6, rfl, h4⟩, h5⟩
            · have hp := putR_mem (e := e) (d := dd) hu
              have hn : putV e dd u.1 = aputo e dd u.1 := by
                unfold putV
                cases hpv : panV u.1 with
                | none => rfl
                | some a => rw [panV_ok hpv] at h4; simp only [RV] at h4
              rw [hn] at hp
              exact .inl ⟨v, rfl, k _ hp B _ w' h3 ((K.up h3).puto h4) h5⟩
            · have hp := putR_mem (e := e) (d := dd) hu
              have hn : putV e dd u.1 = aput e 0 (.pan b) := by rw [h6]; rfl
              rw [hn] at hp
              exact .inr ⟨_, rfl, kp rfl _ hp b e rfl B ρ v w' h3 (K.up h3) h4 h5⟩
        · cases hcall
      · cases hcall
    · cases h
  · split at h
    · rename_i r hr
      cases h
      obtain ⟨v, h1, h2⟩ := opA_ok K hr
      exact LW.val hg hd (h2 w) (k _ (List.mem_singleton.2 rfl) A _ w (NM.le.refl A) (K.puto h1) H)
    · split at h
      · rename_i r hr
        cases h
        obtain ⟨v, h1, h2⟩ := readA_ok K H hr
        exact LW.val hg hd h2 (k _ (List.mem_singleton.2 rfl) A _ w (NM.le.refl A) (K.puto h1) H)
      · split at h
        · rename_i r S1 hr
          cases h
          obtain ⟨B, w', h1, h2, v, h3, h4⟩ := writeA_ok K H hr
          exact LW.val hg hd h4 (k _ (List.mem_singleton.2 rfl) B _ w' h1 ((K.up h1).puto h3) h2)
        · rename_i S1 hr
          cases h
          obtain ⟨B, w', h1, h2, h3⟩ := writeA_ok K H hr
          exact LW.skp hg hd h3 (k _ (List.mem_singleton.2 rfl) B _ w' h1 (K.up h1).putu h2)
        · obtain ⟨dd, op, ty, pos, af, gg⟩ := o
          obtain ⟨a, rfl, x, t, v, rfl, hx, hv⟩ := panA_ok h K
          exact LW.pan hg (by simp [go_sem, hx]) (kp rfl _ (List.mem_singleton.2 rfl) a e rfl A ρ _ w (NM.le.refl A) K hv H)
/-! ### The same, found by the operation's kind at once -/
abbrev QF := Program → AEnv → Option AV
abbrev RF := Program → AEnv → AS → Option AV
abbrev WF := Program → AEnv → AS → Option (AV × AS)
abbrev SF := Caller → Program → AEnv → AS → Option Nat → Option (List (AEnv × AS))
def q1 (x : Operand) (g : AV → Option AV) (e : AEnv) : Option AV := match aop e x with
  | some a => g a
  | none => none
def q2 (x y : Operand) (g : AV → AV → Option AV) (e : AEnv) : Option AV := match aop e x, aop e y with
  | some a, some b => g a b
  | _, _ => none
def q3 (x y z : Operand) (g : AV → AV → AV → Option AV) (e : AEnv) : Option AV := match aop e x, aop e y, aop e z with
  | some a, some b, some c => g a b c
  | _, _, _ => none
def qMove (x : Operand) : QF := fun _ e => aop e x
def qPick (c a b : Operand) : QF := fun _ e => q3 c a b pickA e
def qBin (op : BinOp) (T : TypeId) (x y : Operand) (_ : TypeId) : QF := fun P e => q2 x y (binA P op T x y) e
def qUn (op : UnOp) (_ : TypeId) (x : Operand) : QF := fun P e => q1 x (unA P op) e
def qConv (T T2 : TypeId) (x : Operand) : QF := fun P e => q1 x (convA P T T2) e
def qNilCheck (x : Operand) : QF := fun _ e => q1 x nilCheckA e
def qFieldAddr (T : TypeId) (x : Operand) (i : Nat) : QF := fun P e => q1 x (fieldAddrA P T i) e
def qField (T : TypeId) (x : Operand) (i : Nat) : QF := fun P e => q1 x (fieldA P T i) e
def qIndexAddr (T : TypeId) (x i : Operand) : QF := fun P e => q2 x i (fun a j => orA (indexAddrA P T a j) (indexAddrB P T a j)) e
def qIndex (T : TypeId) (x i : Operand) : QF := fun P e => q2 x i (indexA P T) e
def qSlice (T : TypeId) (x : Operand) (lo hi mx : Option Operand) : QF := fun P e => q1 x (fun a => sliceA P e T none a lo hi mx) e
def qExtract (x : Operand) (i : Nat) : QF := fun _ e => q1 x (fun a => extractA a i) e
def qMakeFunc (fn : Fn) (first captured : Array Operand) : QF := fun _ e => match aops e first.toList, aops e captured.toList with
  | some fs, some cs => some (.func fn fs cs)
  | _, _ => none
def qMakeIface (T : TypeId) (x : Operand) : QF := fun P e => q1 x (fun a => match P.concrete T with
  | true => some (.iface T a)
  | false => none) e
def qAssert (x : Operand) (_ T2 : TypeId) (ok : Bool) : QF := fun P e => q1 x (fun a => assertA P T2 a ok) e
def qBuild (T : TypeId) (parts : Array (Nat × Operand)) : QF := fun P e => orA (buildA P e T parts.toList) (buildArrA P e T parts.toList)
def l11 {α : Type} (g : Operand → TypeId → Option α) : List Operand → List TypeId → Option α
  | [x], [T] => g x T
  | _, _ => none
def l2 {α : Type} (g : Operand → Operand → Option α) : List Operand → Option α
  | [x, y] => g x y
  | _ => none
def qLen (args : Array Operand) (tys : Array TypeId) : QF := fun P e => l11 (fun x T => q1 x (lenA P T) e) args.toList tys.toList
def qCap (args : Array Operand) (tys : Array TypeId) : QF := fun P e => l11 (fun x T => q1 x (capA P T) e) args.toList tys.toList
def qMax (args : Array Operand) (_ : Array TypeId) : QF := fun _ e => l2 (fun x y => q2 x y maxA e) args.toList
def qMin (args : Array Operand) (_ : Array TypeId) : QF := fun _ e => l2 (fun x y => q2 x y minA e) args.toList
def qNone : QF := fun _ _ => none
def quietB (b : Builtin) (args : Array Operand) (tys : Array TypeId) : QF := match b with
  | .len => qLen args tys
  | .cap => qCap args tys
  | .max => qMax args tys
  | .min => qMin args tys
  | _ => qNone
def quietC (c : Callee) (args : Array Operand) (tys : Array TypeId) : QF := match c with
  | .builtin b => quietB b args tys
  | _ => qNone
def quietD (op : Op) : QF := match op with
  | .move x => qMove x
  | .assign x => qMove x
  | .pick c a b => qPick c a b
  | .binOp op T x y t => qBin op T x y t
  | .unOp op t x => qUn op t x
  | .convert T T2 x => qConv T T2 x
  | .nilCheck x => qNilCheck x
  | .fieldAddr T x i => qFieldAddr T x i
  | .field T x i => qField T x i
  | .indexAddr T x i => qIndexAddr T x i
  | .index T x i => qIndex T x i
  | .slice T x lo hi mx => qSlice T x lo hi mx
  | .extract x i => qExtract x i
  | .makeFunc fn first captured => qMakeFunc fn first captured
  | .makeInterface T x => qMakeIface T x
  | .typeAssert x t T2 ok => qAssert x t T2 ok
  | .build T parts => qBuild T parts
  | .call c => quietC c.callee c.args c.argTypes
  | _ => qNone
theorem quietD_eq (op : Op) : quietD op P e = opA P e op := by
  cases op <;> first
    | rfl
    | skip
  rename_i c
  obtain ⟨callee, args, tys⟩ := c
  cases callee <;> first
    | rfl
    | skip
  rename_i b
  obtain ⟨l⟩ := args
  obtain ⟨t⟩ := tys
  cases b <;> first
    | rfl
    | (rcases l with _ | ⟨x, _ | ⟨y, _ | ⟨z, l⟩⟩⟩ <;> rcases t with _ | ⟨u, _ | ⟨v, t⟩⟩ <;> rfl)
def rLoad (T : TypeId) (x : Operand) : RF := fun P e S => q1 x (loadA P S T) e
def rLookup (T : TypeId) (x k : Operand) (ok : Bool) : RF := fun P e S => q2 x k (fun a b => lookupA P S T a b ok) e
def rConv (T T2 : TypeId) (x : Operand) : RF := fun P e S => q1 x (b2sA P S T T2) e
def rSlice (T : TypeId) (x : Operand) (lo hi mx : Option Operand) : RF := fun P e S => q1 x (fun a => sliceB P e S T a lo hi mx) e
def rEntry (x : Operand) : RF := fun _ e S => q1 x (entryA S) e
def rLen (args : Array Operand) (tys : Array TypeId) : RF := fun P e S => l11 (fun x T => q1 x (lenMapA P S T) e) args.toList tys.toList
def rNone : RF := fun _ _ _ => none
def readB (b : Builtin) (args : Array Operand) (tys : Array TypeId) : RF := match b with
  | .len => rLen args tys
  | _ => rNone
def readC (c : Callee) (args : Array Operand) (tys : Array TypeId) : RF := match c with
  | .builtin b => readB b args tys
  | _ => rNone
def readD (op : Op) : RF := match op with
  | .load T x => rLoad T x
  | .lookup T x k ok => rLookup T x k ok
  | .convert T T2 x => rConv T T2 x
  | .slice T x lo hi mx => rSlice T x lo hi mx
  | .entry x => rEntry x
  | .call c => readC c.callee c.args c.argTypes
  | _ => rNone
theorem readD_eq (op : Op) : readD op P e S = readA P e S op := by
  cases op <;> first
    | rfl
    | skip
  rename_i c
  obtain ⟨callee, args, tys⟩ := c
  cases callee <;> first
    | rfl
    | skip
  rename_i b
  obtain ⟨l⟩ := args
  obtain ⟨t⟩ := tys
  cases b <;> first
    | rfl
    | (rcases l with _ | ⟨x, _ | ⟨y, l⟩⟩ <;> rcases t with _ | ⟨u, _ | ⟨v, t⟩⟩ <;> rfl)
def sQ (q : QF) : SF := fun _ P e S d => match q P e with
  | some r => some [(aputo e d r, S)]
  | none => none
def sR (q : RF) : SF := fun _ P e S d => match q P e S with
  | some r => some [(aputo e d r, S)]
  | none => none
def sQR (q : QF) (r : RF) : SF := fun _ P e S d => match q P e with
  | some r => some [(aputo e d r, S)]
  | none => match r P e S with
    | some r => some [(aputo e d r, S)]
    | none => none
def sW (g : WF) : SF := fun _ P e S d => match g P e S with
  | some (r, S') => some [(aputo e d r, S')]
  | none => none
def sU (g : Program → AEnv → AS → Option AS) : SF := fun _ P e S d => match g P e S with
  | some S' => some [(aputo e d .und, S')]
  | none => none
def sNone : SF := fun _ _ _ _ _ => none
def sPan (x : Operand) : SF := fun _ _ e S _ => panI e S (aop e x)
def wOne (x : Operand) (g : AV → Option (AV × AS)) (e : AEnv) : Option (AV × AS) := match aop e x with
  | some a => g a
  | none => none
def wTwo (x y : Operand) (g : AV → AV → Option (AV × AS)) (e : AEnv) : Option (AV × AS) := match aop e x, aop e y with
  | some a, some b => g a b
  | _, _ => none
def uStore (T : TypeId) (x y : Operand) : Program → AEnv → AS → Option AS := fun P e S => match aop e x, aop e y with
  | some a, some b => storeA P S T a b
  | _, _ => none
def uMap (T : TypeId) (x y z : Operand) : Program → AEnv → AS → Option AS := fun P e S => match aop e x, aop e y, aop e z with
  | some a, some b, some c => mapUpdateA P S T a b c
  | _, _, _ => none
def wAlloc (T : TypeId) : WF := fun P _ S => allocA P S T
def wBox (T : TypeId) (x : Operand) : WF := fun _ e S => wOne x (boxA S T) e
def wBuildSlice (T : TypeId) (len : Nat) (parts : Array (Nat × Operand)) : WF := fun P e S => buildSliceA P e S T len parts.toList
def wMakeSlice (T : TypeId) (x y : Operand) : WF := fun P e S => wTwo x y (makeSliceA P S T) e
def wMakeMap : WF := fun _ _ S => makeMapA S
def wRange (T : TypeId) (x : Operand) : WF := fun P e S => wOne x (rangeA P S T) e
def wNext (x : Operand) : WF := fun _ e S => wOne x (nextA S) e
def l22 {α : Type} (g : Operand → Operand → TypeId → TypeId → Option α) : List Operand → List TypeId → Option α
  | [x, y], [T, U] => g x y T U
  | _, _ => none
def wAppend (args : Array Operand) (tys : Array TypeId) : WF := fun P e S => l22 (fun x y T T2 => wTwo x y (fun a b => orS (appendA P S T T2 a b) (zerosA P S T T2 a b)) e) args.toList tys.toList
def wCopy (args : Array Operand) (tys : Array TypeId) : WF := fun P e S => l22 (fun x y T T2 => wTwo x y (copyA P S T T2) e) args.toList tys.toList
def wDelete (args : Array Operand) (tys : Array TypeId) : WF := fun P e S => l22 (fun x y T _ => wTwo x y (deleteA P S T) e) args.toList tys.toList
def wClear (args : Array Operand) (tys : Array TypeId) : WF := fun P e S => l11 (fun x T => wOne x (clearA P S T) e) args.toList tys.toList
def stepB (b : Builtin) (args : Array Operand) (tys : Array TypeId) : SF := match b with
  | .len => sQR (qLen args tys) (rLen args tys)
  | .cap => sQ (qCap args tys)
  | .max => sQ (qMax args tys)
  | .min => sQ (qMin args tys)
  | .append => sW (wAppend args tys)
  | .copy => sW (wCopy args tys)
  | .delete => sW (wDelete args tys)
  | .clear => sW (wClear args tys)
  | _ => sNone
def sCall (x : Operand) (args : Array Operand) : SF := fun C P e S d => match aop e x, aops e args.toList with
  | some (.func (.func f) fs cs), some az => (match C f (fs ++ az ++ cs) S with
    | some outs => some (putR e d outs)
    | none => none)
  | _, _ => none
def stepC (c : Callee) (args : Array Operand) (tys : Array TypeId) : SF := match c with
  | .builtin b => stepB b args tys
  | .value x => sCall x args
  | _ => sNone
def stepM (T : TypeId) (r : Option Operand) : SF := match r with
  | none => sW wMakeMap
  | some _ => sNone
def stepN (x : Operand) (b : Bool) : SF := match b with
  | false => sW (wNext x)
  | true => sNone
def stepD (op : Op) : SF := match op with
  | .move x => sQ (qMove x)
  | .assign x => sQ (qMove x)
  | .pick c a b => sQ (qPick c a b)
  | .binOp op T x y t => sQ (qBin op T x y t)
  | .unOp op t x => sQ (qUn op t x)
  | .convert T T2 x => sQR (qConv T T2 x) (rConv T T2 x)
  | .nilCheck x => sQ (qNilCheck x)
  | .fieldAddr T x i => sQ (qFieldAddr T x i)
  | .field T x i => sQ (qField T x i)
  | .indexAddr T x i => sQ (qIndexAddr T x i)
  | .index T x i => sQ (qIndex T x i)
  | .slice T x lo hi mx => sQR (qSlice T x lo hi mx) (rSlice T x lo hi mx)
  | .extract x i => sQ (qExtract x i)
  | .makeFunc fn first captured => sQ (qMakeFunc fn first captured)
  | .makeInterface T x => sQ (qMakeIface T x)
  | .typeAssert x t T2 ok => sQ (qAssert x t T2 ok)
  | .build T parts => sQ (qBuild T parts)
  | .load T x => sR (rLoad T x)
  | .lookup T x k ok => sR (rLookup T x k ok)
  | .entry x => sR (rEntry x)
  | .store T x y => sU (uStore T x y)
  | .mapUpdate T x y z => sU (uMap T x y z)
  | .alloc T => sW (wAlloc T)
  | .box T x => sW (wBox T x)
  | .buildSlice T len parts => sW (wBuildSlice T len parts)
  | .makeSlice T x y => sW (wMakeSlice T x y)
  | .makeMap T r => stepM T r
  | .range T x => sW (wRange T x)
  | .next x b => stepN x b
  | .panic x => sPan x
  | .call c => stepC c.callee c.args c.argTypes
  | _ => sNone
theorem stepD_some {C : Caller} {o : Oper} {r : List (AEnv × AS)} (h : stepD o.op C P e S o.dst = some r) : stepA C P e S o = some r := by
  obtain ⟨d, op, ty, pos, af, g⟩ := o
  simp only at h
  have hq : ∀ {r}, callOf e op = none → sQ (quietD op) C P e S d = some r → stepA C P e S ⟨d, op, ty, pos, af, g⟩ = some r := by
    intro r h2 h3
    unfold stepA
    rw [h2]
    unfold sQ at h3
    rw [quietD_eq] at h3
    split at h3
    · rename_i u hu
      simp only [hu]
      exact h3
    · cases h3
  have hr : ∀ {r}, callOf e op = none → opA P e op = none → sR (readD op) C P e S d = some r → stepA C P e S ⟨d, op, ty, pos, af, g⟩ = some r := by
    intro r h2 h4 h3
    unfold stepA
    rw [h2]
    unfold sR at h3
    rw [readD_eq] at h3
    split at h3
    · rename_i u hu
      simp only [h4, hu]
      exact h3
    · cases h3
  have hqr : ∀ {r}, callOf e op = none → sQR (quietD op) (readD op) C P e S d = some r → stepA C P e S ⟨d, op, ty, pos, af, g⟩ = some r := by
    intro r h2 h3
    unfold stepA
    rw [h2]
    unfold sQR at h3
    rw [readD_eq, quietD_eq] at h3
    split at h3
    · rename_i u hu
      simp only [hu]
      exact h3
    · rename_i hu
      split at h3
      · rename_i u' hu'
        simp only [hu, hu']
        exact h3
      · cases h3
  have hw : ∀ {r} (q : WF), callOf e op = none → opA P e op = none → readA P e S op = none → (∀ u T, q P e S = some (u, T) → writeA P e S op = some (some u, T)) → sW q C P e S d = some r → stepA C P e S ⟨d, op, ty, pos, af, g⟩ = some r := by
    intro r q h2 h4 h5 h6 h3
    unfold stepA
    rw [h2]
    unfold sW at h3
    split at h3
    · rename_i u T hu
      simp only [h4, h5, h6 u T hu]
      exact h3
    · cases h3
  have hu : ∀ {r} (q : Program → AEnv → AS → Option AS), callOf e op = none → opA P e op = none → readA P e S op = none → (∀ T, q P e S = some T → writeA P e S op = some (none, T)) → sU q C P e S d = some r → stepA C P e S ⟨d, op, ty, pos, af, g⟩ = some r := by
    intro r q h2 h4 h5 h6 h3
    unfold stepA
    rw [h2]
    unfold sU at h3
    split at h3
    · rename_i T hu
      simp only [h4, h5, h6 T hu]
      exact h3
    · cases h3
  have wr : ∀ (q : WF), writeA P e S op = (match q P e S with | some (u, T) => some (some u, T) | none => none) → ∀ u T, q P e S = some (u, T) → writeA P e S op = some (some u, T) := by
    intro q hq u T h
    rw [hq, h]
  have cs : ∀ {α : Type} (b : Builtin) (args : Array Operand) (tys : Array TypeId), callOf e (.call ⟨.builtin b, args, tys⟩) = none := fun _ _ _ => rfl
  cases op
  case move x => exact hq rfl h
  case assign x => exact hq rfl h
  case pick => exact hq rfl h
  case binOp => exact hq rfl h
  case unOp => exact hq rfl h
  case convert => exact hqr rfl h
  case nilCheck => exact hq rfl h
  case fieldAddr => exact hq rfl h
  case field => exact hq rfl h
  case indexAddr => exact hq rfl h
  case index => exact hq rfl h
  case slice => exact hqr rfl h
  case extract => exact hq rfl h
  case makeFunc => exact hq rfl h
  case makeInterface => exact hq rfl h
  case typeAssert => exact hq rfl h
  case build => exact hq rfl h
  case load => exact hr rfl rfl h
  case lookup => exact hr rfl rfl h
  case entry => exact hr rfl rfl h
  case store T x y =>
    refine hu _ rfl rfl rfl (fun T' hT => ?_) h
    unfold uStore at hT
    unfold writeA
    split at hT
    · rename_i h1 h2; simp only [h1, h2, hT]
    · cases hT
  case mapUpdate T x y z =>
    refine hu _ rfl rfl rfl (fun T' hT => ?_) h
    unfold uMap at hT
    unfold writeA
    split at hT
    · rename_i h1 h2 h3; simp only [h1, h2, h3, hT]
    · cases hT
  case alloc => exact hw _ rfl rfl rfl (wr _ rfl) h
  case box => exact hw _ rfl rfl rfl (wr _ rfl) h
  case buildSlice => exact hw _ rfl rfl rfl (wr _ rfl) h
  case makeSlice => exact hw _ rfl rfl rfl (wr _ rfl) h
  case makeMap T r =>
    cases r with
    | none => exact hw _ rfl rfl rfl (wr _ rfl) h
    | some _ => cases h
  case range => exact hw _ rfl rfl rfl (wr _ rfl) h
  case next x b =>
    cases b with
    | false => exact hw _ rfl rfl rfl (wr _ rfl) h
    | true => cases h
  case panic x => exact h
  case call c =>
    obtain ⟨callee, args, tys⟩ := c
    cases callee with
    | value x =>
      simp only [stepD, stepC, sCall] at h
      split at h
      · rename_i f fs cs' az h1 h2
        unfold stepA callOf
        simp only [h1, h2]
        exact h
      · cases h
    | invoke x m => cases h
    | builtin b =>
      obtain ⟨l⟩ := args
      obtain ⟨t⟩ := tys
      cases b
      case len => exact hqr rfl h
      case cap => exact hq rfl h
      case max => exact hq rfl h
      case min => exact hq rfl h
      case append =>
        rcases l with _ | ⟨x, _ | ⟨y, _ | ⟨z, l⟩⟩⟩ <;> first | (cases h; done) | skip
        rcases t with _ | ⟨u, _ | ⟨v, _ | ⟨v2, t⟩⟩⟩ <;> first | (cases h; done) | skip
        exact hw _ rfl rfl rfl (wr _ rfl) h
      case copy =>
        rcases l with _ | ⟨x, _ | ⟨y, _ | ⟨z, l⟩⟩⟩ <;> first | (cases h; done) | skip
        rcases t with _ | ⟨u, _ | ⟨v, _ | ⟨v2, t⟩⟩⟩ <;> first | (cases h; done) | skip
        exact hw _ rfl rfl rfl (wr _ rfl) h
      case delete =>
        rcases l with _ | ⟨x, _ | ⟨y, _ | ⟨z, l⟩⟩⟩ <;> first | (cases h; done) | skip
        rcases t with _ | ⟨u, _ | ⟨v, _ | ⟨v2, t⟩⟩⟩ <;> first | (cases h; done) | skip
        exact hw _ rfl rfl rfl (wr _ rfl) h
      case clear =>
        rcases l with _ | ⟨x, _ | ⟨y, l⟩⟩ <;> first | (cases h; done) | skip
        rcases t with _ | ⟨u, _ | ⟨v, t⟩⟩ <;> first | (cases h; done) | skip
        exact hw _ rfl rfl rfl (wr _ rfl) h
      all_goals cases h
  all_goals cases h
/-- What is known of it. -/
def lookB (ks : List (BT × Bool)) : BT → Option Bool
  | .not b => match lookB ks b with
    | some v => some (!v)
    | none => none
  | b => match ks with
    | [] => none
    | p :: r => bif btEq p.1 b then some p.2 else lookR r b
where
  lookR : List (BT × Bool) → BT → Option Bool
    | [], _ => none
    | p :: r, b => bif btEq p.1 b then some p.2 else lookR r b
theorem lookR_ok {σ : Nat → Int} : ∀ {ks : List (BT × Bool)} {b : BT} {v : Bool}, (∀ p ∈ ks, p.1.ev σ = p.2) → lookB.lookR ks b = some v → b.ev σ = v
  | [], b, v, _, h => by cases h
  | p :: r, b, v, H, h => by
    unfold lookB.lookR at h
    cases hb : btEq p.1 b with
    | true =>
      rw [hb] at h
      cases h
      rw [← btEq_ok hb]
      exact H p (List.mem_cons_self ..)
    | false =>
      rw [hb] at h
      exact lookR_ok (fun q hq => H q (List.mem_cons_of_mem _ hq)) h
theorem lookB_ok {σ : Nat → Int} {ks : List (BT × Bool)} (H : ∀ p ∈ ks, p.1.ev σ = p.2) : ∀ {b : BT} {v : Bool}, lookB ks b = some v → b.ev σ = v := by
  intro b
  induction b with
  | not b ih =>
    intro v h
    unfold lookB at h
    split at h
    · rename_i u hu
      cases h
      simp only [BT.ev, ih hu]
    · cases h
  | lss x y =>
    intro v h
    refine lookR_ok H (ks := ks) ?_
    cases ks with
    | nil => cases h
    | cons p r => exact h
  | leq x y =>
    intro v h
    refine lookR_ok H (ks := ks) ?_
    cases ks with
    | nil => cases h
    | cons p r => exact h
  | eql x y =>
    intro v h
    refine lookR_ok H (ks := ks) ?_
    cases ks with
    | nil => cases h
    | cons p r => exact h
  | sym i =>
    intro v h
    refine lookR_ok H (ks := ks) ?_
    cases ks with
    | nil => cases h
    | cons p r => exact h
/-- A slot that is not known is one or the other, if nothing is known of it. -/
def splitB (ks : List (BT × Bool)) (e : AEnv) (t : Nat) (b : BT) : List (AEnv × Bool) := match lookB ks b with
  | some v => [(aput e t (.bool v), v)]
  | none => [(aput e t (.bool true), true), (aput e t (.bool false), false)]
def refA (ks : List (BT × Bool)) (e : AEnv) (t : Nat) (f : Bool → Bool) : Option (List (AEnv × Bool)) := match aget e t with
  | some (.bool b) => some [(e, f b)]
  | some .und => some [(e, false)]
  | some (.bex b) => some ((splitB ks e t b).map fun g => (g.1, f g.2))
  | _ => none
/-- Whether an operation is wanted. -/
def guardA (ops : Array Oper) (ks : List (BT × Bool)) (e : AEnv) (o : Oper) : Option (List (AEnv × Bool)) := match o.guard with
  | none => some [(e, true)]
  | some (j, want) => match ops[j]? with
    | none => none
    | some oj => match oj.dst with
      | none => none
      | some t => refA ks e t (fun b => bEq b want)
theorem bEq_beq (b c : Bool) : bEq b c = (some b == some c) := by cases b <;> cases c <;> rfl
theorem RE.self {A : NM} {e : AEnv} {ρ : Env} (K : RE A e ρ) {t : Nat} {a : AV} (h : RV A a (ρ t)) : RE A (aput e t a) ρ := by
  intro s b hb
  unfold aput aget at hb
  cases hq : Nat.beq t s with
  | true =>
    have := beqT hq; subst this
    simp only [hq, cond_true, Option.some.injEq] at hb
    subst hb; exact h
  | false =>
    simp only [hq, cond_false] at hb
    exact K s b hb
theorem splitB_ok {ks : List (BT × Bool)} {t : Nat} {b : BT} (HF : ∀ p ∈ ks, p.1.ev A.sy = p.2) (K : RE A e ρ) (h : ρ t = .bool (b.ev A.sy)) : ∃ g ∈ splitB ks e t b, RE A g.1 ρ ∧ ρ t = .bool g.2 := by
  unfold splitB
  split
  · rename_i v hv
    rw [lookB_ok HF hv] at h
    exact ⟨_, List.mem_singleton.2 rfl, K.self (by simp only [RV]; exact h), h⟩
  · cases hbe : b.ev A.sy with
    | true =>
      rw [hbe] at h
      exact ⟨_, List.mem_cons_self .., K.self (by simp only [RV]; exact h), h⟩
    | false =>
      rw [hbe] at h
      exact ⟨_, List.mem_cons_of_mem _ (List.mem_singleton.2 rfl), K.self (by simp only [RV]; exact h), h⟩
theorem refA_ok {ks : List (BT × Bool)} {t : Nat} {f : Bool → Bool} {gs : List (AEnv × Bool)} (HF : ∀ p ∈ ks, p.1.ev A.sy = p.2) (K : RE A e ρ) (h : refA ks e t f = some gs) : (∃ b, ρ t = .bool b ∧ ∃ g ∈ gs, RE A g.1 ρ ∧ g.2 = f b) ∨ (ρ t = undef ∧ ∃ g ∈ gs, RE A g.1 ρ ∧ g.2 = false) := by
  unfold refA at h
  split at h
  · rename_i b hb
    have := K t _ hb
    simp only [RV] at this
    cases h
    exact .inl ⟨b, this, _, List.mem_singleton.2 rfl, K, rfl⟩
  · rename_i hb
    have := K t _ hb
    simp only [RV] at this
    cases h
    exact .inr ⟨this, _, List.mem_singleton.2 rfl, K, rfl⟩
  · rename_i b hb
    have hk := K t _ hb
    simp only [RV] at hk
    cases h
    obtain ⟨g, h1, h2, h3⟩ := splitB_ok HF K hk
    exact .inl ⟨g.2, h3, _, List.mem_map.2 ⟨g, h1, rfl⟩, h2, rfl⟩
  · cases h
theorem guardA_ok {ops : Array Oper} {ks : List (BT × Bool)} {o : Oper} {gs : List (AEnv × Bool)} (HF : ∀ p ∈ ks, p.1.ev A.sy = p.2) (K : RE A e ρ) (h : guardA ops ks e o = some gs) : ∃ g ∈ gs, RE A g.1 ρ ∧ Region.wanted o (yE ops ρ) = g.2 := by
  unfold guardA at h
  unfold Region.wanted
  split at h
  · rename_i hg; cases h; rw [hg]; exact ⟨_, List.mem_singleton.2 rfl, K, rfl⟩
  · rename_i j want hg
    rw [hg]
    split at h
    · cases h
    · rename_i oj hj
      split at h
      · cases h
      · rename_i t ht
        have hy : (ops[j]?).bind (·.dst) = some t := by rw [hj]; exact ht
        simp only [yE, hy]
        rcases refA_ok HF K h with ⟨b, hb, g, h1, h2, h3⟩ | ⟨hb, g, h1, h2, h3⟩
        · exact ⟨g, h1, h2, by rw [hb, h3, bEq_beq]⟩
        · exact ⟨g, h1, h2, by rw [hb, h3]; simp [undef]⟩
def fstL : List (AEnv × Bool) → List AEnv
  | [] => []
  | g :: r => g.1 :: fstL r
theorem fstL_mem : ∀ {l : List (AEnv × Bool)} {g : AEnv × Bool}, g ∈ l → g.1 ∈ fstL l
  | [], g, h => by cases h
  | x :: r, g, h => by
    rcases List.mem_cons.1 h with rfl | h
    · exact List.mem_cons_self ..
    · exact List.mem_cons_of_mem _ (fstL_mem h)
/-- A choice by what is not known: one or the other. -/
def forkD (op : Op) : List (BT × Bool) → AEnv → List AEnv := match op with
  | .pick (.tmp t) _ _ => fun ks e => match aget e t with
    | some (.bex b) => fstL (splitB ks e t b)
    | _ => [e]
  | _ => fun _ e => [e]
theorem forkD_ok {op : Op} {ks : List (BT × Bool)} (HF : ∀ p ∈ ks, p.1.ev A.sy = p.2) (K : RE A e ρ) : ∃ e' ∈ forkD op ks e, RE A e' ρ := by
  unfold forkD
  split
  · rename_i t _ _
    split
    · rename_i b hb
      have hk := K t _ hb
      simp only [RV] at hk
      obtain ⟨g, h1, h2, h3⟩ := splitB_ok HF K hk
      exact ⟨g.1, fstL_mem h1, h2⟩
    · exact ⟨e, List.mem_singleton.2 rfl, K⟩
  · exact ⟨e, List.mem_singleton.2 rfl, K⟩
theorem LW.guard {N : Fr} {ops : Array Oper} {rest : List Oper} {Q : EPost} {o : Oper} (hw : Region.wanted o (yE ops ρ) = true) (h : LW P N ops ({ o with guard := none } :: rest) Q ρ w) : LW P N ops (o :: rest) Q ρ w := by
  obtain ⟨d, op, ty, pos, af, g⟩ := o
  intro a ha
  have h1 := h a ha
  unfold wpList at h1 ⊢
  rw [yE_eq ha, if_pos hw]
  simp only [Region.wanted, if_true] at h1
  exact h1
theorem LW.pass {N : Fr} {ops : Array Oper} {rest : List Oper} {Q : EPost} {o : Oper} (hw : Region.wanted o (yE ops ρ) = false) (hd : ∀ x, o.dst = some x → x < N.n) (h : LW P N ops rest Q (updo ρ o.dst undef) w) : LW P N ops (o :: rest) Q ρ w := by
  intro a ha
  refine wpList_skip ?_ (h _ (ha.puto hd undef))
  rw [yE_eq ha]; exact hw
def dstOk (n : Nat) (o : Oper) : Bool := match o.dst with
  | some d => Nat.blt d n
  | none => true
theorem dstOk_ok {n : Nat} {o : Oper} (h : dstOk n o = true) : ∀ x, o.dst = some x → x < n := by
  intro x hx
  unfold dstOk at h
  rw [hx] at h
  exact Nat.le_of_ble_eq_true h
def goOn (b : Bool) (g : AEnv → AS → Option (List (AEnv × AS))) (u : AEnv × AS) : Option (List (AEnv × AS)) := match b with
  | false => g u.1 u.2
  | true => match panOf u.1 with
    | some _ => some [u]
    | none => g u.1 u.2
theorem goOn_no {b : Bool} {g : AEnv → AS → Option (List (AEnv × AS))} {u : AEnv × AS} {a : List (AEnv × AS)} (h : goOn b g u = some a) (hn : panOf u.1 = none) : g u.1 u.2 = some a := by
  unfold goOn at h
  split at h
  · exact h
  · rw [hn] at h; exact h
theorem goOn_pan {g : AEnv → AS → Option (List (AEnv × AS))} {u : AEnv × AS} {a : List (AEnv × AS)} {x : AV × AEnv} (h : goOn true g u = some a) (hp : panOf u.1 = some x) : a = [u] := by
  unfold goOn at h
  simp only [hp] at h
  cases h; rfl
theorem RE.noPan {A : NM} {e : AEnv} {ρ : Env} (K : RE A e ρ) : panOf e = none := by
  cases h : panOf e with
  | none => rfl
  | some x => exact (panOf_no (r := x.2) (a := x.1) h K).elim
theorem PanTo.goOn {op : Op} {Q : EPost} {g : AEnv → AS → Option (List (AEnv × AS))} {us outs : List (AEnv × AS)} (kp : PanTo U w0 A Q outs) (h : bindL (goOn (mayPan op) g) us = some outs) : mayPan op = true → PanTo U w0 A Q us := by
  intro hm u hu a e' hp
  obtain ⟨b, hb, hs⟩ := bindL_mem h u hu
  rw [hm] at hb
  have := goOn_pan hb hp
  subst this
  exact kp u (hs u (List.mem_singleton.2 rfl)) a e' hp
/-- An ordered region. -/
def regA (C : Caller) (P : Program) (ops : Array Oper) : List Oper → AEnv → AS → Option (List (AEnv × AS))
  | [], e, S => some [(e, S)]
  | o :: r, e, S => match guardA ops S.facts e o with
    | some gs => bindL (fun g => match g.2 with
      | true => bindL (fun e1 => match stepD o.op C P e1 S o.dst with
        | some outs => bindL (goOn (mayPan o.op) (regA C P ops r)) outs
        | none => none) (forkD o.op S.facts g.1)
      | false => regA C P ops r (aputo g.1 o.dst .und) S) gs
    | none => none
theorem regA_ok {C : Caller} {N : Fr} {ops : Array Oper} {Q : EPost} (hC : CallsOK P U w0 C) : ∀ {l : List Oper} {A : NM} {e : AEnv} {outs : List (AEnv × AS)} {ρ : Env} {w : World} {S : AS}, regA C P ops l e S = some outs → l.all (dstOk N.n) = true → RE A e ρ → RW U w0 A S w →
    PanTo U w0 A Q outs → (∀ u ∈ outs, ∀ B ρ' w', A.le B → RE B u.1 ρ' → RW U w0 B u.2 w' → Q .normal ρ' w') → LW P N ops l Q ρ w
  | [], A, e, outs, ρ, w, S, h, hd, K, H, _, k => by
    cases h
    exact LW.nil (k _ (List.mem_singleton.2 rfl) A ρ w (NM.le.refl A) K H)
  | o :: r, A, e, outs, ρ, w, S, h, hd, K, H, kp, k => by
    rw [List.all_cons, Bool.and_eq_true] at hd
    unfold regA at h
    split at h
    · rename_i gs hg
      obtain ⟨⟨e1, b⟩, hg1, K1, hw⟩ := guardA_ok H.facts K hg
      obtain ⟨a, ha, hsub⟩ := bindL_mem h _ hg1
      simp only at ha K1 hw
      cases b with
      | true =>
        simp only at ha
        obtain ⟨e2, he2, K2⟩ := forkD_ok (op := o.op) H.facts K1
        obtain ⟨a2, ha2, hsub2⟩ := bindL_mem ha _ he2
        split at ha2
        · rename_i us hs
          refine LW.guard hw (stepA_ok (o := { o with guard := none }) hC (stepD_some (o := { o with guard := none }) hs) rfl (dstOk_ok hd.1) K2 H ((kp.sub fun u hu => hsub _ (hsub2 _ hu)).goOn ha2) fun u hu B ρ' w' h1 h2 h3 => ?_)
          obtain ⟨a3, ha3, hsub3⟩ := bindL_mem ha2 _ hu
          exact regA_ok hC (goOn_no ha3 h2.noPan) hd.2 h2 h3 ((kp.sub fun u hu => hsub _ (hsub2 _ (hsub3 _ hu))).up h1) fun u' hu' B' ρ'' w'' g1 g2 g3 => k u' (hsub _ (hsub2 _ (hsub3 _ hu'))) B' ρ'' w'' (h1.trans g1) g2 g3
        · cases ha2
      | false =>
        exact LW.pass hw (dstOk_ok hd.1) (regA_ok hC ha hd.2 K1.putu H (kp.sub fun u hu => hsub _ hu) fun u hu => k u (hsub _ hu))
    · cases h
end
end Go.V
