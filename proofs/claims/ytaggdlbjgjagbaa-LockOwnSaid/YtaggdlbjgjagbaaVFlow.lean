/-
  Rules for loops, joins and guarded groups, in the calculus of the base text, whatever the program. No statement of the claim stands here.
-/
import Derived.Test.YtaggdlbjgjagbaaVOps
namespace Go.V
set_option linter.unusedSimpArgs false
set_option linter.unusedVariables false
open Go.RowKit

def keepE (σ ρ : Env) : List Nat → Env
  | [] => σ
  | t :: r => upd (keepE σ ρ r) t (ρ t)
def setL (ρ : Env) : List Nat → List Value → Env
  | c :: cs, v :: vs => upd (setL ρ cs vs) c v
  | _, _ => ρ

theorem upd_get (ρ : Env) (d : Nat) (v : Value) (t : Nat) : upd ρ d v t = if t = d then v else ρ t := rfl
theorem upd_self (ρ : Env) (t : Nat) : upd ρ t (ρ t) = ρ := by funext s; simp only [upd]; split <;> simp_all
theorem keepE_self (ρ : Env) : ∀ ts, keepE ρ ρ ts = ρ
  | [] => rfl
  | t :: r => by simp only [keepE, keepE_self ρ r, upd_self]
theorem keepE_same {ρ ρ' : Env} : ∀ {ts : List Nat}, ts.map ρ' = ts.map ρ → keepE ρ' ρ ts = ρ'
  | [], _ => rfl
  | t :: r, h => by
    simp only [List.map_cons, List.cons.injEq] at h
    simp only [keepE, keepE_same h.2, ← h.1, upd_self]
theorem setL_self (ρ : Env) : ∀ cs : List Nat, setL ρ cs (cs.map ρ) = ρ
  | [] => rfl
  | c :: r => by simp only [List.map_cons, setL, setL_self ρ r, upd_self]

/-- Only some slots are remembered. -/
theorem cut {K : Env → World → Prop} {ρ : Env} {w : World} (ts : List Nat) (h : ∀ σ, K (keepE σ ρ ts) w) : K ρ w := by
  have := h ρ
  rwa [keepE_self] at this

section
variable {P : Program} {N : Fr} {Q : EPost} {ρ : Env} {w : World}

/-- A loop: 'ts' are the slots that stay, 'cs' those that change, R what holds of them, its first argument the measure. -/
theorem CW.loopR {c : Code} (ts cs : List Nat) (R : Nat → List Value → World → Prop) (n : Nat) (h0 : R n (cs.map ρ) w)
    (round : ∀ n vs w' σ, R n vs w' → CW P N c (thenE (fun ρ' w'' => ts.map ρ' = ts.map ρ ∧ ∃ m, m < n ∧ R m (cs.map ρ') w'') Q) (setL (keepE σ ρ ts) cs vs) w') : CW P N (.loop c) Q ρ w := by
  refine CW.loop (fun n ρ' w' => ts.map ρ' = ts.map ρ ∧ R n (cs.map ρ') w') n ⟨rfl, h0⟩ ?_
  intro n ρ' w' ⟨h1, h2⟩
  have h := round n (cs.map ρ') w' ρ' h2
  rw [keepE_same h1, setL_self] at h
  refine h.mono fun e ρ'' w'' hq => ?_
  cases e <;> first | exact hq | (obtain ⟨a, m, hm, hr⟩ := hq; exact ⟨m, hm, a, hr⟩)

/-- Behind the first part only 'ts' and 'cs' are known. -/
theorem CW.seqJ {x y : Code} (ts cs : List Nat) (R : List Value → World → Prop)
    (h1 : CW P N x (thenE (fun ρ' w' => ts.map ρ' = ts.map ρ ∧ R (cs.map ρ') w') Q) ρ w)
    (h2 : ∀ vs w' σ, R vs w' → CW P N y Q (setL (keepE σ ρ ts) cs vs) w') : CW P N (.seq x y) Q ρ w := by
  refine CW.seq fun K hK => h1.mono fun e ρ' w' hq => ?_
  cases e <;> first | exact hq | skip
  obtain ⟨a, hr⟩ := hq
  have h := h2 _ w' ρ' hr
  rw [keepE_same a, setL_self] at h
  exact hK _ _ h

theorem LW.mono {ops : Array Oper} {l : List Oper} {Q' : EPost} (h : LW P N ops l Q ρ w) (hq : ∀ e ρ w, Q e ρ w → Q' e ρ w) : LW P N ops l Q' ρ w := by
  intro a ha
  have h1 := h a ha
  clear h ha
  induction l generalizing a w with
  | nil => obtain ⟨ρ', hf, hQ⟩ := h1; exact ⟨ρ', hf, hq _ _ _ hQ⟩
  | cons o rest ih =>
    unfold wpList at h1 ⊢
    split at h1
    · rename_i hw
      rw [if_pos hw]
      rcases h1 with h1 | ⟨h1, a₀, w₀, ρ', hf, hQ⟩
      · refine .inl ?_
        unfold Oper.wp at *
        generalize (execOp a.eval o).run P w = r at *
        cases r with
        | ok n w' =>
          cases n <;> simp only [Oper.upon] at h1 ⊢ <;>
            first
              | exact ih _ h1
              | exact Calls.mono h1 (fun e w'' he => by
                  cases e with
                  | returned v => exact ih _ he
                  | panicked c => obtain ⟨ρ', hf, hQ⟩ := he; exact ⟨ρ', hf, hq _ _ _ hQ⟩
                  | outgrown => obtain ⟨a₀, w₀, ρ', hf, hQ⟩ := he; exact ⟨a₀, w₀, ρ', hf, hq _ _ _ hQ⟩)
              | exact Rows.mono h1 (fun _ _ he => ih _ he)
        | halt x w' =>
          cases x <;> simp only [Oper.upon] at h1 ⊢
          obtain ⟨ρ', hf, hQ⟩ := h1; exact ⟨ρ', hf, hq _ _ _ hQ⟩
      · exact .inr ⟨h1, a₀, w₀, ρ', hf, hq _ _ _ hQ⟩
    · rename_i hw
      rw [if_neg hw]
      exact ih _ h1

/-- A list of operations in two parts. -/
theorem LW.app {ops : Array Oper} : ∀ {l : List Oper} (n : Nat) {ρ : Env} {w : World}, LW P N ops (l.take n) (thenE (fun ρ' w' => LW P N ops (l.drop n) Q ρ' w') Q) ρ w → LW P N ops l Q ρ w := by
  intro l n ρ w h a ha
  have h1 := h a ha
  clear h ha
  induction l generalizing a w n with
  | nil =>
    obtain ⟨ρ', hf, hQ⟩ := (by simpa [wpList] using h1 : lift N _ _ a w)
    exact hQ a hf
  | cons o rest ih =>
    cases n with
    | zero =>
      obtain ⟨ρ', hf, hQ⟩ := (by simpa [wpList] using h1 : lift N _ _ a w)
      exact hQ a hf
    | succ n =>
      simp only [List.take_succ_cons, List.drop_succ_cons] at h1
      unfold wpList at h1 ⊢
      split at h1
      · rename_i hw
        rw [if_pos hw]
        rcases h1 with h1 | ⟨h1, a₀, w₀, ρ', hf, hQ⟩
        · refine .inl ?_
          unfold Oper.wp at *
          generalize (execOp a.eval o).run P w = r at *
          cases r with
          | ok m w' =>
            cases m <;> simp only [Oper.upon] at h1 ⊢ <;>
              first
                | exact ih _ _ h1
                | exact Calls.mono h1 (fun e w'' he => by
                    cases e with
                    | returned v => exact ih _ _ he
                    | panicked c => exact he
                    | outgrown => exact he)
                | exact Rows.mono h1 (fun _ _ he => ih _ _ he)
          | halt x w' =>
            cases x <;> simp only [Oper.upon] at h1 ⊢
            exact h1
        · exact .inr ⟨h1, a₀, w₀, ρ', hf, hQ⟩
      · rename_i hw
        rw [if_neg hw]
        exact ih _ _ h1

theorem LW.joined {ops : Array Oper} {l : List Oper} {n : Nat} {ts : List Nat} {d : Nat} {B : Bool}
    (h1 : LW P N ops (l.take n) (thenE (fun ρ' w' => w' = w ∧ ts.map ρ' = ts.map ρ ∧ ρ' d = .bool B) Q) ρ w)
    (h2 : ∀ σ, LW P N ops (l.drop n) Q (upd (keepE σ ρ ts) d (.bool B)) w) : LW P N ops l Q ρ w := by
  refine LW.app n (h1.mono fun e ρ' w' hq => ?_)
  cases e <;> first | exact hq | skip
  obtain ⟨rfl, a, hd⟩ := hq
  have h := h2 ρ'
  rw [keepE_same a, ← hd, upd_self] at h
  exact h

/-- 'a && b', 'a || b': the operations of b are guarded; behind the group one Bool is known. -/
theorem LW.grpAnd {ops : Array Oper} {l : List Oper} {n : Nat} {ts : List Nat} {d tj : Nat} {b1 b2 : Bool} (hb : ρ tj = .bool b1)
    (h1 : b1 = true → LW P N ops (l.take n) (thenE (fun ρ' w' => w' = w ∧ ts.map ρ' = ts.map ρ ∧ ρ' d = .bool b2) Q) ρ w)
    (h0 : b1 = false → LW P N ops (l.take n) (thenE (fun ρ' w' => w' = w ∧ ts.map ρ' = ts.map ρ ∧ ρ' d = .bool false) Q) ρ w)
    (h2 : ∀ σ, LW P N ops (l.drop n) Q (upd (keepE σ ρ ts) d (.bool (b1 && b2))) w) : LW P N ops l Q ρ w := by
  cases b1
  · exact LW.joined (h0 rfl) h2
  · exact LW.joined (h1 rfl) (by simpa using h2)
theorem LW.grpOr {ops : Array Oper} {l : List Oper} {n : Nat} {ts : List Nat} {d tj : Nat} {b1 b2 : Bool} (hb : ρ tj = .bool b1)
    (h1 : b1 = false → LW P N ops (l.take n) (thenE (fun ρ' w' => w' = w ∧ ts.map ρ' = ts.map ρ ∧ ρ' d = .bool b2) Q) ρ w)
    (h0 : b1 = true → LW P N ops (l.take n) (thenE (fun ρ' w' => w' = w ∧ ts.map ρ' = ts.map ρ ∧ ρ' d = .bool true) Q) ρ w)
    (h2 : ∀ σ, LW P N ops (l.drop n) Q (upd (keepE σ ρ ts) d (.bool (b1 || b2))) w) : LW P N ops l Q ρ w := by
  cases b1
  · exact LW.joined (h1 rfl) (by simpa using h2)
  · exact LW.joined (h0 rfl) h2

/-- A Bool in a slot is known. -/
theorem LW.known {ops : Array Oper} {l : List Oper} {t : Nat} {b c : Bool} (_hb : ρ t = .bool b) (h : b = c) (k : b = c → LW P N ops l Q ρ w) : LW P N ops l Q ρ w := k h
theorem LW.splitB {ops : Array Oper} {l : List Oper} {t : Nat} {b : Bool} (_hb : ρ t = .bool b) (h1 : b = true → LW P N ops l Q ρ w) (h2 : b = false → LW P N ops l Q ρ w) : LW P N ops l Q ρ w := by cases b; exact h2 rfl; exact h1 rfl

theorem LW.skipU {ops : Array Oper} {rest : List Oper} {d : Option Nat} {op : Op} {ty : TypeId} {pos : String} {af : Array Edge} {j t : Nat} {want : Bool} (hj : (ops[j]?).bind (·.dst) = some t) (hd : ∀ x, d = some x → x < N.n) (hb : ρ t = undef)
    (h : LW P N ops rest Q (updo ρ d undef) w) : LW P N ops (⟨d, op, ty, pos, af, some (j, want)⟩ :: rest) Q ρ w := by
  intro a ha
  refine wpList_skip ?_ (h _ (ha.puto hd undef))
  have h1 := ha.2.2 t
  have hy : yielded ops a.tmps j = none := by
    unfold yielded
    rw [hj]
    simp only [Option.bind_some]
    rw [hb, Array.getD_eq_getD_getElem?] at h1
    cases h' : a.tmps[t]? with
    | none => rfl
    | some x => rw [h'] at h1; simp at h1; subst h1; rfl
  simp [Region.wanted, hy]
end
end Go.V
