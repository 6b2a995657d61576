/-
  Regions that draw their order, once more: some operations are late, all that looks at memory comes ahead of them. No statement of the claim stands here: these are rules, whatever the program.
-/
import Derived.Test.YtaggdlbjgjagbaaVDraw
namespace Go.V
set_option linter.unusedSimpArgs false
set_option linter.unusedVariables false
open Go.RowKit

section
variable {P : Program} {ops : Array Oper} {Q : Exit → Act → World → Prop} {md : Region.Mode} {S : World → Prop} {late : List Nat}
/-- Whatever order is picked from here on, and S holds behind every operation that is not late. -/
def wpAnyL (P : Program) (md : Region.Mode) (ops : Array Oper) (Q : Exit → Act → World → Prop) (S : World → Prop) (late : List Nat) : Nat → Array Bool → Act → World → Prop
  | 0, listed, a, w => Region.ready md ops listed = [] ∧ Q .normal a w
  | fuel + 1, listed, a, w =>
    (Region.ready md ops listed = [] → Q .normal a w) ∧
    ∀ i ∈ Region.ready md ops listed, wpOp P ops Q i (fun a' w' => (late.contains i = false → S w') ∧ wpAnyL P md ops Q S late fuel (listed.setIfInBounds i true) a' w') a w
theorem wpAny_of_late : ∀ (fuel : Nat) (listed : Array Bool) (a : Act) (w : World), wpAnyL P md ops Q S late fuel listed a w → wpAny P md ops Q fuel listed a w
  | 0, _, _, _, h => h
  | fuel + 1, _, _, _, h => ⟨h.1, fun i hi => wpOp_mono (fun a' w' h' => wpAny_of_late fuel _ a' w' h'.2) (h.2 i hi)⟩
/-- T: S, where all that is late waits for it; nothing, where it is late itself. -/
theorem wpAnyL_first {T : World → Prop} {i : Nat} {oi : Oper} {v : Value} (B : List Nat) (hi : ops[i]? = some oi) (hsel : ∀ (j : Nat) (o : Oper) cs b, ops[j]? = some o → o.op ≠ .select cs b)
    (hQ : ∀ c a w, Q (.panic c) (a.put oi.dst v) w → Q (.panic c) a w) (hST : ∀ u, S u → T u) :
    ∀ (fuel : Nat) (listed : Array Bool) (a : Act) (w : World),
      (∀ j oj, ops[j]? = some oj → j ≠ i → listed.getD j true = false → (∀ e ∈ oj.after, Region.binds md e = true → e.on ≠ i) → oi.apart ops oj = true) →
      ((late.contains i = true ∧ ∀ w, T w) ∨ ((∀ k ∈ B, listed.getD k true = false) ∧ (∀ j oj, ops[j]? = some oj → j ∈ B → j ≠ i → ∃ e ∈ oj.after, Region.binds md e = true ∧ e.on ∈ B) ∧ ∀ j, late.contains j = true → listed.getD j true = false → j ∈ B)) →
      i ∈ Region.ready md ops listed → YieldsIf P ops T oi v a → T w → (late.contains i = false → S w) →
      wpAnyL P md ops Q S late fuel (listed.setIfInBounds i true) (a.put oi.dst v) w → wpAnyL P md ops Q S late (fuel + 1) listed a w := by
  intro fuel
  induction fuel with
  | zero =>
    intro listed a w _ _ hr hy hS hS' H
    refine ⟨fun h => (by rw [h] at hr; cases hr), fun j hj => ?_⟩
    by_cases hji : j = i
    · subst hji; exact hy.wpOp hi hS ⟨hS', H⟩
    · have := ready_mono hj hji
      rw [H.1] at this
      cases this
  | succ fuel ih =>
    intro listed a w hfree hlate hr hy hS hS' H
    refine ⟨fun h => (by rw [h] at hr; cases hr), fun j hj => ?_⟩
    by_cases hji : j = i
    · subst hji; exact hy.wpOp hi hS ⟨hS', H⟩
    · have h1 := H.2 j (ready_mono hj hji)
      obtain ⟨hjun, oj, hoj, hall⟩ := mem_ready.1 hj
      have hnot : ∀ e ∈ oj.after, Region.binds md e = true → e.on ≠ i := fun e he hb heq => by
        have h1 := hall e he hb
        have h0 := (mem_ready.1 hr).1
        rw [heq] at h1
        rcases Nat.lt_or_ge i listed.size with h' | h'
        · simp [h'] at h0 h1; rw [h0] at h1; cases h1
        · simp [Array.getElem?_eq_none h'] at h1
      have h2 := wpOp_putIf hoj (hfree j oj hoj hji hjun hnot) (fun cs b => hsel i oi cs b hi) (fun cs b => hsel j oj cs b hoj) hQ hy h1
      have hfree' : ∀ k ok, ops[k]? = some ok → k ≠ i → (listed.setIfInBounds j true).getD k true = false →
          (∀ e ∈ ok.after, Region.binds md e = true → e.on ≠ i) → oi.apart ops ok = true := fun k ok hk hki hun hno => by
        refine hfree k ok hk hki ?_ hno
        by_cases hjk : j = k
        · subst hjk; exact hjun
        · rw [getD_set_ne true hjk] at hun; exact hun
      refine wpOp_mono (fun a' w' h3 => ?_) h2
      have hjB : (∀ k ∈ B, listed.getD k true = false) → (∀ j oj, ops[j]? = some oj → j ∈ B → j ≠ i → ∃ e ∈ oj.after, Region.binds md e = true ∧ e.on ∈ B) → j ∉ B := fun hu hb hm => by
        obtain ⟨e, he, hbe, hk⟩ := hb j oj hoj hm hji
        have h1 := hall e he hbe
        have h0 := hu _ hk
        rcases Nat.lt_or_ge e.on listed.size with h' | h'
        · simp [h'] at h0 h1; rw [h0] at h1; cases h1
        · simp [Array.getElem?_eq_none h'] at h1
      have hlate' : ((late.contains i = true ∧ ∀ w, T w) ∨ ((∀ k ∈ B, (listed.setIfInBounds j true).getD k true = false) ∧ (∀ j oj, ops[j]? = some oj → j ∈ B → j ≠ i → ∃ e ∈ oj.after, Region.binds md e = true ∧ e.on ∈ B) ∧ ∀ k, late.contains k = true → (listed.setIfInBounds j true).getD k true = false → k ∈ B)) := by
        rcases hlate with h | ⟨h1, h2, h3⟩
        · exact .inl h
        · refine .inr ⟨fun k hk => ?_, h2, fun k hk hun => ?_⟩
          · have hne : j ≠ k := fun e => hjB h1 h2 (e ▸ hk)
            rw [getD_set_ne true hne]; exact h1 k hk
          · by_cases hjk : j = k
            · subst hjk; exact h3 _ hk hjun
            · rw [getD_set_ne true hjk] at hun; exact h3 k hk hun
      refine ⟨h3.2.1, ih (listed.setIfInBounds j true) a' w' hfree' hlate' (ready_mono hr (Ne.symm hji)) h3.1 ?_ (fun hil => ?_) (by rw [Array.setIfInBounds_comm _ _ hji]; exact h3.2.2)⟩
      · rcases hlate with h | h
        · exact h.2 w'
        · cases hc : late.contains j with
          | false => exact hST _ (h3.2.1 hc)
          | true => exact absurd (h.2.2 j hc hjun) (hjB h.1 h.2.1)
      · rcases hlate with h | h
        · rw [h.1] at hil; cases hil
        · cases hc : late.contains j with
          | false => exact h3.2.1 hc
          | true => exact absurd (h.2.2 j hc hjun) (hjB h.1 h.2.1)
/-- All that is late waits for i, by way of those of B. -/
def waitsAll (ops : Array Oper) (listed : Array Bool) (late B : List Nat) (i : Nat) : Bool :=
  (late.all fun j => listed.getD j true || B.contains j) && B.all fun k => !(listed.getD k true) && (k == i || match ops[k]? with
    | some oj => oj.after.any fun e => Region.binds .any e && B.contains e.on
    | none => true)
theorem waitsAll_spec {listed : Array Bool} {B : List Nat} {i : Nat} (h : waitsAll ops listed late B i = true) :
    (∀ k ∈ B, listed.getD k true = false) ∧ (∀ j oj, ops[j]? = some oj → j ∈ B → j ≠ i → ∃ e ∈ oj.after, Region.binds .any e = true ∧ e.on ∈ B) ∧ ∀ j, late.contains j = true → listed.getD j true = false → j ∈ B := by
  unfold waitsAll at h
  rw [Bool.and_eq_true] at h
  refine ⟨fun k hk => ?_, fun j oj hj hm hne => ?_, fun j hj hun => ?_⟩
  · have := List.all_eq_true.1 h.2 k hk
    rw [Bool.and_eq_true] at this
    simpa using this.1
  · have := List.all_eq_true.1 h.2 j hm
    rw [Bool.and_eq_true, hj] at this
    have h2 := this.2
    rw [Bool.or_eq_true] at h2
    rcases h2 with h2 | h2
    · exact absurd (by simpa using h2) hne
    · simp only [Array.any_eq_true'] at h2
      obtain ⟨e, he, hb⟩ := h2
      rw [Bool.and_eq_true] at hb
      exact ⟨e, he, hb.1, by simpa using hb.2⟩
  · have := List.all_eq_true.1 h.1 j (by simpa using hj)
    rw [hun, Bool.false_or] at this
    simpa using this
theorem wpAnyL_done {listed : Array Bool} {a : Act} {w : World} (hr : Region.ready md ops listed = []) (h : Q .normal a w) : ∀ fuel, wpAnyL P md ops Q S late fuel listed a w
  | 0 => ⟨hr, h⟩
  | _ + 1 => ⟨fun _ => h, by rw [hr]; simp⟩
theorem wpAnyL_all {rs : List Nat} {fuel : Nat} {listed : Array Bool} {a : Act} {w : World} (hr : Region.ready md ops listed = rs) (hne : rs ≠ [])
    (h : ∀ i ∈ rs, wpOp P ops Q i (fun a' w' => (late.contains i = false → S w') ∧ wpAnyL P md ops Q S late fuel (listed.setIfInBounds i true) a' w') a w) : wpAnyL P md ops Q S late (fuel + 1) listed a w :=
  ⟨fun h0 => absurd (hr ▸ h0) hne, hr ▸ h⟩
end

def DL (P : Program) (N : Fr) (ops : Array Oper) (S : World → Prop) (late : List Nat) (Q : EPost) (fuel : Nat) (listed : Array Bool) (ρ : Env) (w : World) : Prop :=
  ∀ a, Fits N ρ a → wpAnyL P .any ops (lift N (nopan Q)) S late fuel listed a w
section
variable {P : Program} {N : Fr} {ops : Array Oper} {S : World → Prop} {late : List Nat} {Q : EPost} {ρ : Env} {w : World} {fuel : Nat} {listed : Array Bool}
theorem CW.drawL {id n : Nat} (S : World → Prop) (late : List Nat) (hm : P.follows .mixedOrders = true) (hn : ops.size = n) (h : ∀ w1, w1.heap = w.heap → Ext0 w w1 → DL P N ops S late Q n (Array.replicate n false) ρ w1) : CW P N (.region id ops true) Q ρ w := by
  intro a ha
  subst hn
  refine wp_mono (wp_region_any hm (wpAny_of_late _ _ _ _ (h { w with drawn := w.drawn + 1 } rfl ⟨rfl, rfl, rfl, Nat.le_refl _, fun _ _ _ => rfl⟩ a ha))) ?_
  intro e a' w' ⟨ρ', hf, hq⟩
  cases e <;> first | exact ⟨ρ', hf, hq⟩ | exact hq.elim
theorem DL.take {i d : Nat} (B : List Nat) {op : Op} {ty : TypeId} {pos : String} {af : Array Edge} {g : Option (Nat × Bool)} {v : Value} (hi : ops[i]? = some ⟨some d, op, ty, pos, af, g⟩) (hs : Region.noSelect ops = true) (hf : Region.free .any ops listed i = true) (hr : (Region.ready .any ops listed).contains i = true)
    (hl : waitsAll ops listed late B i = true) (hd : Nat.blt d N.n = true) (hw : Region.wanted ⟨some d, op, ty, pos, af, g⟩ (yE ops ρ) = true) (hy : ∀ u, S u → (execOp (ev ρ) ⟨some d, op, ty, pos, af, g⟩).run P u = .ok (.value v) u) (hS : S w)
    (h : DL P N ops S late Q fuel (listed.setIfInBounds i true) (upd ρ d v) w) : DL P N ops S late Q (fuel + 1) listed ρ w := by
  intro a ha
  refine wpAnyL_first (T := S) B hi (Region.noSelect_spec hs) ?_ (fun _ h => h) fuel listed a w (Region.free_spec hi hf) (.inr (waitsAll_spec hl)) (by simpa using hr) (.inl ⟨by rw [yE_eq ha]; exact hw, fun u hu => by rw [ha.eval]; exact hy u hu⟩) hS (fun _ => hS) (h _ (ha.put (Nat.le_of_ble_eq_true hd) v))
  intro c a' w' ⟨_, _, hq⟩
  exact hq.elim
theorem DL.takeU {i d : Nat} {op : Op} {ty : TypeId} {pos : String} {af : Array Edge} {g : Option (Nat × Bool)} {v : Value} (hi : ops[i]? = some ⟨some d, op, ty, pos, af, g⟩) (hs : Region.noSelect ops = true) (hf : Region.free .any ops listed i = true) (hr : (Region.ready .any ops listed).contains i = true)
    (hl : late.contains i = true) (hd : Nat.blt d N.n = true) (hw : Region.wanted ⟨some d, op, ty, pos, af, g⟩ (yE ops ρ) = true) (hy : ∀ u, (execOp (ev ρ) ⟨some d, op, ty, pos, af, g⟩).run P u = .ok (.value v) u)
    (h : DL P N ops S late Q fuel (listed.setIfInBounds i true) (upd ρ d v) w) : DL P N ops S late Q (fuel + 1) listed ρ w := by
  intro a ha
  refine wpAnyL_first (T := fun _ => True) [] hi (Region.noSelect_spec hs) ?_ (fun _ _ => trivial) fuel listed a w (Region.free_spec hi hf) (.inl ⟨hl, fun _ => trivial⟩) (by simpa using hr) (.inl ⟨by rw [yE_eq ha]; exact hw, fun u _ => by rw [ha.eval]; exact hy u⟩) trivial (fun h => by rw [hl] at h; cases h) (h _ (ha.put (Nat.le_of_ble_eq_true hd) v))
  intro c a' w' ⟨_, _, hq⟩
  exact hq.elim
theorem DL.skip {i d : Nat} (B : List Nat) {op : Op} {ty : TypeId} {pos : String} {af : Array Edge} {g : Option (Nat × Bool)} (hi : ops[i]? = some ⟨some d, op, ty, pos, af, g⟩) (hs : Region.noSelect ops = true) (hf : Region.free .any ops listed i = true) (hr : (Region.ready .any ops listed).contains i = true)
    (hl : waitsAll ops listed late B i = true) (hd : Nat.blt d N.n = true) (hw : Region.wanted ⟨some d, op, ty, pos, af, g⟩ (yE ops ρ) = false) (hS : S w)
    (h : DL P N ops S late Q fuel (listed.setIfInBounds i true) (upd ρ d undef) w) : DL P N ops S late Q (fuel + 1) listed ρ w := by
  intro a ha
  refine wpAnyL_first (T := S) (v := undef) B hi (Region.noSelect_spec hs) ?_ (fun _ h => h) fuel listed a w (Region.free_spec hi hf) (.inr (waitsAll_spec hl)) (by simpa using hr) (.inr ⟨by rw [yE_eq ha]; exact hw, rfl⟩) hS (fun _ => hS) (h _ (ha.put (Nat.le_of_ble_eq_true hd) undef))
  intro c a' w' ⟨_, _, hq⟩
  exact hq.elim
/-- One operation comes up, and the others behind it. -/
def LOp (P : Program) (N : Fr) (ops : Array Oper) (S : World → Prop) (late : List Nat) (Q : EPost) (fuel : Nat) (listed : Array Bool) (i : Nat) (ρ : Env) (w : World) : Prop :=
  ∀ a, Fits N ρ a → wpOp P ops (lift N (nopan Q)) i (fun a' w' => (late.contains i = false → S w') ∧ wpAnyL P .any ops (lift N (nopan Q)) S late fuel (listed.setIfInBounds i true) a' w') a w
theorem LOp.of {i : Nat} {d : Option Nat} {op : Op} {ty : TypeId} {pos : String} {af : Array Edge} {g : Option (Nat × Bool)} (hi : ops[i]? = some ⟨d, op, ty, pos, af, g⟩) (hw : Region.wanted ⟨d, op, ty, pos, af, g⟩ (yE ops ρ) = true)
    (h : LW P N ops [⟨d, op, ty, pos, af, none⟩] (thenE (fun ρ' w' => (late.contains i = false → S w') ∧ DL P N ops S late Q fuel (listed.setIfInBounds i true) ρ' w') (fun _ _ _ => False)) ρ w) : LOp P N ops S late Q fuel listed i ρ w := by
  intro a ha
  have h1 := h a ha
  unfold wpOp
  rw [hi]
  simp only [yE_eq ha, hw, if_true]
  unfold wpList at h1
  simp only [Region.wanted, if_true] at h1
  rcases h1 with h1 | ⟨_, a₀, w₀, ρ', _, hq⟩
  · refine .inl ?_
    have he : ∀ (r : Result Next), Oper.upon P ⟨d, op, ty, pos, af, none⟩ a (wpList P ops (lift N (thenE (fun ρ' w' => (late.contains i = false → S w') ∧ DL P N ops S late Q fuel (listed.setIfInBounds i true) ρ' w') (fun _ _ _ => False))) []) (lift N (thenE (fun ρ' w' => (late.contains i = false → S w') ∧ DL P N ops S late Q fuel (listed.setIfInBounds i true) ρ' w') (fun _ _ _ => False))) r →
        Oper.upon P ⟨d, op, ty, pos, af, g⟩ a (fun a' w' => (late.contains i = false → S w') ∧ wpAnyL P .any ops (lift N (nopan Q)) S late fuel (listed.setIfInBounds i true) a' w') (lift N (nopan Q)) r := by
      intro r hr'
      have hk : ∀ a' w', wpList P ops (lift N (thenE (fun ρ' w' => (late.contains i = false → S w') ∧ DL P N ops S late Q fuel (listed.setIfInBounds i true) ρ' w') (fun _ _ _ => False))) [] a' w' → (late.contains i = false → S w') ∧ wpAnyL P .any ops (lift N (nopan Q)) S late fuel (listed.setIfInBounds i true) a' w' := by
        intro a' w' ⟨ρ', hf, hq⟩
        exact ⟨hq.1, hq.2 a' hf⟩
      cases r with
      | ok n w' =>
        cases n <;> simp only [Oper.upon] at hr' ⊢ <;>
          first
            | exact hk _ _ hr'
            | exact Calls.mono hr' (fun e w'' he => by
                cases e with
                | returned v => exact hk _ _ he
                | panicked c => obtain ⟨_, _, hq⟩ := he; exact hq.elim
                | outgrown => obtain ⟨_, _, _, _, hq⟩ := he; exact hq.elim)
            | exact Rows.mono hr' (fun _ _ he => hk _ _ he)
      | halt x w' =>
        cases x <;> simp only [Oper.upon] at hr' ⊢
        obtain ⟨_, _, hq⟩ := hr'; exact hq.elim
    unfold Oper.wp at h1 ⊢
    exact he _ h1
  · exact hq.elim
theorem DL.one {i : Nat} {d : Option Nat} {op : Op} {ty : TypeId} {pos : String} {af : Array Edge} {g : Option (Nat × Bool)} (hr : Region.ready .any ops listed = [i]) (hi : ops[i]? = some ⟨d, op, ty, pos, af, g⟩) (hw : Region.wanted ⟨d, op, ty, pos, af, g⟩ (yE ops ρ) = true)
    (h : LW P N ops [⟨d, op, ty, pos, af, none⟩] (thenE (fun ρ' w' => (late.contains i = false → S w') ∧ DL P N ops S late Q fuel (listed.setIfInBounds i true) ρ' w') (fun _ _ _ => False)) ρ w) : DL P N ops S late Q (fuel + 1) listed ρ w := fun a ha =>
  wpAnyL_all hr (by simp) fun j hj => by
    rw [List.mem_singleton] at hj
    subst hj
    exact LOp.of hi hw h a ha
theorem DL.two {i j : Nat} (hr : Region.ready .any ops listed = [i, j]) (hi : LOp P N ops S late Q fuel listed i ρ w) (hj : LOp P N ops S late Q fuel listed j ρ w) : DL P N ops S late Q (fuel + 1) listed ρ w := fun a ha =>
  wpAnyL_all hr (by simp) fun q hq => by
    simp only [List.mem_cons, List.not_mem_nil, or_false] at hq
    rcases hq with rfl | rfl
    · exact hi a ha
    · exact hj a ha
theorem DL.three {i j k : Nat} (hr : Region.ready .any ops listed = [i, j, k]) (hi : LOp P N ops S late Q fuel listed i ρ w) (hj : LOp P N ops S late Q fuel listed j ρ w) (hk : LOp P N ops S late Q fuel listed k ρ w) : DL P N ops S late Q (fuel + 1) listed ρ w := fun a ha =>
  wpAnyL_all hr (by simp) fun q hq => by
    simp only [List.mem_cons, List.not_mem_nil, or_false] at hq
    rcases hq with rfl | rfl | rfl
    · exact hi a ha
    · exact hj a ha
    · exact hk a ha
theorem DL.known {t : Nat} {b c : Bool} (_hb : ρ t = .bool b) (h : b = c) (k : b = c → DL P N ops S late Q fuel listed ρ w) : DL P N ops S late Q fuel listed ρ w := k h
theorem DL.splitB {t : Nat} {b : Bool} (_hb : ρ t = .bool b) (h1 : b = true → DL P N ops S late Q fuel listed ρ w) (h2 : b = false → DL P N ops S late Q fuel listed ρ w) : DL P N ops S late Q fuel listed ρ w := by cases b; exact h2 rfl; exact h1 rfl
theorem DL.done (hr : Region.ready .any ops listed = []) (h : Q .normal ρ w) : DL P N ops S late Q fuel listed ρ w := fun a ha => wpAnyL_done hr ⟨ρ, ha, h⟩ fuel
end
end Go.V
