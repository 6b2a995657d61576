/-
  Regions that draw their order, in the calculus of the base text, whatever the program: operations that yield the same value in every world of a class are taken first; the others come one by one. No statement of the claim stands here.
-/
import Derived.Test.YtaggdlbjgjagbaaVSlice
import Derived.OrdersHeld
namespace Go.V
set_option linter.unusedSimpArgs false
set_option linter.unusedVariables false
open Go.RowKit

def yE (ops : Array Oper) (ρ : Env) (j : Nat) : Option Bool :=
  match (ops[j]?).bind (·.dst) with
  | some t => (match ρ t with | .bool b => some b | _ => none)
  | none => none
theorem yE_eq {N : Fr} {ops : Array Oper} {ρ : Env} {a : Act} (ha : Fits N ρ a) : yielded ops a.tmps = yE ops ρ := by
  funext j
  unfold yielded yE
  cases h : (ops[j]?).bind (·.dst) with
  | none => simp
  | some t =>
    have h1 := ha.2.2 t
    simp only [Option.bind_some]
    rw [Array.getD_eq_getD_getElem?] at h1
    cases h' : a.tmps[t]? with
    | none => rw [h'] at h1; simp at h1; rw [← h1]; rfl
    | some x => rw [h'] at h1; simp at h1; subst h1; generalize ρ t = u; cases u <;> rfl
theorem wantE {ops : Array Oper} {ρ : Env} {d : Option Nat} {op : Op} {ty : TypeId} {pos : String} {af : Array Edge} {j t : Nat} {want b : Bool} (hj : (ops[j]?).bind (·.dst) = some t) (hb : ρ t = .bool b) (hw : b = want) : Region.wanted ⟨d, op, ty, pos, af, some (j, want)⟩ (yE ops ρ) = true := by
  simp [Region.wanted, yE, hj, hb, hw]
theorem skipE {ops : Array Oper} {ρ : Env} {d : Option Nat} {op : Op} {ty : TypeId} {pos : String} {af : Array Edge} {j t : Nat} {want b : Bool} (hj : (ops[j]?).bind (·.dst) = some t) (hb : ρ t = .bool b) (hw : b = !want) : Region.wanted ⟨d, op, ty, pos, af, some (j, want)⟩ (yE ops ρ) = false := by
  simp only [Region.wanted, yE, hj, hb, hw]; cases want <;> rfl
theorem skipUE {ops : Array Oper} {ρ : Env} {d : Option Nat} {op : Op} {ty : TypeId} {pos : String} {af : Array Edge} {j t : Nat} {want : Bool} (hj : (ops[j]?).bind (·.dst) = some t) (hb : ρ t = undef) : Region.wanted ⟨d, op, ty, pos, af, some (j, want)⟩ (yE ops ρ) = false := by
  simp [Region.wanted, yE, hj, hb, undef]

def nopan (Q : EPost) : EPost
  | .normal, ρ, w => Q .normal ρ w
  | _, _, _ => False
def DW (P : Program) (N : Fr) (ops : Array Oper) (S : World → Prop) (Q : EPost) (fuel : Nat) (listed : Array Bool) (ρ : Env) (w : World) : Prop :=
  ∀ a, Fits N ρ a → wpAnyH P .any ops (lift N (nopan Q)) S fuel listed a w

section
variable {P : Program} {N : Fr} {ops : Array Oper} {S : World → Prop} {Q : EPost} {ρ : Env} {w : World} {fuel : Nat} {listed : Array Bool}

theorem CW.draw {id n : Nat} (S : World → Prop) (hm : P.follows .mixedOrders = true) (hn : ops.size = n) (h : ∀ w1, w1.heap = w.heap → Ext0 w w1 → DW P N ops S Q n (Array.replicate n false) ρ w1) : CW P N (.region id ops true) Q ρ w := by
  intro a ha
  subst hn
  refine wp_mono (wp_region_held (S := S) hm (h { w with drawn := w.drawn + 1 } rfl ⟨rfl, rfl, rfl, Nat.le_refl _, fun _ _ _ => rfl⟩ a ha)) ?_
  intro e a' w' ⟨ρ', hf, hq⟩
  cases e <;> first | exact ⟨ρ', hf, hq⟩ | exact hq.elim

theorem DW.take {i d : Nat} {op : Op} {ty : TypeId} {pos : String} {af : Array Edge} {g : Option (Nat × Bool)} {v : Value} (hi : ops[i]? = some ⟨some d, op, ty, pos, af, g⟩) (hs : Region.noSelect ops = true) (hf : Region.free .any ops listed i = true) (hr : (Region.ready .any ops listed).contains i = true)
    (hd : Nat.blt d N.n = true) (hw : Region.wanted ⟨some d, op, ty, pos, af, g⟩ (yE ops ρ) = true) (hy : ∀ u, S u → (execOp (ev ρ) ⟨some d, op, ty, pos, af, g⟩).run P u = .ok (.value v) u) (hS : S w)
    (h : DW P N ops S Q fuel (listed.setIfInBounds i true) (upd ρ d v) w) : DW P N ops S Q (fuel + 1) listed ρ w := by
  intro a ha
  refine wpAnyH_take (v := v) hi hs hf hr ?_ (.inl ⟨by rw [yE_eq ha]; exact hw, fun u hu => by rw [ha.eval]; exact hy u hu⟩) hS (h _ (ha.put (Nat.le_of_ble_eq_true hd) v))
  intro c a' w' ⟨_, _, hq⟩
  exact hq.elim
theorem DW.skip {i d : Nat} {op : Op} {ty : TypeId} {pos : String} {af : Array Edge} {g : Option (Nat × Bool)} (hi : ops[i]? = some ⟨some d, op, ty, pos, af, g⟩) (hs : Region.noSelect ops = true) (hf : Region.free .any ops listed i = true) (hr : (Region.ready .any ops listed).contains i = true)
    (hd : Nat.blt d N.n = true) (hw : Region.wanted ⟨some d, op, ty, pos, af, g⟩ (yE ops ρ) = false) (hS : S w)
    (h : DW P N ops S Q fuel (listed.setIfInBounds i true) (upd ρ d undef) w) : DW P N ops S Q (fuel + 1) listed ρ w := by
  intro a ha
  refine wpAnyH_take (v := undef) hi hs hf hr ?_ (.inr ⟨by rw [yE_eq ha]; exact hw, rfl⟩) hS (h _ (ha.put (Nat.le_of_ble_eq_true hd) undef))
  intro c a' w' ⟨_, _, hq⟩
  exact hq.elim

/-- One operation comes up, and the others behind it. -/
def DOp (P : Program) (N : Fr) (ops : Array Oper) (S : World → Prop) (Q : EPost) (fuel : Nat) (listed : Array Bool) (i : Nat) (ρ : Env) (w : World) : Prop :=
  ∀ a, Fits N ρ a → wpOp P ops (lift N (nopan Q)) i (fun a' w' => S w' ∧ wpAnyH P .any ops (lift N (nopan Q)) S fuel (listed.setIfInBounds i true) a' w') a w
theorem DOp.of {i : Nat} {d : Option Nat} {op : Op} {ty : TypeId} {pos : String} {af : Array Edge} {g : Option (Nat × Bool)} (hi : ops[i]? = some ⟨d, op, ty, pos, af, g⟩) (hw : Region.wanted ⟨d, op, ty, pos, af, g⟩ (yE ops ρ) = true)
    (h : LW P N ops [⟨d, op, ty, pos, af, none⟩] (thenE (fun ρ' w' => S w' ∧ DW P N ops S Q fuel (listed.setIfInBounds i true) ρ' w') (fun _ _ _ => False)) ρ w) : DOp P N ops S Q fuel listed i ρ w := by
  intro a ha
  have h1 := h a ha
  unfold wpOp
  rw [hi]
  simp only [yE_eq ha, hw, if_true]
  unfold wpList at h1
  simp only [Region.wanted, if_true] at h1
  rcases h1 with h1 | ⟨_, a₀, w₀, ρ', _, hq⟩
  · refine .inl ?_
    have he : ∀ (r : Result Next), Oper.upon P ⟨d, op, ty, pos, af, none⟩ a (wpList P ops (lift N (thenE (fun ρ' w' => S w' ∧ DW P N ops S Q fuel (listed.setIfInBounds i true) ρ' w') (fun _ _ _ => False))) []) (lift N (thenE (fun ρ' w' => S w' ∧ DW P N ops S Q fuel (listed.setIfInBounds i true) ρ' w') (fun _ _ _ => False))) r →
        Oper.upon P ⟨d, op, ty, pos, af, g⟩ a (fun a' w' => S w' ∧ wpAnyH P .any ops (lift N (nopan Q)) S fuel (listed.setIfInBounds i true) a' w') (lift N (nopan Q)) r := by
      intro r hr'
      have hk : ∀ a' w', wpList P ops (lift N (thenE (fun ρ' w' => S w' ∧ DW P N ops S Q fuel (listed.setIfInBounds i true) ρ' w') (fun _ _ _ => False))) [] a' w' → S w' ∧ wpAnyH P .any ops (lift N (nopan Q)) S fuel (listed.setIfInBounds i true) a' w' := by
        intro a' w' ⟨ρ', hf, hq⟩
        exact ⟨hq.1, hq.2 a' hf⟩
      cases r with
      | ok n w' =>
        cases n <;> simp only [Oper.upon] at hr' ⊢ <;>
          first
            | exact hk _ _ hr'
            | exact Calls.mono hr' (fun e w'' he => by
                cases e with
                | returned v => exact hk _ _ he
                | panicked c => obtain ⟨_, _, hq⟩ := he; exact hq.elim
                | outgrown => obtain ⟨_, _, _, _, hq⟩ := he; exact hq.elim)
            | exact Rows.mono hr' (fun _ _ he => hk _ _ he)
      | halt x w' =>
        cases x <;> simp only [Oper.upon] at hr' ⊢
        obtain ⟨_, _, hq⟩ := hr'; exact hq.elim
    unfold Oper.wp at h1 ⊢
    exact he _ h1
  · exact hq.elim
/-- One operation that is the only one that may come up. -/
theorem DW.one {i : Nat} {d : Option Nat} {op : Op} {ty : TypeId} {pos : String} {af : Array Edge} {g : Option (Nat × Bool)} (hr : Region.ready .any ops listed = [i]) (hi : ops[i]? = some ⟨d, op, ty, pos, af, g⟩) (hw : Region.wanted ⟨d, op, ty, pos, af, g⟩ (yE ops ρ) = true)
    (h : LW P N ops [⟨d, op, ty, pos, af, none⟩] (thenE (fun ρ' w' => S w' ∧ DW P N ops S Q fuel (listed.setIfInBounds i true) ρ' w') (fun _ _ _ => False)) ρ w) : DW P N ops S Q (fuel + 1) listed ρ w := fun a ha =>
  wpAnyH_all hr (by simp) fun j hj => by
    rw [List.mem_singleton] at hj
    subst hj
    exact DOp.of hi hw h a ha
/-- One of two comes up. -/
theorem DW.two {i j : Nat} (hr : Region.ready .any ops listed = [i, j]) (hi : DOp P N ops S Q fuel listed i ρ w) (hj : DOp P N ops S Q fuel listed j ρ w) : DW P N ops S Q (fuel + 1) listed ρ w := fun a ha =>
  wpAnyH_all hr (by simp) fun q hq => by
    simp only [List.mem_cons, List.not_mem_nil, or_false] at hq
    rcases hq with rfl | rfl
    · exact hi a ha
    · exact hj a ha
theorem DW.known {t : Nat} {b c : Bool} (_hb : ρ t = .bool b) (h : b = c) (k : b = c → DW P N ops S Q fuel listed ρ w) : DW P N ops S Q fuel listed ρ w := k h
theorem DW.done (hr : Region.ready .any ops listed = []) (h : Q .normal ρ w) : DW P N ops S Q fuel listed ρ w := fun a ha => wpAnyH_done hr ⟨ρ, ha, h⟩ fuel
end

/-! ### Structs in memory -/
section rules
variable {P : Program} {N : Fr} {ops : Array Oper} {rest : List Oper} {Q : EPost} {ρ : Env} {w : World}
variable {d : Nat} {dd : Option Nat} {gg : Option (Nat × Bool)} {ty T T2 : TypeId} {pos : String} {af : Array Edge} {x y z : Operand} {k : IntKind} {m n : Int}

/-- A load of a struct: its cells. -/
theorem x_loadA {b o s : Nat} {cs : List Value} (hT : ∀ w, (isAgg T).run P w = .ok true w) (hs : ∀ w, (sizeOf T).run P w = .ok s w) (hx : ev ρ x = .pointer (some ⟨b, o, none⟩)) (hc : Cells w b o cs) (hl : cs.length = s) :
    (execOp (ev ρ) ⟨dd, .load T x, ty, pos, af, gg⟩).run P w = .ok (.value (.agg cs.toArray)) w := by
  have := run_loadCells_list (P := P) w ⟨b, o, none⟩ cs (fun j u hu => by rw [addr_add]; exact hc.get j u hu)
  rw [hl] at this
  unfold loadCells at this
  simp [execOp, hx, Instr.loadAt, Instr.sureAddr, loadVar, hT, hs, this, go_sem]
theorem r_loadA {b o s : Nat} {cs : List Value} (hd : Nat.blt d N.n = true) (hT : ∀ w, (isAgg T).run P w = .ok true w) (hs : ∀ w, (sizeOf T).run P w = .ok s w) (hx : ev ρ x = .pointer (some ⟨b, o, none⟩)) (hc : Cells w b o cs) (hl : cs.length = s)
    (h : LW P N ops rest Q (upd ρ d (.agg cs.toArray)) w) : LW P N ops (⟨some d, .load T x, ty, pos, af, none⟩ :: rest) Q ρ w := LW.v hd (x_loadA hT hs hx hc hl) h

theorem setRow_blk {b : Nat} {E : TypeId} {cs cs' : List Value} (hb : Blk w b E cs) : Blk (w.setRow b cs'.toArray) b E cs' := setRow_heap w b cs.toArray _ E _ hb
theorem setRow_ext {b : Nat} {cs' : Array Value} : Ext (fun k => k = b) w (w.setRow b cs') := ⟨rfl, rfl, rfl, by simp, fun k _ hk => setRow_other w b k _ hk⟩
/-- A store of a value of several cells into a block of one's own. -/
theorem r_storeA {b o s : Nat} {E : TypeId} {cs vs : List Value} {v : Value} (hs : ∀ w, (sizeOf T).run P w = .ok s w) (hx : ev ρ x = .pointer (some ⟨b, o, none⟩)) (hy : ev ρ y = v) (hv : cellsL v = vs) (hl : vs.length = s) (h1 : vs.all oneC = true) (hb : Blk w b E cs) (ho : o + s ≤ cs.length)
    (h : ∀ w', w'.heap.size = w.heap.size → Ext (fun k => k = b) w w' → Blk w' b E (spliceL cs o vs) → LW P N ops rest Q ρ w') :
    LW P N ops (⟨none, .store T x y, ty, pos, af, none⟩ :: rest) Q ρ w := by
  have hst := run_storeCells_at P b o E vs 0 cs.toArray w hb (by simp; omega) (fun u hu => oneC' (List.all_eq_true.1 h1 u hu))
  simp only [Nat.add_zero] at hst
  have hvc : v.cells = vs.toArray := by rw [← hv, cellsL_eq]
  refine LW.skp (w' := w.setRow b (spliceL cs o vs).toArray) rfl (fun _ e => by cases e) ?_ (h _ (by simp) setRow_ext (setRow_blk hb))
  simp only [execOp, hx, hy, Instr.storeAt, Instr.sureAddr, storeVar, Sem.run_bind, Sem.run_pure, Result.andThen_ok, hs, hvc, List.size_toArray, hl]
  simp only [ne_eq, not_true_eq_false, if_false]
  rw [hst]
  simp only [Result.andThen_ok, spliceL]
end rules
end Go.V
