/-
  The sessions of layer 6: what right ones are; what is done to them keeps them so.
-/
import Derived.Test.YtcmnhneigojpoaaVSsF
namespace Go.Proofs.Ytcmnhneigojpoaa
set_option linter.unusedSimpArgs false
set_option linter.unusedVariables false
set_option maxRecDepth 20000
open Go.V Go.RowKit Go.ChangeShapes Go.WideShapes

/-- One session as it should be. -/
def goodS (s : Ses) : Prop := isCl s.client = true ∧ 1 ≤ s.num ∧ s.num ≤ 2305843009213693952 ∧ 0 ≤ s.renewed ∧ s.renewed ≤ 2305843009213693952
def relS (x y : Ses) : Prop := x.client < y.client ∧ x.num ≠ y.num
def okS (l : List Ses) : Prop := (∀ s ∈ l, goodS s) ∧ l.Pairwise relS
instance (s : Ses) : Decidable (goodS s) := by unfold goodS; infer_instance
instance (x y : Ses) : Decidable (relS x y) := by unfold relS; infer_instance
instance (l : List Ses) : Decidable (okS l) := by unfold okS; infer_instance
def rightS (l : List Ses) : Bool := decide (okS l) && decide (l.length ≤ 5)
theorem rel_of {l : List Ses} (h : l.Pairwise relS) {i j : Nat} {x y : Ses} (hij : i < j) (hx : l[i]? = some x) (hy : l[j]? = some y) : relS x y := by
  have hj := lt_of_get hy
  have hi := lt_of_get hx
  have := List.pairwise_iff_getElem.1 h i j hi hj hij
  rw [List.getElem?_eq_getElem hi] at hx
  rw [List.getElem?_eq_getElem hj] at hy
  cases hx; cases hy
  exact this
theorem okS.up {l : List Ses} (h : okS l) : UpS l := fun i j x y hij hx hy => (rel_of h.2 hij hx hy).1
theorem okS.times {l : List Ses} (h : okS l) : timesS l := fun s hs => ⟨(h.1 s hs).2.2.2.1, (h.1 s hs).2.2.2.2⟩
theorem okS_nil : okS [] := ⟨by simp, by simp⟩
theorem has_iff {l : List Ses} {n : Int} : hasN l n = true ↔ ∃ s ∈ l, s.num = n := by simp [hasN]
theorem has_not {l : List Ses} {n : Int} : hasN l n = false ↔ ∀ s ∈ l, s.num ≠ n := by simp [hasN]
theorem okS_snoc {l : List Ses} {i : Nat} {s : Ses} (hx : l[i]? = some s) (h : okS (l.take i)) (hg : goodS s) (hp : ∀ t, 0 < i → l[i - 1]? = some t → t.client < s.client) (hn : hasN (l.take i) s.num = false) : okS (l.take (i + 1)) := by
  rw [V.take_snoc hx]
  rw [has_not] at hn
  have hi := lt_of_get hx
  refine ⟨fun d hd => ?_, List.pairwise_append.2 ⟨h.2, by simp, fun a ha b hb => ?_⟩⟩
  · rcases List.mem_append.1 hd with hd | hd
    · exact h.1 d hd
    · rw [List.mem_singleton] at hd; subst hd; exact hg
  · rw [List.mem_singleton] at hb
    subst hb
    refine ⟨?_, hn a ha⟩
    obtain ⟨k, hk⟩ := List.mem_iff_getElem?.1 ha
    have hk2 := hk
    rw [List.getElem?_take] at hk
    split at hk
    · rename_i hki
      obtain ⟨t, ht⟩ := get_of_lt (show i - 1 < l.length by omega)
      have h1 := hp t (by omega) ht
      by_cases e : k = i - 1
      · subst e
        rw [hk] at ht
        cases ht
        exact h1
      · have h2 := (rel_of h.2 (show k < i - 1 by omega) hk2 (show (l.take i)[i - 1]? = some t by rw [List.getElem?_take, if_pos (by omega)]; exact ht)).1
        omega
    · cases hk
theorem okS_not {l : List Ses} {i : Nat} {s : Ses} (hx : l[i]? = some s) (h : ¬ goodS s ∨ (0 < i ∧ ∃ t, l[i - 1]? = some t ∧ s.client ≤ t.client) ∨ hasN (l.take i) s.num = true) : ¬ okS l := by
  intro hl
  rcases h with h | ⟨h0, t, ht, hc⟩ | h
  · exact h (hl.1 s (List.mem_of_getElem? hx))
  · have := (rel_of hl.2 (show i - 1 < i by omega) ht hx).1
    omega
  · obtain ⟨t, ht, hn⟩ := has_iff.1 h
    obtain ⟨k, hk⟩ := List.mem_iff_getElem?.1 ht
    rw [List.getElem?_take] at hk
    split at hk
    · rename_i hki
      exact (rel_of hl.2 hki hk hx).2 hn
    · cases hk
theorem find_none_iff {l : List Ses} {n : Int} : findS l n = (⟨0, 0, 0⟩, false) ↔ ∀ s ∈ l, s.client ≠ n := by
  rw [findS]
  split
  · rename_i s hs
    have h1 := List.find?_some hs
    have h2 := List.mem_of_find?_eq_some hs
    constructor
    · intro h; cases h
    · intro h; exact absurd (by simpa using h1) (h s h2)
  · rename_i hs
    rw [List.find?_eq_none] at hs
    exact ⟨fun _ s h => by simpa using hs s h, fun _ => rfl⟩
/-- A list parted at a client's place. -/
theorem part_in {l : List Ses} {n : Int} {s : Ses} (h : UpS l) (hs : l[atS l n]? = some s) (hc : s.client = n) : (∀ x ∈ l.take (atS l n), x.client < n) ∧ (∀ x ∈ l.drop (atS l n + 1), n < x.client) := by
  constructor
  · intro x hx
    obtain ⟨k, hk⟩ := List.mem_iff_getElem?.1 hx
    rw [List.getElem?_take] at hk
    split at hk
    · rename_i hk1
      exact hc ▸ h k (atS l n) x s hk1 hk hs
    · cases hk
  · intro x hx
    obtain ⟨k, hk⟩ := List.mem_iff_getElem?.1 hx
    rw [List.getElem?_drop] at hk
    exact hc ▸ h (atS l n) (atS l n + 1 + k) s x (by omega) hs hk
theorem split_at {α : Type} {l : List α} {i : Nat} {s : α} (hs : l[i]? = some s) : l = l.take i ++ s :: l.drop (i + 1) := by
  have hi := lt_of_get hs
  rw [List.getElem?_eq_getElem hi] at hs
  rw [← Option.some.inj hs, List.getElem_cons_drop, List.take_append_drop]
theorem part_out {l : List Ses} {n : Int} (h : UpS l) (hno : ∀ s ∈ l, s.client ≠ n) : (∀ x ∈ l.take (atS l n), x.client < n) ∧ (∀ x ∈ l.drop (atS l n), n < x.client) := by
  obtain ⟨h1, h2⟩ := lowB_spec (fun s : Ses => cmpM s.client n) l
  constructor
  · intro x hx
    obtain ⟨k, hk⟩ := List.mem_iff_getElem?.1 hx
    rw [List.getElem?_take] at hk
    split at hk
    · rename_i hk1
      exact cmpM_neg.1 (h1 k x hk1 hk)
    · cases hk
  · intro x hx
    obtain ⟨k, hk⟩ := List.mem_iff_getElem?.1 hx
    rw [List.getElem?_drop] at hk
    have hl := lt_of_get hk
    obtain ⟨y, hy⟩ := get_of_lt (show atS l n < l.length by omega)
    have h3 := h2 y hy
    have h4 : ¬ y.client < n := fun h => by have := cmpM_neg.2 h; omega
    have h5 := hno x (List.mem_of_getElem? hk)
    have h6 := hno y (List.mem_of_getElem? hy)
    by_cases e : k = 0
    · subst e
      rw [Nat.add_zero] at hk
      rw [hk] at hy
      cases hy
      omega
    · have := h (atS l n) (atS l n + k) y x (by omega) hy hk
      omega
/-- Without a client's session. -/
def dropS (l : List Ses) (n : Int) : List Ses := l.filter fun s => decide (s.client ≠ n)
theorem drop_eq {l : List Ses} {n : Int} {s : Ses} (h : UpS l) (hs : l[atS l n]? = some s) (hc : s.client = n) : l.take (atS l n) ++ l.drop (atS l n + 1) = dropS l n := by
  obtain ⟨h1, h2⟩ := part_in h hs hc
  unfold dropS
  conv => rhs; rw [split_at hs]
  rw [List.filter_append, List.filter_cons_of_neg (by simp [hc]), List.filter_eq_self.2 (fun x hx => by have := h1 x hx; simp; omega), List.filter_eq_self.2 (fun x hx => by have := h2 x hx; simp; omega)]
/-- With a client's session renewed. -/
def newS (l : List Ses) (n now : Int) : List Ses := l.map fun s => if s.client = n then renewed s now else s
theorem map_id_of {α : Type} {f : α → α} {l : List α} (h : ∀ x ∈ l, f x = x) : l.map f = l := by
  conv => rhs; rw [← List.map_id l]
  exact List.map_congr_left h
theorem new_eq {l : List Ses} {n now : Int} {s : Ses} (h : UpS l) (hs : l[atS l n]? = some s) (hc : s.client = n) : l.set (atS l n) (renewed s now) = newS l n now := by
  obtain ⟨h1, h2⟩ := part_in h hs hc
  have hi := lt_of_get hs
  rw [List.set_eq_take_append_cons_drop, if_pos hi]
  unfold newS
  conv => rhs; rw [split_at hs]
  rw [List.map_append, List.map_cons, if_pos hc, map_id_of (fun x hx => if_neg (by have := h1 x hx; omega)), map_id_of (fun x hx => if_neg (by have := h2 x hx; omega))]
theorem ok_drop {l : List Ses} (n : Int) (h : okS l) : okS (dropS l n) := ⟨fun s hs => h.1 s (List.mem_filter.1 hs).1, h.2.filter _⟩
theorem ok_new {l : List Ses} (n : Int) {now : Int} (h0 : 0 ≤ now) (h1 : now ≤ 2305843009213693952) (h : okS l) : okS (newS l n now) := by
  refine ⟨fun s hs => ?_, ?_⟩
  · obtain ⟨t, ht, rfl⟩ := List.mem_map.1 hs
    have := h.1 t ht
    unfold goodS at this ⊢
    split
    · simp only [renewed]; refine ⟨this.1, this.2.1, this.2.2.1, by omega, by omega⟩
    · exact this
  · refine List.pairwise_map.2 (h.2.imp fun {x y} hr => ?_)
    unfold relS renewed at *
    split <;> split <;> exact hr
theorem ok_ins {l : List Ses} {n num now : Int} (h : okS l) (hno : ∀ s ∈ l, s.client ≠ n) (hh : hasN l num = false) (hg : goodS ⟨n, num, now⟩) : okS (l.take (atS l n) ++ [⟨n, num, now⟩] ++ l.drop (atS l n)) := by
  obtain ⟨h1, h2⟩ := part_out h.up hno
  rw [has_not] at hh
  have ht : ∀ x ∈ l.take (atS l n), x ∈ l := fun x hx => List.mem_of_mem_take hx
  have hd : ∀ x ∈ l.drop (atS l n), x ∈ l := fun x hx => List.mem_of_mem_drop hx
  refine ⟨fun s hs => ?_, ?_⟩
  · rcases List.mem_append.1 hs with hs | hs
    · rcases List.mem_append.1 hs with hs | hs
      · exact h.1 s (ht s hs)
      · rw [List.mem_singleton] at hs; subst hs; exact hg
    · exact h.1 s (hd s hs)
  · have hp := h.2
    conv at hp => rw [← List.take_append_drop (atS l n) l]
    have hq := List.pairwise_append.1 hp
    refine List.pairwise_append.2 ⟨List.pairwise_append.2 ⟨hq.1, by simp, fun a ha b hb => ?_⟩, hq.2.1, fun a ha b hb => ?_⟩
    · rw [List.mem_singleton] at hb; subst hb
      exact ⟨h1 a ha, hh a (ht a ha)⟩
    · rcases List.mem_append.1 ha with ha | ha
      · exact hq.2.2 a ha b hb
      · rw [List.mem_singleton] at ha; subst ha
        exact ⟨h2 b hb, fun e => hh b (hd b hb) e.symm⟩
end Go.Proofs.Ytcmnhneigojpoaa
