/-
  Plain mathematics: a thing put by its number among things that rise. No program here.
-/
import Derived.Test.YtaggdlbjgjagbaaVKey
import Derived.Test.YtaggdlbjgjagbaaVObj
namespace Go.V
set_option linter.unusedSimpArgs false
set_option linter.unusedVariables false
open Go.RowKit

section
variable {α : Type} {k : α → Int} {l : List α} {n : Int} {m s : α}
/-- A thing put by its number, in place of the one that has it. -/
def putK (k : α → Int) (l : List α) (m : α) : List α := l.filter (fun x => decide (k x < k m)) ++ m :: l.filter (fun x => decide (k m < k x))
theorem filt_all {p : α → Bool} (h : ∀ x ∈ l, p x = true) : l.filter p = l := List.filter_eq_self.2 h
theorem filt_none {p : α → Bool} (h : ∀ x ∈ l, p x = false) : l.filter p = [] := List.filter_eq_nil_iff.2 fun x hx => by rw [h x hx]; exact Bool.false_ne_true
theorem part_at {i : Nat} (hs : l[i]? = some s) : l = l.take i ++ s :: l.drop (i + 1) := by
  have hl := lt_of_get hs
  have h1 : l[i] = s := by rw [List.getElem?_eq_getElem hl] at hs; exact Option.some.inj hs
  rw [← h1, List.getElem_cons_drop, List.take_append_drop]
theorem putK_split {A B : List α} (C : List α) (hl : l = A ++ C ++ B) (hC : ∀ x ∈ C, k x = k m) (hA : ∀ x ∈ A, k x < k m) (hB : ∀ x ∈ B, k m < k x) : putK k l m = A ++ m :: B := by
  subst hl
  rw [putK, List.filter_append, List.filter_append, List.filter_append, List.filter_append]
  rw [filt_all (l := A) (fun x hx => decide_eq_true (hA x hx)), filt_none (l := C) (fun x hx => decide_eq_false (by have := hC x hx; omega)), filt_none (l := B) (fun x hx => decide_eq_false (by have := hB x hx; omega)),
    filt_none (l := A) (fun x hx => decide_eq_false (by have := hA x hx; omega)), filt_none (l := C) (fun x hx => decide_eq_false (by have := hC x hx; omega)), filt_all (l := B) (fun x hx => decide_eq_true (hB x hx))]
  simp
theorem putK_in (h : UpK k l) (hs : l[atK k l (k m)]? = some s) (hc : k s = k m) : putK k l m = l.set (atK k l (k m)) m := by
  obtain ⟨h1, h2⟩ := partK_in h hs hc
  rw [putK_split [s] (by rw [List.append_assoc]; exact part_at hs) (fun x hx => by rw [List.mem_singleton] at hx; rw [hx]; exact hc) h1 h2, List.set_eq_take_append_cons_drop, if_pos (lt_of_get hs)]
theorem putK_out (h : UpK k l) (hno : ∀ s ∈ l, k s ≠ k m) : putK k l m = l.take (atK k l (k m)) ++ [m] ++ l.drop (atK k l (k m)) := by
  obtain ⟨h1, h2⟩ := partK_out h hno
  rw [putK_split [] (by rw [List.append_nil, List.take_append_drop]) (fun x hx => by cases hx) h1 h2]
  simp
theorem putK_same : (putK k l m).find? (isK k (k m)) = some m := by
  rw [putK, List.find?_append, List.find?_cons, isK_iff.2 rfl]
  rw [List.find?_eq_none.2 (fun x hx => ?_)]
  · rfl
  · have := (List.mem_filter.1 hx).2
    rw [decide_eq_true_eq] at this
    rw [isK_iff]; omega
theorem find_filt {p q : α → Bool} (h : ∀ x, q x = true → p x = true) : (l.filter p).find? q = l.find? q := by
  rw [List.find?_filter]
  congr 1
  funext x
  cases hq : q x with
  | false => simp
  | true => simp [h x hq]
theorem find_filt0 {p q : α → Bool} (h : ∀ x, q x = true → p x = false) : (l.filter p).find? q = none := by
  rw [List.find?_eq_none]
  intro x hx hq
  have := (List.mem_filter.1 hx).2
  rw [h x hq] at this; cases this
theorem putK_other (hn : n ≠ k m) : (putK k l m).find? (isK k n) = l.find? (isK k n) := by
  have hm : isK k n m = false := by rw [isK]; exact decide_eq_false (fun h => hn h.symm)
  rw [putK, List.find?_append, List.find?_cons, hm]
  rcases Int.lt_or_gt_of_ne hn with h | h
  · rw [find_filt (p := fun x => decide (k x < k m)) (fun x hx => by rw [isK_iff] at hx; exact decide_eq_true (by omega)), find_filt0 (p := fun x => decide (k m < k x)) (fun x hx => by rw [isK_iff] at hx; exact decide_eq_false (by omega))]
    simp
  · rw [find_filt0 (p := fun x => decide (k x < k m)) (fun x hx => by rw [isK_iff] at hx; exact decide_eq_false (by omega)), find_filt (p := fun x => decide (k m < k x)) (fun x hx => by rw [isK_iff] at hx; exact decide_eq_true (by omega))]
    simp
theorem putK_mem {x : α} (h : x ∈ putK k l m) : x = m ∨ x ∈ l := by
  rw [putK, List.mem_append, List.mem_cons] at h
  rcases h with h | h | h
  · exact .inr (List.mem_filter.1 h).1
  · exact .inl h
  · exact .inr (List.mem_filter.1 h).1
theorem putK_up (h : UpK k l) : UpK k (putK k l m) := by
  refine UpK.of ?_
  have hp := h.pair
  rw [putK, List.pairwise_append, List.pairwise_cons]
  refine ⟨hp.filter _, ⟨fun y hy => by have := (List.mem_filter.1 hy).2; exact of_decide_eq_true this, hp.filter _⟩, fun x hx y hy => ?_⟩
  have h1 := of_decide_eq_true (List.mem_filter.1 hx).2
  rcases List.mem_cons.1 hy with rfl | hy
  · exact h1
  · have h2 := of_decide_eq_true (List.mem_filter.1 hy).2
    omega
theorem putK_len : (putK k l m).length ≤ l.length + 1 := by
  rw [putK, List.length_append, List.length_cons]
  have h1 : (l.filter (fun x => decide (k m < k x))).length ≤ (l.filter (fun x => !decide (k x < k m))).length := by
    rw [← List.countP_eq_length_filter, ← List.countP_eq_length_filter]
    refine List.countP_mono_left fun x _ hx => ?_
    have := of_decide_eq_true hx
    rw [decide_eq_false (by omega)]; rfl
  have h2 : (l.filter (fun x => decide (k x < k m))).length + (l.filter (fun x => !decide (k x < k m))).length = l.length := by
    rw [← List.countP_eq_length_filter, ← List.countP_eq_length_filter]
    have := List.length_eq_countP_add_countP (fun x => decide (k x < k m)) (l := l)
    rw [this]
    congr 1
    refine List.countP_congr fun x _ => ?_
    simp
  omega
theorem putK_ne : putK k l m ≠ [] := by rw [putK]; simp
theorem upK_find {x : α} (h : UpK k l) (hx : x ∈ l) : l.find? (isK k (k x)) = some x := by
  obtain ⟨i, hi⟩ := List.mem_iff_getElem?.1 hx
  refine findK_first hi (List.find?_eq_none.2 fun y hy => ?_) (isK_iff.2 rfl)
  obtain ⟨j, hj, hjy⟩ := List.mem_take_iff_getElem.1 hy
  have := h j i y x (by omega) (by rw [← hjy, List.getElem?_eq_getElem]) hi
  rw [isK_iff]; omega
theorem find_key {x : α} (h : l.find? (isK k n) = some x) : k x = n ∧ x ∈ l := ⟨isK_iff.1 (List.find?_some h), List.mem_of_find?_eq_some h⟩
theorem UpK.tail {x : α} (h : UpK k (x :: l)) : UpK k l ∧ ∀ y ∈ l, k x < k y := by
  have hp := List.pairwise_cons.1 h.pair
  exact ⟨UpK.of hp.2, hp.1⟩
/-- Things that rise are told by what is found. -/
theorem upK_ext : ∀ {xs ys : List α}, UpK k xs → UpK k ys → (∀ c, xs.find? (isK k c) = ys.find? (isK k c)) → xs = ys
  | [], [], _, _, _ => rfl
  | [], y :: ys, _, hy, h => by have := h (k y); rw [upK_find hy (List.mem_cons_self ..)] at this; cases this
  | x :: xs, [], hx, _, h => by have := h (k x); rw [upK_find hx (List.mem_cons_self ..)] at this; cases this
  | x :: xs, y :: ys, hx, hy, h => by
    obtain ⟨tx, ux⟩ := hx.tail
    obtain ⟨ty, uy⟩ := hy.tail
    have h1 := h (k x)
    rw [upK_find hx (List.mem_cons_self ..)] at h1
    have h2 := h (k y)
    rw [upK_find hy (List.mem_cons_self ..)] at h2
    have e : x = y := by
      rcases List.mem_cons.1 (find_key h1.symm).2 with e | e
      · exact e
      · rcases List.mem_cons.1 (find_key h2).2 with f | f
        · exact f.symm
        · have := uy x e; have := ux y f; omega
    subst e
    congr 1
    refine upK_ext tx ty fun c => ?_
    have h3 := h c
    rw [List.find?_cons, List.find?_cons] at h3
    by_cases hc : k x = c
    · rw [List.find?_eq_none.2 (fun z hz => by have := ux z hz; rw [isK_iff]; omega), List.find?_eq_none.2 (fun z hz => by have := uy z hz; rw [isK_iff]; omega)]
    · have hf : isK k c x = false := by rw [isK]; exact decide_eq_false hc
      rw [hf] at h3
      exact h3
theorem find_none_key (h : l.find? (isK k n) = none) : ∀ x ∈ l, k x ≠ n := fun x hx e => by
  have := List.find?_eq_none.1 h x hx
  rw [isK_iff] at this
  exact this e
/-- A thing put among things that rise, as one goes along them. -/
def insS (k : α → Int) (m : α) (s : Bool × List α) (x : α) : Bool × List α := if k x = k m then (true, s.2 ++ [m]) else if s.1 = false ∧ k m < k x then (true, s.2 ++ [m, x]) else (s.1, s.2 ++ [x])
def insP (k : α → Int) (m : α) (l : List α) (i : Nat) : Bool × List α := (l.take i).foldl (insS k m) (false, [])
theorem insP_0 : insP k m l 0 = (false, []) := rfl
theorem insP_succ {i : Nat} (hx : l[i]? = some s) : insP k m l (i + 1) = insS k m (insP k m l i) s := by
  rw [insP, V.take_snoc hx, List.foldl_append]; rfl
theorem ins_lt : ∀ {A acc : List α}, (∀ x ∈ A, k x < k m) → A.foldl (insS k m) (false, acc) = (false, acc ++ A)
  | [], acc, _ => by simp
  | a :: A, acc, h => by
    have h1 := h a (by simp)
    rw [List.foldl_cons, insS, if_neg (by omega), if_neg (by omega), ins_lt (fun x hx => h x (by simp [hx])), List.append_assoc]; rfl
theorem ins_gt : ∀ {B acc : List α}, (∀ x ∈ B, k m < k x) → B.foldl (insS k m) (true, acc) = (true, acc ++ B)
  | [], acc, _ => by simp
  | b :: B, acc, h => by
    have h1 := h b (by simp)
    rw [List.foldl_cons, insS, if_neg (by omega), if_neg (by simp), ins_gt (fun x hx => h x (by simp [hx])), List.append_assoc]; rfl
theorem insP_end (h : UpK k l) : (if (insP k m l l.length).1 = true then (insP k m l l.length).2 else (insP k m l l.length).2 ++ [m]) = putK k l m := by
  rw [insP, List.take_length]
  rcases findK_place (n := k m) h with ⟨-, s, hs, hc, -⟩ | ⟨-, -, hno⟩
  · obtain ⟨h1, h2⟩ := partK_in h hs hc
    rw [putK_split [s] (by rw [List.append_assoc]; exact part_at hs) (fun x hx => by rw [List.mem_singleton] at hx; rw [hx]; exact hc) h1 h2]
    conv => lhs; rw [part_at hs]
    rw [List.foldl_append, ins_lt h1, List.foldl_cons, insS, if_pos hc, ins_gt h2]
    simp
  · obtain ⟨h1, h2⟩ := partK_out h hno
    rw [putK_out h hno]
    conv => lhs; rw [← List.take_append_drop (atK k l (k m)) l]
    rw [List.foldl_append, ins_lt h1]
    generalize l.drop (atK k l (k m)) = B at h2
    match B, h2 with
    | [], _ => simp
    | b :: B, h2 =>
      have h3 := h2 b (by simp)
      have e : insS k m (false, [] ++ l.take (atK k l (k m))) b = (true, [] ++ l.take (atK k l (k m)) ++ [m, b]) := by
        rw [insS, if_neg (show ¬ k b = k m by omega), if_pos ⟨rfl, h3⟩]
      rw [List.foldl_cons, e, ins_gt (fun x hx => h2 x (by simp [hx]))]
      simp
theorem insP_len : ∀ (i : Nat), (insP k m l i).2.length ≤ 2 * i
  | 0 => by simp [insP_0]
  | i + 1 => by
    have ih := insP_len i
    cases hx : l[i]? with
    | none =>
      have : l.length ≤ i := by simpa using hx
      rw [insP, List.take_of_length_le (by omega)]
      rw [insP, List.take_of_length_le (by omega)] at ih
      omega
    | some s =>
      rw [insP_succ hx, insS]
      split
      · simp; omega
      · split
        · simp; omega
        · simp; omega
end
section
variable {α β : Type} {R : α → β → Prop} {k : α → Int} {k' : β → Int}
theorem all2_low (hk : ∀ a b, R a b → k a = k' b) (n : Int) : ∀ {as : List α} {bs : List β}, All2 R as bs → atK k as n = atK k' bs n
  | [], [], _ => rfl
  | a :: as, b :: bs, h => by
    have ih := all2_low hk n h.2
    unfold atK lowB at ih ⊢
    rw [List.findIdx_cons, List.findIdx_cons, ih]
    simp only [hk a b h.1]
theorem all2_up (hk : ∀ a b, R a b → k a = k' b) {as : List α} {bs : List β} (h : All2 R as bs) (hup : UpK k' bs) : UpK k as := fun i j x y hij hx hy => by
  obtain ⟨m, h1, h2⟩ := h.get hx
  obtain ⟨p, h3, h4⟩ := h.get hy
  have := hup i j m p hij h1 h3
  rw [hk x m h2, hk y p h4]; exact this
/-- Put in both at once. -/
theorem all2_put (hk : ∀ a b, R a b → k a = k' b) {as : List α} {bs : List β} {a : α} {b : β} (h : All2 R as bs) (hr : R a b) : All2 R (putK k as a) (putK k' bs b) := by
  have hf : ∀ (p : Int → Bool) {as : List α} {bs : List β}, All2 R as bs → All2 R (as.filter fun x => p (k x)) (bs.filter fun x => p (k' x)) := by
    intro p as
    induction as with
    | nil => intro bs h; match bs, h with | [], _ => trivial
    | cons x as ih =>
      intro bs h
      match bs, h with
      | y :: bs, h =>
        rw [List.filter_cons, List.filter_cons, hk x y h.1]
        cases p (k' y) with
        | true => exact ⟨h.1, ih h.2⟩
        | false => exact ih h.2
  rw [putK, putK, hk a b hr]
  exact (hf (fun z => decide (z < k' b)) h).app ⟨hr, hf (fun z => decide (k' b < z)) h⟩
theorem all2_find (hk : ∀ a b, R a b → k a = k' b) (c : Int) : ∀ {as : List α} {bs : List β}, All2 R as bs → (∃ a b, as.find? (isK k c) = some a ∧ bs.find? (isK k' c) = some b ∧ R a b) ∨ (as.find? (isK k c) = none ∧ bs.find? (isK k' c) = none)
  | [], [], _ => .inr ⟨rfl, rfl⟩
  | a :: as, b :: bs, h => by
    have e : isK k c a = isK k' c b := by rw [isK, isK, hk a b h.1]
    rw [List.find?_cons, List.find?_cons, e]
    cases isK k' c b with
    | true => exact .inl ⟨a, b, rfl, rfl, h.1⟩
    | false => exact all2_find hk c h.2
end
end Go.V
