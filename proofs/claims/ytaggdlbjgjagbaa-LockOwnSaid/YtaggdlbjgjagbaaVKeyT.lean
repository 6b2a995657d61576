/-
  Plain mathematics: lists that rise by a text of their things; a thing put by its text. No program here.
-/
import Derived.Test.YtaggdlbjgjagbaaVCmp
import Derived.Test.YtaggdlbjgjagbaaVStr
import Derived.Test.YtaggdlbjgjagbaaVPut
import Derived.Lib.Bytealg
namespace Go.V
set_option linter.unusedSimpArgs false
set_option linter.unusedVariables false
open Go.RowKit

def cmpT (a b : ByteArray) : Int := Lib.compareBytes a.data.toList b.data.toList
theorem cmpL_neg : ∀ (a b : List UInt8), Lib.compareBytes a b < 0 ↔ Op.bytesLess a b = true
  | [], [] => by simp [Lib.compareBytes, Op.bytesLess]
  | [], _ :: _ => by simp [Lib.compareBytes, Op.bytesLess]
  | _ :: _, [] => by simp [Lib.compareBytes, Op.bytesLess]
  | x :: a, y :: b => by
    have ih := cmpL_neg a b
    unfold Lib.compareBytes
    by_cases h : x < y
    · simp [Op.bytesLess, h]
    · by_cases h2 : y < x
      · have : x ≠ y := fun e => by subst e; exact h h2
        simp [Op.bytesLess, h, h2, this]
      · have e : x = y := by
          have h1' := UInt8.not_lt.1 h
          have h2' := UInt8.not_lt.1 h2
          exact UInt8.le_antisymm h2' h1'
        subst e
        simp [Op.bytesLess, h, ih]
theorem cmpL_zero : ∀ (a b : List UInt8), Lib.compareBytes a b = 0 ↔ a = b
  | [], [] => by simp [Lib.compareBytes]
  | [], _ :: _ => by simp [Lib.compareBytes]
  | _ :: _, [] => by simp [Lib.compareBytes]
  | x :: a, y :: b => by
    have ih := cmpL_zero a b
    unfold Lib.compareBytes
    by_cases h : x < y
    · have : x ≠ y := fun e => by subst e; exact UInt8.lt_irrefl x h
      simp [h, this]
    · by_cases h2 : y < x
      · have : x ≠ y := fun e => by subst e; exact h h2
        simp [h, h2, this]
      · have e : x = y := by
          have h1' := UInt8.not_lt.1 h
          have h2' := UInt8.not_lt.1 h2
          exact UInt8.le_antisymm h2' h1'
        subst e
        simp [h, ih]
theorem cmpT_neg {a b : ByteArray} : cmpT a b < 0 ↔ ltS a b = true := cmpL_neg _ _
theorem cmpT_zero {a b : ByteArray} : cmpT a b = 0 ↔ a = b := by
  rw [cmpT, cmpL_zero]
  constructor
  · intro h
    have h2 : a.data = b.data := Array.toList_inj.1 h
    cases a; cases b; simp at h2; rw [h2]
  · intro h; rw [h]
theorem ltS_cases (a b : ByteArray) : ltS a b = true ∨ a = b ∨ ltS b a = true := by
  cases h1 : ltS a b with
  | true => exact .inl rfl
  | false =>
    cases h2 : ltS b a with
    | true => exact .inr (.inr rfl)
    | false => exact .inr (.inl (ltS_tri h1 h2))
section
variable {α : Type} {k : α → ByteArray} {l : List α} {n : ByteArray} {m s : α}
/-- By rising texts. -/
def UpT (k : α → ByteArray) (l : List α) : Prop := l.Pairwise fun x y => ltS (k x) (k y) = true
theorem UpT.at (h : UpT k l) {i j : Nat} {x y : α} (hij : i < j) (hx : l[i]? = some x) (hy : l[j]? = some y) : ltS (k x) (k y) = true := by
  have hj := lt_of_get hy
  have hi := lt_of_get hx
  have := List.pairwise_iff_getElem.1 h i j hi hj hij
  rw [List.getElem?_eq_getElem hi] at hx
  rw [List.getElem?_eq_getElem hj] at hy
  cases hx; cases hy
  exact this
theorem UpT.rising (h : UpT k l) (n : ByteArray) : Rising (fun s => cmpT (k s) n) l := fun i j x y hij hx hy hc => by
  rw [cmpT_neg] at hc ⊢
  rcases Nat.lt_or_ge i j with h2 | h2
  · exact ltS_trans (h.at h2 hx hy) hc
  · have : i = j := by omega
    subst this
    rw [hx] at hy
    cases hy
    exact hc
def atT (k : α → ByteArray) (l : List α) (n : ByteArray) : Nat := lowB (fun s => cmpT (k s) n) l
def inT (k : α → ByteArray) (l : List α) (n : ByteArray) : Bool := hitB (fun s => cmpT (k s) n) l
theorem atT_le (k : α → ByteArray) (l : List α) (n : ByteArray) : atT k l n ≤ l.length := lowB_le _ _
def isT (k : α → ByteArray) (n : ByteArray) (s : α) : Bool := decide (k s = n)
theorem isT_iff {s : α} : isT k n s = true ↔ k s = n := by simp [isT]
theorem lowT (k : α → ByteArray) (l : List α) (n : ByteArray) : (∀ (i : Nat) (x : α), i < atT k l n → l[i]? = some x → ltS (k x) n = true) ∧ (∀ x, l[atT k l n]? = some x → ltS (k x) n = false) := by
  obtain ⟨h1, h2⟩ := lowK_spec (fun s => cmpT (k s) n) l
  refine ⟨fun i x hi hx => cmpT_neg.1 (h1 i x hi hx), fun x hx => ?_⟩
  have := h2 x hx
  cases hq : ltS (k x) n with
  | false => rfl
  | true => have := cmpT_neg.2 hq; omega
/-- Where a text stands, if it is there. -/
theorem findT_place (hup : UpT k l) (n : ByteArray) : (inT k l n = true ∧ ∃ s, l[atT k l n]? = some s ∧ k s = n ∧ l.find? (isT k n) = some s) ∨ (inT k l n = false ∧ l.find? (isT k n) = none ∧ ∀ s ∈ l, k s ≠ n) := by
  obtain ⟨h1, h2⟩ := lowT k l n
  cases hin : inT k l n
  · right
    have hall : ∀ s ∈ l, k s ≠ n := by
      intro s hs he
      obtain ⟨j, hk⟩ := List.mem_iff_getElem?.1 hs
      have hkl := lt_of_get hk
      rcases Nat.lt_trichotomy j (atT k l n) with h | h | h
      · have := h1 j s h hk; rw [he, ltS_irr] at this; cases this
      · rw [inT, hitB] at hin
        rw [h, atT] at hk
        rw [hk] at hin
        have : ¬ cmpT (k s) n = 0 := by simpa using hin
        exact this (cmpT_zero.2 he)
      · obtain ⟨y, hy⟩ := get_of_lt (show atT k l n < l.length by omega)
        have hy2 := h2 y hy
        have h3 := hup.at h hy hk
        rw [he] at h3
        rw [h3] at hy2; cases hy2
    exact ⟨rfl, List.find?_eq_none.2 (fun s hs => by simpa [isT] using hall s hs), hall⟩
  · left
    rw [inT, hitB] at hin
    cases hx : l[lowB (fun s => cmpT (k s) n) l]? with
    | none => rw [hx] at hin; cases hin
    | some s =>
      rw [hx] at hin
      have hc : k s = n := cmpT_zero.1 (by simpa using hin)
      refine ⟨rfl, s, hx, hc, findK_first hx (List.find?_eq_none.2 fun x hq => ?_) (isT_iff.2 hc)⟩
      obtain ⟨j, hj, hjx⟩ := List.mem_take_iff_getElem.1 hq
      have := h1 j x (by have : atT k l n = lowB (fun s => cmpT (k s) n) l := rfl; omega) (by rw [← hjx, List.getElem?_eq_getElem])
      rw [isT_iff]
      intro e
      rw [e, ltS_irr] at this; cases this
theorem partT_in (h : UpT k l) (hs : l[atT k l n]? = some s) (hc : k s = n) : (∀ x ∈ l.take (atT k l n), ltS (k x) n = true) ∧ (∀ x ∈ l.drop (atT k l n + 1), ltS n (k x) = true) := by
  constructor
  · intro x hx
    obtain ⟨j, hj, hjx⟩ := List.mem_take_iff_getElem.1 hx
    exact (lowT k l n).1 j x (by omega) (by rw [← hjx, List.getElem?_eq_getElem])
  · intro x hx
    obtain ⟨j, hk⟩ := List.mem_iff_getElem?.1 hx
    rw [List.getElem?_drop] at hk
    exact hc ▸ h.at (by omega) hs hk
theorem partT_out (h : UpT k l) (hno : ∀ s ∈ l, k s ≠ n) : (∀ x ∈ l.take (atT k l n), ltS (k x) n = true) ∧ (∀ x ∈ l.drop (atT k l n), ltS n (k x) = true) := by
  obtain ⟨h1, h2⟩ := lowT k l n
  constructor
  · intro x hx
    obtain ⟨j, hj, hjx⟩ := List.mem_take_iff_getElem.1 hx
    exact h1 j x (by omega) (by rw [← hjx, List.getElem?_eq_getElem])
  · intro x hx
    obtain ⟨j, hk⟩ := List.mem_iff_getElem?.1 hx
    rw [List.getElem?_drop] at hk
    have hl := lt_of_get hk
    obtain ⟨y, hy⟩ := get_of_lt (show atT k l n < l.length by omega)
    have h3 := h2 y hy
    have hy1 : ltS n (k y) = true := by
      rcases ltS_cases (k y) n with q | q | q
      · rw [q] at h3; cases h3
      · exact absurd q (hno y (List.mem_of_getElem? hy))
      · exact q
    by_cases e : j = 0
    · subst e
      rw [Nat.add_zero, hy] at hk
      cases hk; exact hy1
    · exact ltS_trans hy1 (h.at (show atT k l n < atT k l n + j by omega) hy hk)
/-- A thing put by its text, in place of the one that has it. -/
def putT (k : α → ByteArray) (l : List α) (m : α) : List α := l.filter (fun x => ltS (k x) (k m)) ++ m :: l.filter (fun x => ltS (k m) (k x))
theorem putT_split {A B : List α} (C : List α) (hl : l = A ++ C ++ B) (hC : ∀ x ∈ C, k x = k m) (hA : ∀ x ∈ A, ltS (k x) (k m) = true) (hB : ∀ x ∈ B, ltS (k m) (k x) = true) : putT k l m = A ++ m :: B := by
  subst hl
  rw [putT, List.filter_append, List.filter_append, List.filter_append, List.filter_append]
  rw [filt_all (l := A) hA, filt_none (l := C) (fun x hx => by rw [hC x hx, ltS_irr]), filt_none (l := B) (fun x hx => ltS_asym (hB x hx)),
    filt_none (l := A) (fun x hx => ltS_asym (hA x hx)), filt_none (l := C) (fun x hx => by rw [hC x hx, ltS_irr]), filt_all (l := B) hB]
  simp
theorem putT_in (h : UpT k l) (hs : l[atT k l (k m)]? = some s) (hc : k s = k m) : putT k l m = l.set (atT k l (k m)) m := by
  obtain ⟨h1, h2⟩ := partT_in h hs hc
  rw [putT_split [s] (by rw [List.append_assoc]; exact part_at hs) (fun x hx => by rw [List.mem_singleton] at hx; rw [hx]; exact hc) h1 h2, List.set_eq_take_append_cons_drop, if_pos (lt_of_get hs)]
theorem putT_out (h : UpT k l) (hno : ∀ s ∈ l, k s ≠ k m) : putT k l m = l.take (atT k l (k m)) ++ [m] ++ l.drop (atT k l (k m)) := by
  obtain ⟨h1, h2⟩ := partT_out h hno
  rw [putT_split [] (by rw [List.append_nil, List.take_append_drop]) (fun x hx => by cases hx) h1 h2]
  simp
theorem putT_mem {x : α} (h : x ∈ putT k l m) : x = m ∨ (x ∈ l ∧ k x ≠ k m) := by
  rw [putT, List.mem_append, List.mem_cons] at h
  rcases h with h | h | h
  · exact .inr ⟨(List.mem_filter.1 h).1, ltS_ne (List.mem_filter.1 h).2⟩
  · exact .inl h
  · exact .inr ⟨(List.mem_filter.1 h).1, (ltS_ne (List.mem_filter.1 h).2).symm⟩
theorem putT_self : m ∈ putT k l m := by rw [putT]; simp
theorem putT_old {x : α} (hx : x ∈ l) (hn : k x ≠ k m) : x ∈ putT k l m := by
  rw [putT, List.mem_append, List.mem_cons]
  rcases ltS_cases (k x) (k m) with h | h | h
  · exact .inl (List.mem_filter.2 ⟨hx, h⟩)
  · exact absurd h hn
  · exact .inr (.inr (List.mem_filter.2 ⟨hx, h⟩))
theorem putT_up (h : UpT k l) : UpT k (putT k l m) := by
  unfold UpT at *
  rw [putT, List.pairwise_append, List.pairwise_cons]
  refine ⟨h.filter _, ⟨fun y hy => (List.mem_filter.1 hy).2, h.filter _⟩, fun x hx y hy => ?_⟩
  have h1 := (List.mem_filter.1 hx).2
  rcases List.mem_cons.1 hy with rfl | hy
  · exact h1
  · exact ltS_trans h1 (List.mem_filter.1 hy).2
theorem putT_new_len (h : UpT k l) (hno : ∀ s ∈ l, k s ≠ k m) : (putT k l m).length = l.length + 1 := by
  rw [putT_out h hno, List.length_append, List.length_append, List.length_take, List.length_drop, List.length_singleton]
  have := atT_le k l (k m)
  omega
theorem putT_in_len (h : UpT k l) (hs : s ∈ l) (hc : k s = k m) : (putT k l m).length = l.length := by
  rcases findT_place h (k m) with ⟨-, y, hy, hyc, -⟩ | ⟨-, -, hno⟩
  · rw [putT_in h hy hyc, List.length_set]
  · exact absurd hc (hno s hs)
theorem UpT.inj (h : UpT k l) {x y : α} (hx : x ∈ l) (hy : y ∈ l) (he : k x = k y) : x = y := by
  obtain ⟨i, hi⟩ := List.mem_iff_getElem?.1 hx
  obtain ⟨j, hj⟩ := List.mem_iff_getElem?.1 hy
  rcases Nat.lt_trichotomy i j with q | q | q
  · have := h.at q hi hj; rw [he, ltS_irr] at this; cases this
  · subst q; rw [hi] at hj; exact Option.some.inj hj
  · have := h.at q hj hi; rw [he, ltS_irr] at this; cases this
theorem upT_find {x : α} (h : UpT k l) (hx : x ∈ l) : l.find? (isT k (k x)) = some x := by
  rcases findT_place h (k x) with ⟨-, y, hy, hyc, hf⟩ | ⟨-, -, hno⟩
  · rw [hf, h.inj (List.mem_of_getElem? hy) hx hyc]
  · exact absurd rfl (hno x hx)
theorem findT_key {x : α} (h : l.find? (isT k n) = some x) : k x = n ∧ x ∈ l := ⟨isT_iff.1 (List.find?_some h), List.mem_of_find?_eq_some h⟩
theorem findT_none (h : l.find? (isT k n) = none) : ∀ x ∈ l, k x ≠ n := fun x hx e => by
  have := List.find?_eq_none.1 h x hx
  rw [isT_iff] at this
  exact this e
theorem findT_no (h : ∀ x ∈ l, k x ≠ n) : l.find? (isT k n) = none := List.find?_eq_none.2 fun x hx => by rw [isT_iff]; exact h x hx
theorem putT_same : (putT k l m).find? (isT k (k m)) = some m := by
  rw [putT, List.find?_append, List.find?_cons, isT_iff.2 rfl]
  rw [List.find?_eq_none.2 (fun x hx => ?_)]
  · rfl
  · have := ltS_ne (List.mem_filter.1 hx).2
    rw [isT_iff]; exact this
theorem putT_other (h : UpT k l) (hn : n ≠ k m) : (putT k l m).find? (isT k n) = l.find? (isT k n) := by
  cases hf : l.find? (isT k n) with
  | some x =>
    obtain ⟨h1, h2⟩ := findT_key hf
    have := upT_find (putT_up (m := m) h) (putT_old h2 (by rw [h1]; exact hn))
    rw [h1] at this; exact this
  | none =>
    refine findT_no fun x hx e => ?_
    rcases putT_mem hx with rfl | ⟨hx, -⟩
    · exact hn e.symm
    · exact findT_none hf x hx e
end
section
variable {α β : Type} {R : α → β → Prop} {k : α → ByteArray} {k' : β → ByteArray}
theorem all2_lowT (hk : ∀ a b, R a b → k a = k' b) (n : ByteArray) : ∀ {xs : List α} {ys : List β}, All2 R xs ys → atT k xs n = atT k' ys n
  | [], [], _ => rfl
  | a :: xs, b :: ys, h => by
    have ih := all2_lowT hk n h.2
    unfold atT lowB at ih ⊢
    rw [List.findIdx_cons, List.findIdx_cons, ih]
    simp only [hk a b h.1]
theorem all2_upT (hk : ∀ a b, R a b → k a = k' b) : ∀ {xs : List α} {ys : List β}, All2 R xs ys → UpT k' ys → UpT k xs
  | [], [], _, _ => List.Pairwise.nil
  | a :: xs, b :: ys, h, hu => by
    have hu := List.pairwise_cons.1 hu
    refine List.pairwise_cons.2 ⟨fun x hx => ?_, all2_upT hk h.2 hu.2⟩
    obtain ⟨i, hi⟩ := List.mem_iff_getElem?.1 hx
    obtain ⟨y, hy, hr⟩ := All2.get h.2 hi
    rw [hk a b h.1, hk x y hr]
    exact hu.1 y (List.mem_of_getElem? hy)
theorem all2_filtT (hk : ∀ a b, R a b → k a = k' b) (p : ByteArray → Bool) : ∀ {xs : List α} {ys : List β}, All2 R xs ys → All2 R (xs.filter fun x => p (k x)) (ys.filter fun x => p (k' x))
  | [], [], _ => trivial
  | x :: xs, y :: ys, h => by
    rw [List.filter_cons, List.filter_cons, hk x y h.1]
    cases p (k' y) with
    | true => exact ⟨h.1, all2_filtT hk p h.2⟩
    | false => exact all2_filtT hk p h.2
theorem all2_putT (hk : ∀ a b, R a b → k a = k' b) {xs : List α} {ys : List β} {a : α} {b : β} (h : All2 R xs ys) (hr : R a b) : All2 R (putT k xs a) (putT k' ys b) := by
  rw [putT, putT, hk a b hr]
  exact (all2_filtT hk (fun z => ltS z (k' b)) h).app ⟨hr, all2_filtT hk (fun z => ltS (k' b) z) h⟩
theorem all2_findT (hk : ∀ a b, R a b → k a = k' b) (c : ByteArray) : ∀ {xs : List α} {ys : List β}, All2 R xs ys → (∃ a b, xs.find? (isT k c) = some a ∧ ys.find? (isT k' c) = some b ∧ R a b) ∨ (xs.find? (isT k c) = none ∧ ys.find? (isT k' c) = none)
  | [], [], _ => .inr ⟨rfl, rfl⟩
  | a :: xs, b :: ys, h => by
    have e : isT k c a = isT k' c b := by rw [isT, isT, hk a b h.1]
    rw [List.find?_cons, List.find?_cons, e]
    cases isT k' c b with
    | true => exact .inl ⟨a, b, rfl, rfl, h.1⟩
    | false => exact all2_findT hk c h.2
end
end Go.V
