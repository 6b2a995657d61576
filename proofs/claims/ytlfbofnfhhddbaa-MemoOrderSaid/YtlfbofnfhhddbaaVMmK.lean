/-
  Plain mathematics of memos: answers of unlike clients kept in any order. No walk here.
-/
import Derived.Test.YtlfbofnfhhddbaaVMmH
namespace Go.Proofs.Ytlfbofnfhhddbaa
set_option linter.unusedSimpArgs false
set_option linter.unusedVariables false
set_option maxRecDepth 20000
open Go.V Go.RowKit Go.ChangeShapes Go.WideShapes

/-- Answers, one behind the other. -/
def keepL (xs : List Mm) : List Mm := xs.foldl keepN []
theorem keepL_snoc (xs : List Mm) (m : Mm) : keepL (xs ++ [m]) = keepN (keepL xs) m := by simp [keepL]
/-- Each may be, and no two are of one client. -/
def Apt (xs : List Mm) : Prop := (∀ m ∈ xs, mayN m = true) ∧ xs.Pairwise fun a b => a.client ≠ b.client
theorem Apt.init {xs : List Mm} {m : Mm} (h : Apt (xs ++ [m])) : Apt xs ∧ mayN m = true ∧ ∀ x ∈ xs, x.client ≠ m.client := by
  obtain ⟨h1, h2⟩ := h
  rw [List.pairwise_append] at h2
  exact ⟨⟨fun x hx => h1 x (by simp [hx]), h2.1⟩, h1 m (by simp), fun x hx => h2.2.2 x hx m (by simp)⟩
theorem find_none_of {xs : List Mm} {c : Int} (h : ∀ x ∈ xs, x.client ≠ c) : xs.find? (isK Mm.client c) = none := by
  rw [List.find?_eq_none]
  intro x hx
  rw [isK_iff]
  exact h x hx
theorem put_len_new {ms : List Mm} {m : Mm} (h : UpK Mm.client ms) (hno : ms.find? (isK Mm.client m.client) = none) : (putK Mm.client ms m).length = ms.length + 1 := by
  rw [putK_out h (find_none_key hno), List.length_append, List.length_append, List.length_take, List.length_drop, List.length_singleton]
  have := atK_le Mem.client [] 0
  have := atK_le Mm.client ms m.client
  omega
theorem keepL_all : ∀ (n : Nat) (xs : List Mm), xs.length = n → Apt xs → rightN (keepL xs) = true ∧ (keepL xs).length = xs.length ∧ ∀ c, (keepL xs).find? (isK Mm.client c) = xs.find? (isK Mm.client c)
  | 0, xs, hn, _ => by
    have : xs = [] := List.length_eq_zero_iff.1 hn
    subst this
    exact ⟨rfl, rfl, fun _ => rfl⟩
  | n + 1, xs, hn, h => by
    have hne : xs ≠ [] := fun e => by rw [e] at hn; cases hn
    obtain ⟨ys, m, rfl⟩ : ∃ ys m, xs = ys ++ [m] := ⟨_, _, (List.dropLast_concat_getLast hne).symm⟩
    obtain ⟨hy, hm, hd⟩ := h.init
    have hl : ys.length = n := by simpa using hn
    obtain ⟨i1, i2, i3⟩ := keepL_all n ys hl hy
    have hno : (keepL ys).find? (isK Mm.client m.client) = none := by rw [i3, find_none_of hd]
    rw [keepL_snoc]
    refine ⟨keep_right m i1, ?_, fun c => ?_⟩
    · rw [keepN, if_pos ⟨hm, fresh_none hno⟩, put_len_new (right_up i1) hno, i2]; simp
    · rw [List.find?_append]
      by_cases hc : c = m.client
      · subst hc
        rw [keep_same hm (fresh_none hno), find_none_of hd]
        simp [List.find?_cons, isK_iff.2 (show m.client = m.client from rfl)]
      · rw [keep_other hc, i3]
        have : isK Mm.client c m = false := by rw [isK]; exact decide_eq_false (fun e => hc e.symm)
        simp [List.find?_cons, this]
theorem keepL_ok {xs : List Mm} (h : Apt xs) : rightN (keepL xs) = true ∧ (keepL xs).length = xs.length ∧ ∀ c, (keepL xs).find? (isK Mm.client c) = xs.find? (isK Mm.client c) := keepL_all xs.length xs rfl h
theorem apt_find {xs : List Mm} (h : xs.Pairwise fun a b => a.client ≠ b.client) {x : Mm} (hx : x ∈ xs) : xs.find? (isK Mm.client x.client) = some x := by
  obtain ⟨i, hi⟩ := List.mem_iff_getElem?.1 hx
  refine findK_first hi (List.find?_eq_none.2 fun y hy => ?_) (isK_iff.2 rfl)
  obtain ⟨j, hj, hjy⟩ := List.mem_take_iff_getElem.1 hy
  have hil := lt_of_get hi
  have := List.pairwise_iff_getElem.1 h j i (by omega) hil (by omega)
  rw [List.getElem?_eq_getElem hil] at hi
  rw [Option.some.inj hi, hjy] at this
  rw [isK_iff]; exact this
/-- The same answers in another order: the same is kept. -/
theorem keepL_perm {xs ys : List Mm} (hx : Apt xs) (hy : Apt ys) (h : ∀ m, m ∈ xs ↔ m ∈ ys) : keepL xs = keepL ys := by
  obtain ⟨a1, a2, a3⟩ := keepL_ok hx
  obtain ⟨b1, b2, b3⟩ := keepL_ok hy
  refine upK_ext (right_up a1) (right_up b1) fun c => ?_
  rw [a3, b3]
  cases hf : xs.find? (isK Mm.client c) with
  | some m =>
    obtain ⟨h1, h2⟩ := find_key hf
    have := apt_find hy.2 ((h m).1 h2)
    rw [h1] at this; exact this.symm
  | none =>
    symm
    refine find_none_of fun m hm e => ?_
    exact find_none_key hf m ((h m).2 hm) e
/-- One place further, round and round. -/
def turnN (xs : List Mm) (t : Nat) (j : Nat) : Mm := xs.getD ((j + t) % xs.length) ⟨0, 0, 0, 0, 0, []⟩
def turnL (xs : List Mm) (t : Nat) (n : Nat) : List Mm := (List.range n).map (turnN xs t)
theorem turnL_succ (xs : List Mm) (t n : Nat) : turnL xs t (n + 1) = turnL xs t n ++ [turnN xs t n] := by simp [turnL, List.range_succ]
theorem turnL_len (xs : List Mm) (t n : Nat) : (turnL xs t n).length = n := by simp [turnL]
theorem turnN_get {xs : List Mm} {t j : Nat} (h : 0 < xs.length) : xs[(j + t) % xs.length]? = some (turnN xs t j) := by
  have := Nat.mod_lt (j + t) h
  rw [turnN, List.getD_eq_getElem?_getD]
  obtain ⟨x, hx⟩ := get_of_lt this
  rw [hx]; rfl
theorem mod_inj {n t i j : Nat} (hi : i < n) (hj : j < n) (h : (i + t) % n = (j + t) % n) : i = j := by
  have h1 := Nat.mod_add_div (i + t) n
  have h2 := Nat.mod_add_div (j + t) n
  rw [h] at h1
  have h3 : (i : Int) - j = n * ((i + t) / n : Nat) - n * ((j + t) / n : Nat) := by
    have e1 : (i : Int) + t = ((j + t) % n : Nat) + n * ((i + t) / n : Nat) := by exact_mod_cast h1.symm
    have e2 : (j : Int) + t = ((j + t) % n : Nat) + n * ((j + t) / n : Nat) := by exact_mod_cast h2.symm
    omega
  rw [← Int.mul_sub] at h3
  generalize (((i + t) / n : Nat) : Int) - (((j + t) / n : Nat) : Int) = k at h3
  rcases Int.lt_trichotomy k 0 with hk | hk | hk
  · have : (n : Int) * k ≤ n * (-1) := Int.mul_le_mul_of_nonneg_left (by omega) (by omega)
    omega
  · subst hk; omega
  · have : (n : Int) * 1 ≤ n * k := Int.mul_le_mul_of_nonneg_left (by omega) (by omega)
    omega
theorem turn_apt {xs : List Mm} (t : Nat) (h : Apt xs) (h0 : 0 < xs.length) (n : Nat) (hn : n ≤ xs.length) : Apt (turnL xs t n) := by
  constructor
  · intro m hm
    obtain ⟨j, hj, rfl⟩ := List.mem_map.1 hm
    exact h.1 _ (List.mem_of_getElem? (turnN_get h0))
  · rw [turnL, List.pairwise_map]
    refine (List.nodup_range (n := n)).imp_of_mem fun {a b} ha hb hab e => ?_
    have ha := List.mem_range.1 ha
    have hb := List.mem_range.1 hb
    have g1 := turnN_get (t := t) (j := a) h0
    have g2 := turnN_get (t := t) (j := b) h0
    have l1 := lt_of_get g1
    have l2 := lt_of_get g2
    rw [List.getElem?_eq_getElem l1] at g1
    rw [List.getElem?_eq_getElem l2] at g2
    rcases Nat.lt_trichotomy ((a + t) % xs.length) ((b + t) % xs.length) with q | q | q
    · have := List.pairwise_iff_getElem.1 h.2 _ _ l1 l2 q
      rw [Option.some.inj g1, Option.some.inj g2] at this
      exact this e
    · exact hab (mod_inj (by omega) (by omega) q)
    · have := List.pairwise_iff_getElem.1 h.2 _ _ l2 l1 q
      rw [Option.some.inj g1, Option.some.inj g2] at this
      exact this e.symm
theorem turn_mem {xs : List Mm} (t : Nat) (h0 : 0 < xs.length) (m : Mm) : m ∈ xs ↔ m ∈ turnL xs t xs.length := by
  constructor
  · intro hm
    obtain ⟨i, hi⟩ := List.mem_iff_getElem?.1 hm
    have hil := lt_of_get hi
    refine List.mem_map.2 ⟨(i + (xs.length - t % xs.length)) % xs.length, List.mem_range.2 (Nat.mod_lt _ h0), ?_⟩
    have hm2 := Nat.mod_lt t h0
    have e : ((i + (xs.length - t % xs.length)) % xs.length + t) % xs.length = i := by
      rw [Nat.mod_add_mod, show i + (xs.length - t % xs.length) + t = i + xs.length + (t - t % xs.length) by have := Nat.mod_le t xs.length; omega]
      have : t - t % xs.length = xs.length * (t / xs.length) := by have := Nat.mod_add_div t xs.length; omega
      rw [this, Nat.add_mul_mod_self_left, Nat.add_mod_right, Nat.mod_eq_of_lt hil]
    rw [turnN, e, List.getD_eq_getElem?_getD, hi]; rfl
  · intro hm
    obtain ⟨j, hj, rfl⟩ := List.mem_map.1 hm
    exact List.mem_of_getElem? (turnN_get h0)
/-- What is kept so far, in both orders. -/
theorem keep_two {xs : List Mm} (t : Nat) (h : Apt xs) (h0 : 0 < xs.length) : keepL (turnL xs t xs.length) = keepL xs := (keepL_perm h (turn_apt t h h0 _ (Nat.le_refl _)) (turn_mem t h0)).symm
theorem Apt.take {xs : List Mm} (h : Apt xs) (n : Nat) : Apt (xs.take n) := ⟨fun m hm => h.1 m (List.mem_of_mem_take hm), h.2.sublist (List.take_sublist _ _)⟩
end Go.Proofs.Ytlfbofnfhhddbaa
