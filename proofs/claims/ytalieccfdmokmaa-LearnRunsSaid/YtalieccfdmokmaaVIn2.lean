/-
  What is looked at grows by a chunk; a thing put among things that rise, as one goes along them. No program here.
-/
import Derived.Test.YtalieccfdmokmaaVPut
import Derived.Test.YtalieccfdmokmaaVObj
namespace Go.V
set_option linter.unusedSimpArgs false
set_option linter.unusedVariables false
open Go.RowKit
/-- What is looked at, and what one more chunk tells, are one. -/
theorem SH.blend {U G : Nat → Prop} {w0 w : World} {L : List Ch} {F : Nat → Prop} {A A' : World → Prop} {c : Ch} (H : SH U G w0 w (.I F A :: c :: L)) (hc : ¬ c.own) (hst : Ch.St (fun b => F b ∨ c.F b) A') (hA : A w → c.A w → A' w) : SH U G w0 w (.I (fun b => F b ∨ c.F b) A' :: L) := by
  have h1 := H.val.1 (.I F A) (by simp)
  have h2 := H.val.1 c (by simp)
  have hp := List.pairwise_cons.1 H.val.2
  have hp2 := List.pairwise_cons.1 hp.2
  refine ⟨H.ext, Val.cons ⟨hA h1.holds h2.holds, hst, fun b hb => hb.elim (h1.lt b) (h2.lt b), fun h => h.elim, fun b hb => hb.elim (h1.imm b) (h2.imm b)⟩
    ⟨fun d hd => H.val.1 d (by simp [hd]), hp2.2⟩ fun d hd hod b hb hb2 => ?_⟩
  rcases hod with hod | hod
  · exact hod
  · rcases hb with hb | hb
    · exact hp.1 d (by simp [hd]) (.inr hod) b hb hb2
    · exact hp2.1 d hd (.inr hod) b hb hb2
theorem SH.addI {U G : Nat → Prop} {w0 w : World} {L : List Ch} {A : World → Prop} (H : SH U G w0 w L) (hst : Ch.St Non A) (hA : A w) : SH U G w0 w (L ++ [.I Non A]) :=
  H.call ⟨Ext.refl _ _, Val.one ⟨hA, hst, fun b h => h.elim, fun h => h.elim, fun b h => h.elim⟩⟩
section
variable {α : Type} {k : α → Int} {l : List α} {n : Int} {m s : α}
/-- A thing put among things that rise, as one goes along them (another way). -/
def ins2S (k : α → Int) (m : α) (s : Bool × List α) (x : α) : Bool × List α :=
  let t := if s.1 = false ∧ k m ≤ k x then (true, s.2 ++ [m]) else s
  if k x ≠ k m then (t.1, t.2 ++ [x]) else t
def ins2P (k : α → Int) (m : α) (l : List α) (i : Nat) : Bool × List α := (l.take i).foldl (ins2S k m) (false, [])
theorem ins2P_0 : ins2P k m l 0 = (false, []) := rfl
theorem ins2P_succ {i : Nat} (hx : l[i]? = some s) : ins2P k m l (i + 1) = ins2S k m (ins2P k m l i) s := by
  rw [ins2P, V.take_snoc hx, List.foldl_append]; rfl
theorem ins2_lt : ∀ {A acc : List α}, (∀ x ∈ A, k x < k m) → A.foldl (ins2S k m) (false, acc) = (false, acc ++ A)
  | [], acc, _ => by simp
  | a :: A, acc, h => by
    have h1 := h a (by simp)
    have e : ins2S k m (false, acc) a = (false, acc ++ [a]) := by
      rw [ins2S, if_neg (show ¬ ((false : Bool) = false ∧ k m ≤ k a) from fun h => by omega), if_pos (show k a ≠ k m by omega)]
    rw [List.foldl_cons, e, ins2_lt (fun x hx => h x (by simp [hx])), List.append_assoc]; rfl
theorem ins2_gt : ∀ {B acc : List α}, (∀ x ∈ B, k m < k x) → B.foldl (ins2S k m) (true, acc) = (true, acc ++ B)
  | [], acc, _ => by simp
  | b :: B, acc, h => by
    have h1 := h b (by simp)
    have e : ins2S k m (true, acc) b = (true, acc ++ [b]) := by
      rw [ins2S, if_neg (show ¬ ((true : Bool) = false ∧ k m ≤ k b) from fun h => by cases h.1), if_pos (show k b ≠ k m by omega)]
    rw [List.foldl_cons, e, ins2_gt (fun x hx => h x (by simp [hx])), List.append_assoc]; rfl
theorem ins2P_end (h : UpK k l) : (if (ins2P k m l l.length).1 = true then (ins2P k m l l.length).2 else (ins2P k m l l.length).2 ++ [m]) = putK k l m := by
  rw [ins2P, List.take_length]
  rcases findK_place (n := k m) h with ⟨-, s, hs, hc, -⟩ | ⟨-, -, hno⟩
  · obtain ⟨h1, h2⟩ := partK_in h hs hc
    rw [putK_split [s] (by rw [List.append_assoc]; exact part_at hs) (fun x hx => by rw [List.mem_singleton] at hx; rw [hx]; exact hc) h1 h2]
    have e : ins2S k m (false, [] ++ l.take (atK k l (k m))) s = (true, [] ++ l.take (atK k l (k m)) ++ [m]) := by
      rw [ins2S, if_pos (show (false : Bool) = false ∧ k m ≤ k s from ⟨rfl, by omega⟩), if_neg (show ¬ (k s ≠ k m) by omega)]
    conv => lhs; rw [part_at hs]
    rw [List.foldl_append, ins2_lt h1, List.foldl_cons, e, ins2_gt h2]
    simp
  · obtain ⟨h1, h2⟩ := partK_out h hno
    rw [putK_out h hno]
    conv => lhs; rw [← List.take_append_drop (atK k l (k m)) l]
    rw [List.foldl_append, ins2_lt h1]
    generalize l.drop (atK k l (k m)) = B at h2
    match B, h2 with
    | [], _ => simp
    | b :: B, h2 =>
      have h3 := h2 b (by simp)
      have e : ins2S k m (false, [] ++ l.take (atK k l (k m))) b = (true, [] ++ l.take (atK k l (k m)) ++ [m] ++ [b]) := by
        rw [ins2S, if_pos (show (false : Bool) = false ∧ k m ≤ k b from ⟨rfl, by omega⟩), if_pos (show k b ≠ k m by omega)]
      rw [List.foldl_cons, e, ins2_gt (fun x hx => h2 x (by simp [hx]))]
      simp
theorem ins2P_len : ∀ (i : Nat), (ins2P k m l i).2.length ≤ 2 * i
  | 0 => by simp [ins2P_0]
  | i + 1 => by
    have ih := ins2P_len i
    cases hx : l[i]? with
    | none =>
      have : l.length ≤ i := by simpa using hx
      rw [ins2P, List.take_of_length_le (by omega)]
      rw [ins2P, List.take_of_length_le (by omega)] at ih
      omega
    | some s =>
      rw [ins2P_succ hx, ins2S]
      split <;> split <;> simp <;> omega
end
end Go.V
